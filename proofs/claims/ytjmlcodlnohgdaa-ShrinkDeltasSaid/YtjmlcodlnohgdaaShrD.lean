/-
  The walks of the laws on shrink.
-/
import Derived.Test.YtjmlcodlnohgdaaShrF
import Derived.Test.YtjmlcodlnohgdaaC7
set_option linter.unusedVariables false
set_option linter.unusedSimpArgs false
namespace Go.Proofs.Ytjmlcodlnohgdaa
open Go Brv Brv.Crc Brv.Shrink
theorem shrDeltas_ok (a0 a1 a2 a3 : Option Addr) (n0 c0 n1 c1 n2 c2 n3 c3 : Nat) (l0 l1 l2 : List UInt8) (w : World) (q0 : Bs w a0 n0 l0) (hc0 : n0 ≤ c0) (q1 : Bs w a1 n1 l1) (hc1 : n1 ≤ c1) (q2 : Bs w a2 n2 l2) (hc2 : n2 ≤ c2) (hn3 : n3 ≤ 140737488351232) : Meets Try.prog 11 [.slice a0 n0 c0, .slice a1 n1 c1, .agg #[.slice a2 n2 c2, .slice a3 n3 c3]] w (fun v w' => v = .bool true ∧ Ext [] w w') := by
  refine Meets.enter Try.func11 rfl 113 rfl (Nat.le_of_ble_eq_true rfl) ?_
  have E := Ext.refl [] w
  have hl0 := q0.len
  have hl1 := q1.len
  have hl2 := q2.len
  have hgl := growF_len (n3 : Int) l2
  refine G.seq ?_
  refine G.region ?_
  refine L.do rfl rfl (R.box rfl) ?_
  rintro _ w0 ⟨b5, rfl, hb5, hs5, e0, B5⟩
  replace q0 := q0.ext0 e0
  replace q1 := q1.ext0 e0
  replace q2 := q2.ext0 e0
  replace E := E.trans0 e0
  refine L.val rfl rfl (R.as rfl) ?_
  refine L.nil ?_
  refine N.seq ?_
  refine G.seq ?_
  refine G.seq ?_
  refine G.region ?_
  refine L.callF rfl rfl rfl go51 (shr_first_ok _) ?_
  rintro _ w1 ⟨rfl, e1⟩
  replace q0 := q0.ext0 e1
  replace q1 := q1.ext0 e1
  replace q2 := q2.ext0 e1
  replace B5 := B5.ext0 e1
  replace E := E.trans0 e1
  refine L.val rfl rfl (R.not rfl) ?_
  refine L.nil ?_
  refine N.seq ?_
  refine G.condF rfl ?_
  refine G.skip ?_
  refine N.seq ?_
  refine G.seq ?_
  refine G.quiet (by decide +kernel) rfl ?_
  refine Q.val rfl rfl rfl rfl (fun w2 hE => R.idxA rfl rfl (by decide) (by decide) _ rfl) ?_
  refine Q.val rfl rfl rfl rfl (fun w2 hE => R.ldB rfl (Blk.ext0 (by assumption) hE) (by rfl)) ?_
  refine Q.val rfl rfl rfl rfl (fun w2 hE => R.idxA rfl rfl (by decide) (by decide) _ rfl) ?_
  refine Q.val rfl rfl rfl rfl (fun w2 hE => R.ldB rfl (Blk.ext0 (by assumption) hE) (by rfl)) ?_
  refine Q.val rfl rfl rfl rfl (fun w2 hE => R.lenS rfl) ?_
  refine Q.val rfl rfl rfl rfl (fun w2 hE => R.as rfl) ?_
  refine Q.val rfl rfl rfl rfl (fun w2 hE => R.as rfl) ?_
  refine Q.nil (fun w2 e2 => ?_)
  replace q0 := q0.ext0 e2
  replace q1 := q1.ext0 e2
  replace q2 := q2.ext0 e2
  replace B5 := B5.ext0 e2
  replace E := E.trans0 e2
  refine N.seq ?_
  refine G.seq ?_
  refine G.seq ?_
  refine G.region ?_
  refine L.val rfl rfl (R.mv rfl) ?_
  refine L.val rfl rfl (R.lenS rfl) ?_
  refine L.val rfl rfl (R.gtr rfl rfl) ?_
  refine L.val rfl rfl (R.mv rfl) ?_
  refine L.caseP 25 rfl (fun hg4_3 => ?_) (fun hg4_3 => ?_)
  · refine L.pass rfl rfl ?_
    refine L.pass rfl rfl ?_
    refine L.pass rfl rfl ?_
    first | refine L.val rfl rfl (R.pickT rfl rfl) ?_ | refine L.val rfl rfl (R.pickF rfl rfl) ?_
    refine L.val rfl rfl (R.mv rfl) ?_
    refine L.pass rfl rfl ?_
    refine L.pass rfl rfl ?_
    refine L.pass rfl rfl ?_
    first | refine L.val rfl rfl (R.pickT rfl rfl) ?_ | refine L.val rfl rfl (R.pickF rfl rfl) ?_
    refine L.nil ?_
    refine N.seq ?_
    refine G.condT rfl ?_
    refine G.seq ?_
    refine G.region ?_
    refine L.val rfl rfl (R.as rfl) ?_
    refine L.nil ?_
    refine N.seq ?_
    refine G.ret1 rfl rfl ?_
    first | exact ⟨rfl, E⟩ | exact ⟨congrArg Value.bool (by simp), E⟩
  · refine L.val rfl rfl (R.mv rfl) ?_
    refine L.val rfl rfl (R.lenS rfl) ?_
    refine L.val rfl rfl (R.gtr rfl rfl) ?_
    first | refine L.val rfl rfl (R.pickT rfl rfl) ?_ | refine L.val rfl rfl (R.pickF rfl rfl) ?_
    refine L.val rfl rfl (R.mv rfl) ?_
    refine L.caseP 30 rfl (fun hg4_8 => ?_) (fun hg4_8 => ?_)
    · refine L.pass rfl rfl ?_
      refine L.pass rfl rfl ?_
      refine L.pass rfl rfl ?_
      first | refine L.val rfl rfl (R.pickT rfl rfl) ?_ | refine L.val rfl rfl (R.pickF rfl rfl) ?_
      refine L.nil ?_
      refine N.seq ?_
      refine G.condT rfl ?_
      refine G.seq ?_
      refine G.region ?_
      refine L.val rfl rfl (R.as rfl) ?_
      refine L.nil ?_
      refine N.seq ?_
      refine G.ret1 rfl rfl ?_
      first | exact ⟨rfl, E⟩ | exact ⟨congrArg Value.bool (by simp), E⟩
    · refine L.val rfl rfl (R.mv rfl) ?_
      refine L.val rfl rfl (R.lenS rfl) ?_
      refine L.val rfl rfl (R.gtr rfl rfl) ?_
      first | refine L.val rfl rfl (R.pickT rfl rfl) ?_ | refine L.val rfl rfl (R.pickF rfl rfl) ?_
      refine L.nil ?_
      refine N.seq ?_
      refine G.condP rfl (fun h1 => ?_) (fun h1 => ?_)
      · refine G.seq ?_
        refine G.region ?_
        refine L.val rfl rfl (R.as rfl) ?_
        refine L.nil ?_
        refine N.seq ?_
        refine G.ret1 rfl rfl ?_
        first | exact ⟨rfl, E⟩ | exact ⟨congrArg Value.bool (by simp), E⟩
      · refine G.skip ?_
        refine N.seq ?_
        refine G.seq ?_
        refine G.region ?_
        refine L.val rfl rfl (R.mv rfl) ?_
        refine L.val rfl rfl (R.mv rfl) ?_
        refine L.val rfl rfl (R.mv rfl) ?_
        refine L.callF rfl rfl rfl go56 (undo_ok _ _ _ _ _ _ _ _ (n3 : Int) _ q0 q2 (by omega) hc2 (by omega) (by omega)) ?_
        rintro _ w2 ⟨a4, c4, rfl, e2, g4, _⟩
        replace q0 := q0.ext0 e2
        replace q1 := q1.ext0 e2
        replace q2 := q2.ext0 e2
        replace B5 := B5.ext0 e2
        replace E := E.trans0 e2
        refine L.val rfl rfl (R.mv rfl) ?_
        refine L.val rfl rfl (R.ext rfl rfl) ?_
        refine L.val rfl rfl (R.ext rfl rfl) ?_
        refine L.val rfl rfl (R.as rfl) ?_
        refine L.val rfl rfl (R.as rfl) ?_
        refine L.nil ?_
        refine N.seq ?_
        refine G.seq ?_
        refine G.region ?_
        refine L.val rfl rfl (R.mv rfl) ?_
        refine L.val rfl rfl (R.mv rfl) ?_
        refine L.callF rfl rfl rfl go53 (refgrow_ok _ _ _ _ (n3 : Int) _ q2 hc2 (by omega)) ?_
        rintro _ w3 ⟨rfl, e3⟩
        replace q0 := q0.ext0 e3
        replace q1 := q1.ext0 e3
        replace q2 := q2.ext0 e3
        replace B5 := B5.ext0 e3
        replace g4 := g4.ext0 e3
        replace E := E.trans0 e3
        have E0 := E
        refine L.val rfl rfl (R.mv rfl) ?_
        refine L.val rfl rfl (R.ext rfl rfl) ?_
        refine L.val rfl rfl (R.ext rfl rfl) ?_
        refine L.val rfl rfl (R.as rfl) ?_
        refine L.val rfl rfl (R.as rfl) ?_
        refine L.nil ?_
        refine N.seq ?_
        refine G.seq ?_
        refine G.region ?_
        refine L.val rfl rfl (R.as rfl) ?_
        refine L.nil ?_
        refine N.seq ?_
        refine G.seq ?_
        refine G.seq ?_
        refine G.region ?_
        refine L.val rfl rfl (R.mv rfl) ?_
        refine L.val rfl rfl (R.lenS rfl) ?_
        refine L.val rfl rfl (R.as rfl) ?_
        refine L.nil ?_
        refine N.seq ?_
        refine G.block ?_
        refine G.be 14 rfl (show Value.int .i64 (n1 : Int) = .int .i64 ((n1 : Int) - 128 * ((0 : Nat) : Int)) by congr 1) ?_
        refine G.loop (X := Nat) (fun k => [(0, .slice a0 n0 c0), (1, .slice a1 n1 c1), (7, .slice a2 n2 c2), (8, .int .i64 (n3 : Int)), (9, .slice a4 (undoF (n3 : Int) l0 l2).length c4), (10, .int .i64 (growF (n3 : Int) l2).2), (11, .string (str (growF (n3 : Int) l2).1)), (12, .int .i64 (growF (n3 : Int) l2).2), (13, .int .i64 (k : Int)), (14, .int .i64 ((n1 : Int) - 128 * (k : Int)))]) (fun k w' => (k = 0 ∨ 128 * k < n1 + 128) ∧ w' = w3) (fun k => n1 + 128 - 128 * k) (0) (Sub.cons rfl (Sub.cons rfl (Sub.cons rfl (Sub.cons rfl (Sub.cons rfl (Sub.cons rfl (Sub.cons rfl (Sub.cons rfl (Sub.cons rfl (Sub.cons rfl (Sub.nil _))))))))))) ⟨.inl rfl, rfl⟩ ?_
        rintro k _ ⟨hk, rfl⟩
        refine G.seq ?_
        refine G.seq ?_
        refine G.region ?_
        refine L.val rfl rfl (R.mv rfl) ?_
        refine L.val rfl rfl (R.gtr rfl rfl) ?_
        refine L.nil ?_
        refine N.seq ?_
        refine G.condP rfl (fun h2 => ?_) (fun h2 => ?_)
        · refine G.skip ?_
          refine N.seq ?_
          refine G.seq ?_
          refine G.block ?_
          refine G.region ?_
          refine L.val rfl rfl (R.mv rfl) ?_
          refine L.val rfl rfl (R.add rfl rfl (by omega)) ?_
          refine L.val rfl rfl (R.as rfl) ?_
          refine L.nil ?_
          refine N.block ?_
          refine N.seq ?_
          refine G.region ?_
          refine L.val rfl rfl (R.mv rfl) ?_
          refine L.val rfl rfl (R.sub' rfl rfl (by omega)) ?_
          refine L.be 53 rfl (show Value.int .i64 ((n1 : Int) - 128 * (k : Int) - 128) = .int .i64 ((n1 : Int) - 128 * ((k + 1 : Nat) : Int)) by congr 1; omega) ?_
          refine L.val rfl rfl (R.as rfl) ?_
          refine L.nil ?_
          exact N.again (k + 1) (by omega) (Sub.cons rfl (Sub.cons rfl (Sub.cons rfl (Sub.cons rfl (Sub.cons rfl (Sub.cons rfl (Sub.cons rfl (Sub.cons rfl (Sub.cons rfl (Sub.cons rfl (Sub.nil _))))))))))) ⟨by omega, rfl⟩
        · refine G.exit _ rfl ?_
          refine N.seq ?_
          refine G.seq ?_
          refine G.quiet (by decide +kernel) rfl ?_
          refine Q.val rfl rfl rfl rfl (fun w4 hE => R.mv rfl) ?_
          refine Q.val rfl rfl rfl rfl (fun w4 hE => R.mv rfl) ?_
          refine Q.callR (A := IsBs (shrinkF (laidF l0 l1)).length (shrinkF (laidF l0 l1))) (IsBs.keep _ _) rfl rfl go57 (fun w4 hE => ⟨_, rfl, (delta_ok _ _ _ _ _ _ _ _ _ (q0.ext0 hE) (q1.ext0 hE) (by omega) hc1 (by omega)).mono (fun _ _ h => ⟨h.is, h.ext⟩)⟩) ?_
          refine Q.val rfl rfl rfl rfl (fun w4 hE => fun v hv => by obtain ⟨x1, y1, rfl, _, hv⟩ := hv; exact R.bytesStr rfl hv.cells hv.len) ?_
          refine Q.val rfl rfl rfl rfl (fun w4 hE => R.mv rfl) ?_
          refine Q.val rfl rfl rfl rfl (fun w4 hE => R.mv rfl) ?_
          refine Q.val rfl rfl rfl rfl (fun w4 hE => R.bytesStr rfl (q1.ext0 hE).cells q1.len) ?_
          refine Q.callR (A := IsBs l1.length (laidF l0 l1)) (IsBs.keep _ _) rfl rfl go58 (fun w4 hE => ⟨_, rfl, (reflaid_ok _ _ _ _ l1 _ (q0.ext0 hE) (by omega)).mono (fun _ _ h => by obtain ⟨x, y, rfl, e, hb, hy⟩ := h; exact ⟨⟨x, y, rfl, hy, hb⟩, e⟩)⟩) ?_
          refine Q.call (.string (str (shrinkF (laidF l0 l1)))) rfl rfl rfl go55 (fun w4 hE => fun v hv => by obtain ⟨x1, y1, rfl, hy, hv⟩ := hv; exact ⟨_, rfl, (refshrink_ok _ _ _ _ _ hv hy (by omega)).mono (fun _ _ h => h)⟩) ?_
          refine Q.val rfl rfl rfl rfl (fun w4 hE => R.eqStr rfl rfl) ?_
          refine Q.val rfl rfl rfl rfl (fun w4 hE => R.mv rfl) ?_
          refine Q.isT 66 rfl (by simp) ?_
          refine Q.val rfl rfl rfl rfl (fun w4 hE => R.mv rfl) ?_
          refine Q.val rfl rfl rfl rfl (fun w4 hE => R.mv rfl) ?_
          refine Q.val rfl rfl rfl rfl (fun w4 hE => R.eqI rfl rfl) ?_
          first | refine Q.val rfl rfl rfl rfl (fun w4 hE => R.pickT rfl rfl) ?_ | refine Q.val rfl rfl rfl rfl (fun w4 hE => R.pickF rfl rfl) ?_
          refine Q.val rfl rfl rfl rfl (fun w4 hE => R.mv rfl) ?_
          refine Q.isT 71 rfl (by simp) ?_
          refine Q.val rfl rfl rfl rfl (fun w4 hE => R.mv rfl) ?_
          refine Q.val rfl rfl rfl rfl (fun w4 hE => R.neI rfl rfl) ?_
          refine Q.val rfl rfl rfl rfl (fun w4 hE => R.mv rfl) ?_
          refine Q.caseP 74 rfl (fun hg13_18 => ?_) (fun hg13_18 => ?_)
          · have hu : undoF (n3 : Int) l0 l2 = [] := if_neg hg13_18
            refine Q.val rfl rfl rfl rfl (fun w4 hE => R.mv rfl) ?_
            refine Q.val rfl rfl rfl rfl (fun w4 hE => R.lenS rfl) ?_
            refine Q.val rfl rfl rfl rfl (fun w4 hE => R.eqI rfl rfl) ?_
            first | refine Q.val rfl rfl rfl rfl (fun w4 hE => R.pickT rfl rfl) ?_ | refine Q.val rfl rfl rfl rfl (fun w4 hE => R.pickF rfl rfl) ?_
            refine Q.val rfl rfl rfl rfl (fun w4 hE => R.mv rfl) ?_
            refine Q.isT 79 rfl (by rw [hu]; rfl) ?_
            refine Q.pass rfl rfl rfl ?_
            refine Q.pass rfl rfl rfl ?_
            refine Q.pass rfl rfl rfl ?_
            refine Q.pass rfl rfl rfl ?_
            refine Q.pass rfl rfl rfl ?_
            refine Q.pass rfl rfl rfl ?_
            refine Q.pass rfl rfl rfl ?_
            refine Q.pass rfl rfl rfl ?_
            refine Q.pass rfl rfl rfl ?_
            refine Q.pass rfl rfl rfl ?_
            refine Q.pass rfl rfl rfl ?_
            first | refine Q.val rfl rfl rfl rfl (fun w4 hE => R.pickT rfl rfl) ?_ | refine Q.val rfl rfl rfl rfl (fun w4 hE => R.pickF rfl rfl) ?_
            first | refine Q.val rfl rfl rfl rfl (fun w4 hE => R.pickT rfl rfl) ?_ | refine Q.val rfl rfl rfl rfl (fun w4 hE => R.pickF rfl rfl) ?_
            refine Q.val rfl rfl rfl rfl (fun w4 hE => R.mv rfl) ?_
            refine Q.val rfl rfl rfl rfl (fun w4 hE => R.mv rfl) ?_
            refine Q.val rfl rfl rfl rfl (fun w4 hE => R.lenS rfl) ?_
            refine Q.call (.int .i64 (if (n1 : Int) < 1 then 0 else (n1 : Int) + ((n1 : Int) + 127) / 128)) rfl rfl rfl go59 (fun w4 hE => ⟨_, rfl, (worst_ok (n1 : Int) _ (by omega)).mono (by rintro _ _ ⟨rfl, rfl⟩; exact ⟨rfl, Ext.refl _ _⟩)⟩) ?_
            refine Q.val rfl rfl rfl rfl (fun w4 hE => R.mv rfl) ?_
            refine Q.val rfl rfl rfl rfl (fun w4 hE => R.mv rfl) ?_
            refine Q.val rfl rfl rfl rfl (fun w4 hE => R.lenS rfl) ?_
            refine Q.val rfl rfl rfl rfl (fun w4 hE => R.add rfl rfl (by omega)) ?_
            refine Q.val rfl rfl rfl rfl (fun w4 hE => R.eqI rfl rfl) ?_
            first | refine Q.val rfl rfl rfl rfl (fun w4 hE => R.pickT rfl rfl) ?_ | refine Q.val rfl rfl rfl rfl (fun w4 hE => R.pickF rfl rfl) ?_
            refine Q.val rfl rfl rfl rfl (fun w4 hE => R.mv rfl) ?_
            refine Q.isT 103 rfl (decide_eq_true (by split <;> omega)) ?_
            refine Q.val rfl rfl rfl rfl (fun w4 hE => R.mv rfl) ?_
            refine Q.val rfl rfl rfl rfl (fun w4 hE => R.negW rfl (-(n3 : Int)) (by rw [Int.zero_sub]; exact wrap_i64 (by omega))) ?_
            refine Q.call (.int .i64 0) rfl rfl rfl go59 (fun w4 hE => ⟨_, rfl, (worst_ok (-(n3 : Int)) _ (by omega)).mono (by rintro _ _ ⟨rfl, rfl⟩; exact ⟨by rw [if_pos (by omega)], Ext.refl _ _⟩)⟩) ?_
            refine Q.val rfl rfl rfl rfl (fun w4 hE => R.mv rfl) ?_
            refine Q.val rfl rfl rfl rfl (fun w4 hE => R.negW rfl (-(n3 : Int)) (by rw [Int.zero_sub]; exact wrap_i64 (by omega))) ?_
            refine Q.call (.int .i64 0) rfl rfl rfl go59 (fun w4 hE => ⟨_, rfl, (worst_ok (-(n3 : Int)) _ (by omega)).mono (by rintro _ _ ⟨rfl, rfl⟩; exact ⟨by rw [if_pos (by omega)], Ext.refl _ _⟩)⟩) ?_
            refine Q.val rfl rfl rfl rfl (fun w4 hE => R.max rfl rfl _ rfl) ?_
            refine Q.val rfl rfl rfl rfl (fun w4 hE => R.eqI rfl rfl) ?_
            first | refine Q.val rfl rfl rfl rfl (fun w4 hE => R.pickT rfl rfl) ?_ | refine Q.val rfl rfl rfl rfl (fun w4 hE => R.pickF rfl rfl) ?_
            refine Q.val rfl rfl rfl rfl (fun w4 hE => R.as rfl) ?_
            refine Q.nil (fun w4 e4 => ?_)
            intro v63 _ v58 _
            replace q0 := q0.ext0 e4
            replace q1 := q1.ext0 e4
            replace q2 := q2.ext0 e4
            replace B5 := B5.ext0 e4
            replace g4 := g4.ext0 e4
            replace E := E.trans0 e4
            refine N.seq ?_
            refine G.ret1 rfl rfl ?_
            first | exact ⟨rfl, E⟩ | exact ⟨congrArg Value.bool (by simp), E⟩
          · have hz : (growF (n3 : Int) l2).2 = 0 := Classical.not_not.1 hg13_18
            have hu : undoF (n3 : Int) l0 l2 = laidF l0 (growF (n3 : Int) l2).1 := if_pos hz
            refine Q.pass rfl rfl rfl ?_
            refine Q.pass rfl rfl rfl ?_
            refine Q.pass rfl rfl rfl ?_
            first | refine Q.val rfl rfl rfl rfl (fun w4 hE => R.pickT rfl rfl) ?_ | refine Q.val rfl rfl rfl rfl (fun w4 hE => R.pickF rfl rfl) ?_
            refine Q.val rfl rfl rfl rfl (fun w4 hE => R.mv rfl) ?_
            refine Q.val rfl rfl rfl rfl (fun w4 hE => R.mv rfl) ?_
            refine Q.val rfl rfl rfl rfl (fun w4 hE => R.eqI rfl rfl) ?_
            refine Q.val rfl rfl rfl rfl (fun w4 hE => R.mv rfl) ?_
            refine Q.isT 82 rfl (by rw [hz]; rfl) ?_
            refine Q.val rfl rfl rfl rfl (fun w4 hE => R.mv rfl) ?_
            refine Q.val rfl rfl rfl rfl (fun w4 hE => R.bytesStr rfl (g4.ext0 hE).cells g4.len) ?_
            refine Q.val rfl rfl rfl rfl (fun w4 hE => R.mv rfl) ?_
            refine Q.val rfl rfl rfl rfl (fun w4 hE => R.mv rfl) ?_
            refine Q.callR (A := IsBs (growF (n3 : Int) l2).1.length (laidF l0 (growF (n3 : Int) l2).1)) (IsBs.keep _ _) rfl rfl go58 (fun w4 hE => ⟨_, rfl, (reflaid_ok _ _ _ _ _ _ (q0.ext0 hE) (by omega)).mono (fun _ _ h => by obtain ⟨x, y, rfl, e, hb, hy⟩ := h; exact ⟨⟨x, y, rfl, hy, hb⟩, e⟩)⟩) ?_
            refine Q.val rfl rfl rfl rfl (fun w4 hE => fun v hv => by obtain ⟨x1, y1, rfl, _, hv⟩ := hv; exact R.bytesStr rfl hv.cells hv.len) ?_
            refine Q.val rfl rfl rfl rfl (fun w4 hE => R.eqStr rfl rfl) ?_
            first | refine Q.val rfl rfl rfl rfl (fun w4 hE => R.pickT rfl rfl) ?_ | refine Q.val rfl rfl rfl rfl (fun w4 hE => R.pickF rfl rfl) ?_
            first | refine Q.val rfl rfl rfl rfl (fun w4 hE => R.pickT rfl rfl) ?_ | refine Q.val rfl rfl rfl rfl (fun w4 hE => R.pickF rfl rfl) ?_
            first | refine Q.val rfl rfl rfl rfl (fun w4 hE => R.pickT rfl rfl) ?_ | refine Q.val rfl rfl rfl rfl (fun w4 hE => R.pickF rfl rfl) ?_
            refine Q.val rfl rfl rfl rfl (fun w4 hE => R.mv rfl) ?_
            refine Q.isT 93 rfl (by rw [hu]; simp) ?_
            refine Q.val rfl rfl rfl rfl (fun w4 hE => R.mv rfl) ?_
            refine Q.val rfl rfl rfl rfl (fun w4 hE => R.lenS rfl) ?_
            refine Q.call (.int .i64 (if (n1 : Int) < 1 then 0 else (n1 : Int) + ((n1 : Int) + 127) / 128)) rfl rfl rfl go59 (fun w4 hE => ⟨_, rfl, (worst_ok (n1 : Int) _ (by omega)).mono (by rintro _ _ ⟨rfl, rfl⟩; exact ⟨rfl, Ext.refl _ _⟩)⟩) ?_
            refine Q.val rfl rfl rfl rfl (fun w4 hE => R.mv rfl) ?_
            refine Q.val rfl rfl rfl rfl (fun w4 hE => R.mv rfl) ?_
            refine Q.val rfl rfl rfl rfl (fun w4 hE => R.lenS rfl) ?_
            refine Q.val rfl rfl rfl rfl (fun w4 hE => R.add rfl rfl (by omega)) ?_
            refine Q.val rfl rfl rfl rfl (fun w4 hE => R.eqI rfl rfl) ?_
            first | refine Q.val rfl rfl rfl rfl (fun w4 hE => R.pickT rfl rfl) ?_ | refine Q.val rfl rfl rfl rfl (fun w4 hE => R.pickF rfl rfl) ?_
            refine Q.val rfl rfl rfl rfl (fun w4 hE => R.mv rfl) ?_
            refine Q.isT 103 rfl (decide_eq_true (by split <;> omega)) ?_
            refine Q.val rfl rfl rfl rfl (fun w4 hE => R.mv rfl) ?_
            refine Q.val rfl rfl rfl rfl (fun w4 hE => R.negW rfl (-(n3 : Int)) (by rw [Int.zero_sub]; exact wrap_i64 (by omega))) ?_
            refine Q.call (.int .i64 0) rfl rfl rfl go59 (fun w4 hE => ⟨_, rfl, (worst_ok (-(n3 : Int)) _ (by omega)).mono (by rintro _ _ ⟨rfl, rfl⟩; exact ⟨by rw [if_pos (by omega)], Ext.refl _ _⟩)⟩) ?_
            refine Q.val rfl rfl rfl rfl (fun w4 hE => R.mv rfl) ?_
            refine Q.val rfl rfl rfl rfl (fun w4 hE => R.negW rfl (-(n3 : Int)) (by rw [Int.zero_sub]; exact wrap_i64 (by omega))) ?_
            refine Q.call (.int .i64 0) rfl rfl rfl go59 (fun w4 hE => ⟨_, rfl, (worst_ok (-(n3 : Int)) _ (by omega)).mono (by rintro _ _ ⟨rfl, rfl⟩; exact ⟨by rw [if_pos (by omega)], Ext.refl _ _⟩)⟩) ?_
            refine Q.val rfl rfl rfl rfl (fun w4 hE => R.max rfl rfl _ rfl) ?_
            refine Q.val rfl rfl rfl rfl (fun w4 hE => R.eqI rfl rfl) ?_
            first | refine Q.val rfl rfl rfl rfl (fun w4 hE => R.pickT rfl rfl) ?_ | refine Q.val rfl rfl rfl rfl (fun w4 hE => R.pickF rfl rfl) ?_
            refine Q.val rfl rfl rfl rfl (fun w4 hE => R.as rfl) ?_
            refine Q.nil (fun w4 e4 => ?_)
            intro v87 _ v63 _ v58 _
            replace q0 := q0.ext0 e4
            replace q1 := q1.ext0 e4
            replace q2 := q2.ext0 e4
            replace B5 := B5.ext0 e4
            replace g4 := g4.ext0 e4
            replace E := E.trans0 e4
            refine N.seq ?_
            refine G.ret1 rfl rfl ?_
            first | exact ⟨rfl, E⟩ | exact ⟨congrArg Value.bool (by simp), E⟩

theorem arr2_of {w : World} {f : Nat} {cs : Array Value} (h : Rd Try.prog w f 90 cs.toList) (hz : cs.size = 2) : ∃ a2 n2 c2 l2 a3 n3 c3 l3, cs = #[.slice a2 n2 c2, .slice a3 n3 c3] ∧ (n2 ≤ c2 ∧ Bs w a2 n2 l2) ∧ n3 ≤ c3 ∧ c3 ≤ 140737488351232 ∧ Bs w a3 n3 l3 := by
  have ra := h.arr Try.underlying90 (s := 1) (by kernel_rfl)
  obtain ⟨u0, u1, rfl⟩ : ∃ u0 u1, cs = #[u0, u1] := by
    obtain ⟨cl⟩ := cs
    match cl, hz with
    | [u0, u1], _ => exact ⟨u0, u1, rfl⟩
  obtain ⟨fa, ga⟩ := ra 0 (by decide)
  obtain ⟨fb, gb⟩ := ra 1 (by decide)
  replace ga : Rd Try.prog w fa 28 [u0] := ga
  replace gb : Rd Try.prog w fb 28 [u1] := gb
  obtain ⟨a2, n2, c2, l2, he, hc2, hn2, hr2, B2⟩ := ga.bytes (by kernel_rfl) (by kernel_rfl)
  cases he
  obtain ⟨a3, n3, c3, l3, he, hc3, hn3, hr3, B3⟩ := gb.bytes (by kernel_rfl) (by kernel_rfl)
  cases he
  exact ⟨_, _, _, l2, _, _, _, l3, rfl, ⟨hc2, B2⟩, hc3, hr3, B3⟩

end Go.Proofs.Ytjmlcodlnohgdaa
