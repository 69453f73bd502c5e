/-
  The walks of the laws on frame.
-/
import Derived.Test.YtjmlcodlnohgdaaFrameF
import Derived.Test.YtjmlcodlnohgdaaFrameA
set_option linter.unusedVariables false
set_option linter.unusedSimpArgs false
namespace Go.Proofs.Ytjmlcodlnohgdaa
open Go Brv Brv.Crc Brv.Pack Brv.Frame
theorem frameTells_ok (f : FrV) (a a1 : Option Addr) (c n1 c1 : Nat) (l1 : List UInt8) (w : World) (hb : Bs w a f.2.2.2.2.length f.2.2.2.2) (hc : f.2.2.2.2.length ≤ c) (hi : InV f) (q1 : Bs w a1 n1 l1) (hc1 : n1 ≤ c1) : Meets Try.prog 13 [.agg (frC f a c), .slice a1 n1 c1] w (fun v w' => v = .bool true ∧ Ext [] w w') := by
  refine Meets.enter Try.func13 rfl 57 rfl (Nat.le_of_ble_eq_true rfl) ?_
  have E := Ext.refl [] w
  have hl1 := q1.len
  refine G.seq ?_
  refine G.region ?_
  refine L.do rfl rfl (R.box rfl) ?_
  rintro _ w0 ⟨b2, rfl, hb2, hs2, e0, B2⟩
  replace B2 : Blk w0 b2 (frC f a c) 98 (0, 0) := B2
  replace hb := hb.ext0 e0
  replace q1 := q1.ext0 e0
  replace E := E.trans0 e0
  refine L.val rfl rfl (R.as rfl) ?_
  refine L.nil ?_
  refine N.seq ?_
  refine G.seq ?_
  refine G.seq ?_
  refine G.region ?_
  refine L.callF rfl rfl rfl go60 (frame_first_ok _) ?_
  rintro _ w2 ⟨rfl, e2⟩
  replace hb := hb.ext0 e2
  replace q1 := q1.ext0 e2
  replace B2 := B2.ext0 e2
  replace E := E.trans0 e2
  refine L.val rfl rfl (R.not rfl) ?_
  refine L.nil ?_
  refine N.seq ?_
  refine G.condF rfl ?_
  refine G.skip ?_
  refine N.seq ?_
  refine G.seq ?_
  refine G.seq ?_
  refine G.region ?_
  refine L.val rfl rfl (R.fld rfl) ?_
  refine L.val rfl rfl (R.ldB rfl B2 rfl) ?_
  refine L.val rfl rfl (R.lenS rfl) ?_
  refine L.val rfl rfl (R.gtr rfl rfl) ?_
  refine L.val rfl rfl (R.mv rfl) ?_
  refine L.caseP 16 rfl (fun hg3_4 => ?_) (fun hg3_4 => ?_)
  · refine L.pass rfl rfl ?_
    refine L.pass rfl rfl ?_
    refine L.pass rfl rfl ?_
    first | refine L.val rfl rfl (R.pickT rfl rfl) ?_ | refine L.val rfl rfl (R.pickF rfl rfl) ?_
    refine L.nil ?_
    refine N.seq ?_
    refine G.condT rfl ?_
    refine G.seq ?_
    refine G.region ?_
    refine L.val rfl rfl (R.as rfl) ?_
    refine L.nil ?_
    refine N.seq ?_
    refine G.ret1 rfl rfl ?_
    first | exact ⟨rfl, E⟩ | exact ⟨congrArg Value.bool (by simp), E⟩
  · refine L.val rfl rfl (R.mv rfl) ?_
    refine L.val rfl rfl (R.lenS rfl) ?_
    refine L.val rfl rfl (R.gtr rfl rfl) ?_
    first | refine L.val rfl rfl (R.pickT rfl rfl) ?_ | refine L.val rfl rfl (R.pickF rfl rfl) ?_
    refine L.nil ?_
    refine N.seq ?_
    refine G.condP rfl (fun h1 => ?_) (fun h1 => ?_)
    · refine G.seq ?_
      refine G.region ?_
      refine L.val rfl rfl (R.as rfl) ?_
      refine L.nil ?_
      refine N.seq ?_
      refine G.ret1 rfl rfl ?_
      first | exact ⟨rfl, E⟩ | exact ⟨congrArg Value.bool (by simp), E⟩
    · refine G.skip ?_
      refine N.seq ?_
      refine G.seq ?_
      refine G.region ?_
      refine L.val rfl rfl (R.as rfl) ?_
      refine L.nil ?_
      refine N.seq ?_
      refine G.seq ?_
      refine G.seq ?_
      refine G.region ?_
      refine L.val rfl rfl (R.ldBN rfl B2 rfl) ?_
      refine L.callF rfl rfl rfl go61 (rrightV_ok f a c _ hi) ?_
      rintro _ w3 ⟨rfl, e3⟩
      replace hb := hb.ext0 e3
      replace q1 := q1.ext0 e3
      replace B2 := B2.ext0 e3
      replace E := E.trans0 e3
      refine L.nil ?_
      refine N.seq ?_
      refine G.condP rfl (fun h2 => ?_) (fun h2 => ?_)
      · have hp : putV f = secV f := if_pos h2
        refine G.region ?_
        refine L.val rfl rfl (R.ldBN rfl B2 rfl) ?_
        refine L.callF rfl rfl rfl go62 (rputV_ok f a c _ h2 hb hc) ?_
        rintro _ w4 ⟨rfl, e4⟩
        replace hb := hb.ext0 e4
        replace q1 := q1.ext0 e4
        replace B2 := B2.ext0 e4
        replace E := E.trans0 e4
        refine L.val rfl rfl (R.as rfl) ?_
        refine L.nil ?_
        refine N.seq ?_
        refine G.seq ?_
        refine G.region ?_
        refine L.val rfl rfl (R.mv rfl) ?_
        refine L.callF rfl rfl rfl go63 (fget_ok _ _ _ _ _ q1 hc1 (by omega)) ?_
        rintro _ w5 ⟨a6, c6, rfl, e5, g6, hc6, hf6⟩
        replace hb := hb.ext0 e5
        replace q1 := q1.ext0 e5
        replace B2 := B2.ext0 e5
        replace E := E.trans0 e5
        refine L.val rfl rfl (R.mv rfl) ?_
        refine L.val rfl rfl (R.ext rfl rfl) ?_
        refine L.val rfl rfl (R.ext rfl rfl) ?_
        refine L.do rfl rfl (R.alloc) ?_
        rintro _ w6 ⟨b6, rfl, hzb6, hs6, e6, B6⟩
        have hEb6 := E.size
        refine L.set rfl (R.stN rfl rfl B6 rfl (Nat.le_refl 5) (frC_one (getF l1).1 a6 c6)) ?_
        rintro w7 ⟨e7, hs7, B6⟩
        replace B6 : Blk w7 b6 (frC (getF l1).1 a6 c6) 98 (0, 0) := B6
        have n7 := e6.news2 e7 (by omega)
        replace E := E.trans0 n7
        replace B2 := B2.ext0 n7
        replace hb := hb.ext0 n7
        replace q1 := q1.ext0 n7
        replace g6 := g6.ext0 n7
        refine L.val rfl rfl (R.as rfl) ?_
        refine L.nil ?_
        refine N.seq ?_
        refine G.seq ?_
        refine G.region ?_
        refine L.val rfl rfl (R.mv rfl) ?_
        refine L.callF rfl rfl rfl go64 (refget_ok _ _ _ _ _ q1 hc1 (by omega)) ?_
        rintro _ w8 ⟨a8, c8, rfl, e8, g8, hc8, hf8⟩
        replace hb := hb.ext0 e8
        replace q1 := q1.ext0 e8
        replace B2 := B2.ext0 e8
        replace E := E.trans0 e8
        replace B6 := B6.ext0 e8
        replace g6 := g6.ext0 e8
        refine L.val rfl rfl (R.mv rfl) ?_
        refine L.val rfl rfl (R.ext rfl rfl) ?_
        refine L.val rfl rfl (R.ext rfl rfl) ?_
        refine L.do rfl rfl (R.alloc) ?_
        rintro _ w9 ⟨b8, rfl, hzb8, hs9, e9, B8⟩
        have hEb9 := E.size
        refine L.set rfl (R.stN rfl rfl B8 rfl (Nat.le_refl 5) (frC_one (getF l1).1 a8 c8)) ?_
        rintro w10 ⟨e10, hs10, B8⟩
        replace B8 : Blk w10 b8 (frC (getF l1).1 a8 c8) 98 (0, 0) := B8
        have n10 := e9.news2 e10 (by omega)
        replace E := E.trans0 n10
        replace B2 := B2.ext0 n10
        replace hb := hb.ext0 n10
        replace q1 := q1.ext0 n10
        replace g6 := g6.ext0 n10
        replace g8 := g8.ext0 n10
        replace B6 := B6.ext0 n10
        refine L.val rfl rfl (R.as rfl) ?_
        refine L.nil ?_
        refine N.seq ?_
        refine G.seq ?_
        refine G.quiet (by decide +kernel) rfl ?_
        refine Q.val rfl rfl rfl rfl (fun w11 hE => R.ldBN rfl (B2.ext0 hE) rfl) ?_
        refine Q.call (.bool (decide (okV f))) rfl rfl rfl go65 (fun w11 hE => ⟨_, rfl, (frightV_ok f _ _ _ hi).mono (fun _ _ h => h)⟩) ?_
        refine Q.val rfl rfl rfl rfl (fun w11 hE => R.ldBN rfl (B2.ext0 hE) rfl) ?_
        refine Q.call (.bool (decide (okV f))) rfl rfl rfl go61 (fun w11 hE => ⟨_, rfl, (rrightV_ok f _ _ _ hi).mono (fun _ _ h => h)⟩) ?_
        refine Q.val rfl rfl rfl rfl (fun w11 hE => R.eqB rfl rfl) ?_
        refine Q.val rfl rfl rfl rfl (fun w11 hE => R.mv rfl) ?_
        refine Q.isT 40 rfl (by simp) ?_
        refine Q.val rfl rfl rfl rfl (fun w11 hE => R.ldBN rfl (B2.ext0 hE) rfl) ?_
        refine Q.callR (A := IsBs (putV f).length (putV f)) (IsBs.keep _ _) rfl rfl go66 (fun w11 hE => ⟨_, rfl, (fputV_ok f _ _ _ (hb.ext0 hE) hi).mono (fun _ _ h => by obtain ⟨x, y, rfl, e, hb, hy⟩ := h; exact ⟨⟨x, y, rfl, hy, hb⟩, e⟩)⟩) ?_
        refine Q.val rfl rfl rfl rfl (fun w11 hE => fun v hv => by obtain ⟨x1, y1, rfl, _, hv⟩ := hv; exact R.bytesStr rfl hv.cells hv.len) ?_
        refine Q.val rfl rfl rfl rfl (fun w11 hE => R.mv rfl) ?_
        refine Q.val rfl rfl rfl rfl (fun w11 hE => R.eqStr rfl rfl) ?_
        first | refine Q.val rfl rfl rfl rfl (fun w11 hE => R.pickT rfl rfl) ?_ | refine Q.val rfl rfl rfl rfl (fun w11 hE => R.pickF rfl rfl) ?_
        refine Q.val rfl rfl rfl rfl (fun w11 hE => R.mv rfl) ?_
        refine Q.isT 47 rfl (by simp [hp]) ?_
        refine Q.val rfl rfl rfl rfl (fun w11 hE => R.ldBN rfl (B6.ext0 hE) rfl) ?_
        refine Q.val rfl rfl rfl rfl (fun w11 hE => R.ldBN rfl (B8.ext0 hE) rfl) ?_
        refine Q.call (.bool (decide ((getF l1).1 = (getF l1).1))) rfl rfl rfl go67 (fun w11 hE => ⟨_, rfl, (same6_ok _ _ _ _ _ _ _ (g6.ext0 hE) (g8.ext0 hE)).mono (fun _ _ h => h)⟩) ?_
        first | refine Q.val rfl rfl rfl rfl (fun w11 hE => R.pickT rfl rfl) ?_ | refine Q.val rfl rfl rfl rfl (fun w11 hE => R.pickF rfl rfl) ?_
        refine Q.val rfl rfl rfl rfl (fun w11 hE => R.mv rfl) ?_
        refine Q.isT 52 rfl (by simp) ?_
        refine Q.val rfl rfl rfl rfl (fun w11 hE => R.mv rfl) ?_
        refine Q.val rfl rfl rfl rfl (fun w11 hE => R.mv rfl) ?_
        refine Q.val rfl rfl rfl rfl (fun w11 hE => R.eqI rfl rfl) ?_
        first | refine Q.val rfl rfl rfl rfl (fun w11 hE => R.pickT rfl rfl) ?_ | refine Q.val rfl rfl rfl rfl (fun w11 hE => R.pickF rfl rfl) ?_
        refine Q.val rfl rfl rfl rfl (fun w11 hE => R.as rfl) ?_
        refine Q.nil (fun w11 e11 => ?_)
        intro v42 _
        replace hb := hb.ext0 e11
        replace q1 := q1.ext0 e11
        replace B2 := B2.ext0 e11
        replace E := E.trans0 e11
        refine N.seq ?_
        refine G.ret1 rfl rfl ?_
        first | exact ⟨rfl, E⟩ | exact ⟨congrArg Value.bool (by simp), E⟩
      · have hp : putV f = [] := if_neg h2
        refine G.skip ?_
        refine N.seq ?_
        refine G.seq ?_
        refine G.region ?_
        refine L.val rfl rfl (R.mv rfl) ?_
        refine L.callF rfl rfl rfl go63 (fget_ok _ _ _ _ _ q1 hc1 (by omega)) ?_
        rintro _ w5 ⟨a6, c6, rfl, e5, g6, hc6, hf6⟩
        replace hb := hb.ext0 e5
        replace q1 := q1.ext0 e5
        replace B2 := B2.ext0 e5
        replace E := E.trans0 e5
        refine L.val rfl rfl (R.mv rfl) ?_
        refine L.val rfl rfl (R.ext rfl rfl) ?_
        refine L.val rfl rfl (R.ext rfl rfl) ?_
        refine L.do rfl rfl (R.alloc) ?_
        rintro _ w6 ⟨b6, rfl, hzb6, hs6, e6, B6⟩
        have hEb6 := E.size
        refine L.set rfl (R.stN rfl rfl B6 rfl (Nat.le_refl 5) (frC_one (getF l1).1 a6 c6)) ?_
        rintro w7 ⟨e7, hs7, B6⟩
        replace B6 : Blk w7 b6 (frC (getF l1).1 a6 c6) 98 (0, 0) := B6
        have n7 := e6.news2 e7 (by omega)
        replace E := E.trans0 n7
        replace B2 := B2.ext0 n7
        replace hb := hb.ext0 n7
        replace q1 := q1.ext0 n7
        replace g6 := g6.ext0 n7
        refine L.val rfl rfl (R.as rfl) ?_
        refine L.nil ?_
        refine N.seq ?_
        refine G.seq ?_
        refine G.region ?_
        refine L.val rfl rfl (R.mv rfl) ?_
        refine L.callF rfl rfl rfl go64 (refget_ok _ _ _ _ _ q1 hc1 (by omega)) ?_
        rintro _ w8 ⟨a8, c8, rfl, e8, g8, hc8, hf8⟩
        replace hb := hb.ext0 e8
        replace q1 := q1.ext0 e8
        replace B2 := B2.ext0 e8
        replace E := E.trans0 e8
        replace B6 := B6.ext0 e8
        replace g6 := g6.ext0 e8
        refine L.val rfl rfl (R.mv rfl) ?_
        refine L.val rfl rfl (R.ext rfl rfl) ?_
        refine L.val rfl rfl (R.ext rfl rfl) ?_
        refine L.do rfl rfl (R.alloc) ?_
        rintro _ w9 ⟨b8, rfl, hzb8, hs9, e9, B8⟩
        have hEb9 := E.size
        refine L.set rfl (R.stN rfl rfl B8 rfl (Nat.le_refl 5) (frC_one (getF l1).1 a8 c8)) ?_
        rintro w10 ⟨e10, hs10, B8⟩
        replace B8 : Blk w10 b8 (frC (getF l1).1 a8 c8) 98 (0, 0) := B8
        have n10 := e9.news2 e10 (by omega)
        replace E := E.trans0 n10
        replace B2 := B2.ext0 n10
        replace hb := hb.ext0 n10
        replace q1 := q1.ext0 n10
        replace g6 := g6.ext0 n10
        replace g8 := g8.ext0 n10
        replace B6 := B6.ext0 n10
        refine L.val rfl rfl (R.as rfl) ?_
        refine L.nil ?_
        refine N.seq ?_
        refine G.seq ?_
        refine G.quiet (by decide +kernel) rfl ?_
        refine Q.val rfl rfl rfl rfl (fun w11 hE => R.ldBN rfl (B2.ext0 hE) rfl) ?_
        refine Q.call (.bool (decide (okV f))) rfl rfl rfl go65 (fun w11 hE => ⟨_, rfl, (frightV_ok f _ _ _ hi).mono (fun _ _ h => h)⟩) ?_
        refine Q.val rfl rfl rfl rfl (fun w11 hE => R.ldBN rfl (B2.ext0 hE) rfl) ?_
        refine Q.call (.bool (decide (okV f))) rfl rfl rfl go61 (fun w11 hE => ⟨_, rfl, (rrightV_ok f _ _ _ hi).mono (fun _ _ h => h)⟩) ?_
        refine Q.val rfl rfl rfl rfl (fun w11 hE => R.eqB rfl rfl) ?_
        refine Q.val rfl rfl rfl rfl (fun w11 hE => R.mv rfl) ?_
        refine Q.isT 40 rfl (by simp) ?_
        refine Q.val rfl rfl rfl rfl (fun w11 hE => R.ldBN rfl (B2.ext0 hE) rfl) ?_
        refine Q.callR (A := IsBs (putV f).length (putV f)) (IsBs.keep _ _) rfl rfl go66 (fun w11 hE => ⟨_, rfl, (fputV_ok f _ _ _ (hb.ext0 hE) hi).mono (fun _ _ h => by obtain ⟨x, y, rfl, e, hb, hy⟩ := h; exact ⟨⟨x, y, rfl, hy, hb⟩, e⟩)⟩) ?_
        refine Q.val rfl rfl rfl rfl (fun w11 hE => fun v hv => by obtain ⟨x1, y1, rfl, _, hv⟩ := hv; exact R.bytesStr rfl hv.cells hv.len) ?_
        refine Q.val rfl rfl rfl rfl (fun w11 hE => R.mv rfl) ?_
        refine Q.val rfl rfl rfl rfl (fun w11 hE => R.eqStr rfl rfl) ?_
        first | refine Q.val rfl rfl rfl rfl (fun w11 hE => R.pickT rfl rfl) ?_ | refine Q.val rfl rfl rfl rfl (fun w11 hE => R.pickF rfl rfl) ?_
        refine Q.val rfl rfl rfl rfl (fun w11 hE => R.mv rfl) ?_
        refine Q.isT 47 rfl (by simp [hp]) ?_
        refine Q.val rfl rfl rfl rfl (fun w11 hE => R.ldBN rfl (B6.ext0 hE) rfl) ?_
        refine Q.val rfl rfl rfl rfl (fun w11 hE => R.ldBN rfl (B8.ext0 hE) rfl) ?_
        refine Q.call (.bool (decide ((getF l1).1 = (getF l1).1))) rfl rfl rfl go67 (fun w11 hE => ⟨_, rfl, (same6_ok _ _ _ _ _ _ _ (g6.ext0 hE) (g8.ext0 hE)).mono (fun _ _ h => h)⟩) ?_
        first | refine Q.val rfl rfl rfl rfl (fun w11 hE => R.pickT rfl rfl) ?_ | refine Q.val rfl rfl rfl rfl (fun w11 hE => R.pickF rfl rfl) ?_
        refine Q.val rfl rfl rfl rfl (fun w11 hE => R.mv rfl) ?_
        refine Q.isT 52 rfl (by simp) ?_
        refine Q.val rfl rfl rfl rfl (fun w11 hE => R.mv rfl) ?_
        refine Q.val rfl rfl rfl rfl (fun w11 hE => R.mv rfl) ?_
        refine Q.val rfl rfl rfl rfl (fun w11 hE => R.eqI rfl rfl) ?_
        first | refine Q.val rfl rfl rfl rfl (fun w11 hE => R.pickT rfl rfl) ?_ | refine Q.val rfl rfl rfl rfl (fun w11 hE => R.pickF rfl rfl) ?_
        refine Q.val rfl rfl rfl rfl (fun w11 hE => R.as rfl) ?_
        refine Q.nil (fun w11 e11 => ?_)
        intro v42 _
        replace hb := hb.ext0 e11
        replace q1 := q1.ext0 e11
        replace B2 := B2.ext0 e11
        replace E := E.trans0 e11
        refine N.seq ?_
        refine G.ret1 rfl rfl ?_
        first | exact ⟨rfl, E⟩ | exact ⟨congrArg Value.bool (by simp), E⟩

end Go.Proofs.Ytjmlcodlnohgdaa
