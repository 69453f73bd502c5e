/-
  The walks of the laws on frame.
-/
import Derived.Test.YtjmlcodlnohgdaaFrameF
import Derived.Test.YtjmlcodlnohgdaaFrameA
set_option linter.unusedVariables false
set_option linter.unusedSimpArgs false
namespace Go.Proofs.Ytjmlcodlnohgdaa
open Go Brv Brv.Crc Brv.Pack Brv.Frame
theorem frameUnlike_ok (f g : FrV) (a a' : Option Addr) (c c' : Nat) (w : World) (hb : Bs w a f.2.2.2.2.length f.2.2.2.2) (hc : f.2.2.2.2.length ≤ c) (hi : InV f) (hg : Bs w a' g.2.2.2.2.length g.2.2.2.2) (hcd : g.2.2.2.2.length ≤ c') (hij : InV g) : Meets Try.prog 15 [.agg (frC f a c), .agg (frC g a' c')] w (fun v w' => v = .bool true ∧ Ext [] w w') := by
  refine Meets.enter Try.func15 rfl 65 rfl (Nat.le_of_ble_eq_true rfl) ?_
  have E := Ext.refl [] w
  refine G.seq ?_
  refine G.region ?_
  refine L.do rfl rfl (R.box rfl) ?_
  rintro _ w0 ⟨b2, rfl, hb2, hs2, e0, B2⟩
  replace B2 : Blk w0 b2 (frC f a c) 98 (0, 0) := B2
  replace hb := hb.ext0 e0
  replace hg := hg.ext0 e0
  replace E := E.trans0 e0
  refine L.do rfl rfl (R.box rfl) ?_
  rintro _ w1 ⟨b3, rfl, hb3, hs3, e1, B3⟩
  replace B3 : Blk w1 b3 (frC g a' c') 98 (0, 0) := B3
  replace hb := hb.ext0 e1
  replace hg := hg.ext0 e1
  replace B2 := B2.ext0 e1
  replace E := E.trans0 e1
  refine L.val rfl rfl (R.as rfl) ?_
  refine L.nil ?_
  refine N.seq ?_
  refine G.seq ?_
  refine G.seq ?_
  refine G.region ?_
  refine L.callF rfl rfl rfl go60 (frame_first_ok _) ?_
  rintro _ w2 ⟨rfl, e2⟩
  replace hb := hb.ext0 e2
  replace hg := hg.ext0 e2
  replace B2 := B2.ext0 e2
  replace B3 := B3.ext0 e2
  replace E := E.trans0 e2
  refine L.val rfl rfl (R.not rfl) ?_
  refine L.nil ?_
  refine N.seq ?_
  refine G.condF rfl ?_
  refine G.skip ?_
  refine N.seq ?_
  refine G.seq ?_
  refine G.seq ?_
  refine G.region ?_
  refine L.val rfl rfl (R.ldBN rfl B2 rfl) ?_
  refine L.callF rfl rfl rfl go65 (frightV_ok f a c _ hi) ?_
  rintro _ w3 ⟨rfl, e3⟩
  replace hb := hb.ext0 e3
  replace hg := hg.ext0 e3
  replace B2 := B2.ext0 e3
  replace B3 := B3.ext0 e3
  replace E := E.trans0 e3
  refine L.val rfl rfl (R.not rfl) ?_
  refine L.be 11 rfl (show _ = Value.bool (decide (¬ okV f)) by simp) ?_
  refine L.val rfl rfl (R.mv rfl) ?_
  refine L.caseP 12 rfl (fun hg3_3 => ?_) (fun hg3_3 => ?_)
  · have hpf : putV f = [] := if_neg hg3_3
    refine L.pass rfl rfl ?_
    refine L.pass rfl rfl ?_
    refine L.pass rfl rfl ?_
    first | refine L.val rfl rfl (R.pickT rfl rfl) ?_ | refine L.val rfl rfl (R.pickF rfl rfl) ?_
    refine L.nil ?_
    refine N.seq ?_
    refine G.condT rfl ?_
    refine G.seq ?_
    refine G.region ?_
    refine L.val rfl rfl (R.fld rfl) ?_
    refine L.val rfl rfl (R.ldB rfl B2 rfl) ?_
    refine L.val rfl rfl (R.lenS rfl) ?_
    refine L.val rfl rfl (R.gtr rfl rfl) ?_
    refine L.val rfl rfl (R.mv rfl) ?_
    refine L.caseP 21 rfl (fun hg4_4 => ?_) (fun hg4_4 => ?_)
    · refine L.pass rfl rfl ?_
      refine L.pass rfl rfl ?_
      refine L.pass rfl rfl ?_
      refine L.pass rfl rfl ?_
      first | refine L.val rfl rfl (R.pickT rfl rfl) ?_ | refine L.val rfl rfl (R.pickF rfl rfl) ?_
      refine L.val rfl rfl (R.mv rfl) ?_
      refine L.pass rfl rfl ?_
      refine L.pass rfl rfl ?_
      refine L.pass rfl rfl ?_
      refine L.pass rfl rfl ?_
      first | refine L.val rfl rfl (R.pickT rfl rfl) ?_ | refine L.val rfl rfl (R.pickF rfl rfl) ?_
      refine L.val rfl rfl (R.mv rfl) ?_
      refine L.pass rfl rfl ?_
      refine L.pass rfl rfl ?_
      refine L.pass rfl rfl ?_
      refine L.pass rfl rfl ?_
      first | refine L.val rfl rfl (R.pickT rfl rfl) ?_ | refine L.val rfl rfl (R.pickF rfl rfl) ?_
      refine L.val rfl rfl (R.as rfl) ?_
      refine L.nil ?_
      refine N.seq ?_
      refine G.ret1 rfl rfl ?_
      first | exact ⟨rfl, E⟩ | exact ⟨congrArg Value.bool (decide_eq_true (by rw [hpg]; rfl)), E⟩ | exact absurd (by rw [hpf]; rfl) hg4_16 | exact ⟨congrArg Value.bool (by rw [show putV f = secV f from if_pos hok, show putV g = secV g from if_pos hok2]; simp [secV_inj hok hok2]), E⟩
    · refine L.val rfl rfl (R.fld rfl) ?_
      refine L.val rfl rfl (R.ldB rfl B3 rfl) ?_
      refine L.val rfl rfl (R.lenS rfl) ?_
      refine L.val rfl rfl (R.gtr rfl rfl) ?_
      first | refine L.val rfl rfl (R.pickT rfl rfl) ?_ | refine L.val rfl rfl (R.pickF rfl rfl) ?_
      refine L.val rfl rfl (R.mv rfl) ?_
      refine L.caseP 27 rfl (fun hg4_10 => ?_) (fun hg4_10 => ?_)
      · refine L.pass rfl rfl ?_
        refine L.pass rfl rfl ?_
        refine L.pass rfl rfl ?_
        refine L.pass rfl rfl ?_
        first | refine L.val rfl rfl (R.pickT rfl rfl) ?_ | refine L.val rfl rfl (R.pickF rfl rfl) ?_
        refine L.val rfl rfl (R.mv rfl) ?_
        refine L.pass rfl rfl ?_
        refine L.pass rfl rfl ?_
        refine L.pass rfl rfl ?_
        refine L.pass rfl rfl ?_
        first | refine L.val rfl rfl (R.pickT rfl rfl) ?_ | refine L.val rfl rfl (R.pickF rfl rfl) ?_
        refine L.val rfl rfl (R.as rfl) ?_
        refine L.nil ?_
        refine N.seq ?_
        refine G.ret1 rfl rfl ?_
        first | exact ⟨rfl, E⟩ | exact ⟨congrArg Value.bool (decide_eq_true (by rw [hpg]; rfl)), E⟩ | exact absurd (by rw [hpf]; rfl) hg4_16 | exact ⟨congrArg Value.bool (by rw [show putV f = secV f from if_pos hok, show putV g = secV g from if_pos hok2]; simp [secV_inj hok hok2]), E⟩
      · refine L.val rfl rfl (R.ldBN rfl B2 rfl) ?_
        refine L.callF rfl rfl rfl go66 (fputV_ok f a c _ hb hi) ?_
        rintro _ w5 ⟨a5, c5, rfl, e5, g5, hc5⟩
        replace hb := hb.ext0 e5
        replace hg := hg.ext0 e5
        replace B2 := B2.ext0 e5
        replace B3 := B3.ext0 e5
        replace E := E.trans0 e5
        refine L.val rfl rfl (R.lenS rfl) ?_
        refine L.val rfl rfl (R.eqI rfl rfl) ?_
        first | refine L.val rfl rfl (R.pickT rfl rfl) ?_ | refine L.val rfl rfl (R.pickF rfl rfl) ?_
        refine L.val rfl rfl (R.mv rfl) ?_
        refine L.caseP 33 rfl (fun hg4_16 => ?_) (fun hg4_16 => ?_)
        · refine L.pass rfl rfl ?_
          refine L.pass rfl rfl ?_
          refine L.pass rfl rfl ?_
          refine L.pass rfl rfl ?_
          first | refine L.val rfl rfl (R.pickT rfl rfl) ?_ | refine L.val rfl rfl (R.pickF rfl rfl) ?_
          refine L.val rfl rfl (R.as rfl) ?_
          refine L.nil ?_
          refine N.seq ?_
          refine G.ret1 rfl rfl ?_
          first | exact ⟨rfl, E⟩ | exact ⟨congrArg Value.bool (decide_eq_true (by rw [hpg]; rfl)), E⟩ | exact absurd (by rw [hpf]; rfl) hg4_16 | exact ⟨congrArg Value.bool (by rw [show putV f = secV f from if_pos hok, show putV g = secV g from if_pos hok2]; simp [secV_inj hok hok2]), E⟩
        · refine L.val rfl rfl (R.ldBN rfl B3 rfl) ?_
          refine L.callF rfl rfl rfl go66 (fputV_ok g a' c' _ hg hij) ?_
          rintro _ w6 ⟨a6, c6, rfl, e6, g6, hc6⟩
          replace hb := hb.ext0 e6
          replace hg := hg.ext0 e6
          replace B2 := B2.ext0 e6
          replace B3 := B3.ext0 e6
          replace E := E.trans0 e6
          refine L.val rfl rfl (R.lenS rfl) ?_
          refine L.val rfl rfl (R.eqI rfl rfl) ?_
          first | refine L.val rfl rfl (R.pickT rfl rfl) ?_ | refine L.val rfl rfl (R.pickF rfl rfl) ?_
          refine L.val rfl rfl (R.as rfl) ?_
          refine L.nil ?_
          refine N.seq ?_
          refine G.ret1 rfl rfl ?_
          first | exact ⟨rfl, E⟩ | exact ⟨congrArg Value.bool (decide_eq_true (by rw [hpg]; rfl)), E⟩ | exact absurd (by rw [hpf]; rfl) hg4_16 | exact ⟨congrArg Value.bool (by rw [show putV f = secV f from if_pos hok, show putV g = secV g from if_pos hok2]; simp [secV_inj hok hok2]), E⟩
  · have hok : okV f := Classical.not_not.1 hg3_3
    refine L.val rfl rfl (R.ldBN rfl B3 rfl) ?_
    refine L.callF rfl rfl rfl go65 (frightV_ok g a' c' _ hij) ?_
    rintro _ w4 ⟨rfl, e4⟩
    replace hb := hb.ext0 e4
    replace hg := hg.ext0 e4
    replace B2 := B2.ext0 e4
    replace B3 := B3.ext0 e4
    replace E := E.trans0 e4
    refine L.val rfl rfl (R.not rfl) ?_
    refine L.be 15 rfl (show _ = Value.bool (decide (¬ okV g)) by simp) ?_
    first | refine L.val rfl rfl (R.pickT rfl rfl) ?_ | refine L.val rfl rfl (R.pickF rfl rfl) ?_
    refine L.nil ?_
    refine N.seq ?_
    refine G.condP rfl (fun h1 => ?_) (fun h1 => ?_)
    · have hpg : putV g = [] := if_neg h1
      refine G.seq ?_
      refine G.region ?_
      refine L.val rfl rfl (R.fld rfl) ?_
      refine L.val rfl rfl (R.ldB rfl B2 rfl) ?_
      refine L.val rfl rfl (R.lenS rfl) ?_
      refine L.val rfl rfl (R.gtr rfl rfl) ?_
      refine L.val rfl rfl (R.mv rfl) ?_
      refine L.caseP 21 rfl (fun hg4_4 => ?_) (fun hg4_4 => ?_)
      · refine L.pass rfl rfl ?_
        refine L.pass rfl rfl ?_
        refine L.pass rfl rfl ?_
        refine L.pass rfl rfl ?_
        first | refine L.val rfl rfl (R.pickT rfl rfl) ?_ | refine L.val rfl rfl (R.pickF rfl rfl) ?_
        refine L.val rfl rfl (R.mv rfl) ?_
        refine L.pass rfl rfl ?_
        refine L.pass rfl rfl ?_
        refine L.pass rfl rfl ?_
        refine L.pass rfl rfl ?_
        first | refine L.val rfl rfl (R.pickT rfl rfl) ?_ | refine L.val rfl rfl (R.pickF rfl rfl) ?_
        refine L.val rfl rfl (R.mv rfl) ?_
        refine L.pass rfl rfl ?_
        refine L.pass rfl rfl ?_
        refine L.pass rfl rfl ?_
        refine L.pass rfl rfl ?_
        first | refine L.val rfl rfl (R.pickT rfl rfl) ?_ | refine L.val rfl rfl (R.pickF rfl rfl) ?_
        refine L.val rfl rfl (R.as rfl) ?_
        refine L.nil ?_
        refine N.seq ?_
        refine G.ret1 rfl rfl ?_
        first | exact ⟨rfl, E⟩ | exact ⟨congrArg Value.bool (decide_eq_true (by rw [hpg]; rfl)), E⟩ | exact absurd (by rw [hpf]; rfl) hg4_16 | exact ⟨congrArg Value.bool (by rw [show putV f = secV f from if_pos hok, show putV g = secV g from if_pos hok2]; simp [secV_inj hok hok2]), E⟩
      · refine L.val rfl rfl (R.fld rfl) ?_
        refine L.val rfl rfl (R.ldB rfl B3 rfl) ?_
        refine L.val rfl rfl (R.lenS rfl) ?_
        refine L.val rfl rfl (R.gtr rfl rfl) ?_
        first | refine L.val rfl rfl (R.pickT rfl rfl) ?_ | refine L.val rfl rfl (R.pickF rfl rfl) ?_
        refine L.val rfl rfl (R.mv rfl) ?_
        refine L.caseP 27 rfl (fun hg4_10 => ?_) (fun hg4_10 => ?_)
        · refine L.pass rfl rfl ?_
          refine L.pass rfl rfl ?_
          refine L.pass rfl rfl ?_
          refine L.pass rfl rfl ?_
          first | refine L.val rfl rfl (R.pickT rfl rfl) ?_ | refine L.val rfl rfl (R.pickF rfl rfl) ?_
          refine L.val rfl rfl (R.mv rfl) ?_
          refine L.pass rfl rfl ?_
          refine L.pass rfl rfl ?_
          refine L.pass rfl rfl ?_
          refine L.pass rfl rfl ?_
          first | refine L.val rfl rfl (R.pickT rfl rfl) ?_ | refine L.val rfl rfl (R.pickF rfl rfl) ?_
          refine L.val rfl rfl (R.as rfl) ?_
          refine L.nil ?_
          refine N.seq ?_
          refine G.ret1 rfl rfl ?_
          first | exact ⟨rfl, E⟩ | exact ⟨congrArg Value.bool (decide_eq_true (by rw [hpg]; rfl)), E⟩ | exact absurd (by rw [hpf]; rfl) hg4_16 | exact ⟨congrArg Value.bool (by rw [show putV f = secV f from if_pos hok, show putV g = secV g from if_pos hok2]; simp [secV_inj hok hok2]), E⟩
        · refine L.val rfl rfl (R.ldBN rfl B2 rfl) ?_
          refine L.callF rfl rfl rfl go66 (fputV_ok f a c _ hb hi) ?_
          rintro _ w5 ⟨a5, c5, rfl, e5, g5, hc5⟩
          replace hb := hb.ext0 e5
          replace hg := hg.ext0 e5
          replace B2 := B2.ext0 e5
          replace B3 := B3.ext0 e5
          replace E := E.trans0 e5
          refine L.val rfl rfl (R.lenS rfl) ?_
          refine L.val rfl rfl (R.eqI rfl rfl) ?_
          first | refine L.val rfl rfl (R.pickT rfl rfl) ?_ | refine L.val rfl rfl (R.pickF rfl rfl) ?_
          refine L.val rfl rfl (R.mv rfl) ?_
          refine L.caseP 33 rfl (fun hg4_16 => ?_) (fun hg4_16 => ?_)
          · refine L.pass rfl rfl ?_
            refine L.pass rfl rfl ?_
            refine L.pass rfl rfl ?_
            refine L.pass rfl rfl ?_
            first | refine L.val rfl rfl (R.pickT rfl rfl) ?_ | refine L.val rfl rfl (R.pickF rfl rfl) ?_
            refine L.val rfl rfl (R.as rfl) ?_
            refine L.nil ?_
            refine N.seq ?_
            refine G.ret1 rfl rfl ?_
            first | exact ⟨rfl, E⟩ | exact ⟨congrArg Value.bool (decide_eq_true (by rw [hpg]; rfl)), E⟩ | exact absurd (by rw [hpf]; rfl) hg4_16 | exact ⟨congrArg Value.bool (by rw [show putV f = secV f from if_pos hok, show putV g = secV g from if_pos hok2]; simp [secV_inj hok hok2]), E⟩
          · refine L.val rfl rfl (R.ldBN rfl B3 rfl) ?_
            refine L.callF rfl rfl rfl go66 (fputV_ok g a' c' _ hg hij) ?_
            rintro _ w6 ⟨a6, c6, rfl, e6, g6, hc6⟩
            replace hb := hb.ext0 e6
            replace hg := hg.ext0 e6
            replace B2 := B2.ext0 e6
            replace B3 := B3.ext0 e6
            replace E := E.trans0 e6
            refine L.val rfl rfl (R.lenS rfl) ?_
            refine L.val rfl rfl (R.eqI rfl rfl) ?_
            first | refine L.val rfl rfl (R.pickT rfl rfl) ?_ | refine L.val rfl rfl (R.pickF rfl rfl) ?_
            refine L.val rfl rfl (R.as rfl) ?_
            refine L.nil ?_
            refine N.seq ?_
            refine G.ret1 rfl rfl ?_
            first | exact ⟨rfl, E⟩ | exact ⟨congrArg Value.bool (decide_eq_true (by rw [hpg]; rfl)), E⟩ | exact absurd (by rw [hpf]; rfl) hg4_16 | exact ⟨congrArg Value.bool (by rw [show putV f = secV f from if_pos hok, show putV g = secV g from if_pos hok2]; simp [secV_inj hok hok2]), E⟩
    · have hok2 : okV g := Classical.not_not.1 h1
      refine G.skip ?_
      refine N.seq ?_
      refine G.seq ?_
      refine G.region ?_
      refine L.val rfl rfl (R.ldBN rfl B2 rfl) ?_
      refine L.callF rfl rfl rfl go66 (fputV_ok f a c _ hb hi) ?_
      rintro _ w5 ⟨a5, c5, rfl, e5, g5, hc5⟩
      replace hb := hb.ext0 e5
      replace hg := hg.ext0 e5
      replace B2 := B2.ext0 e5
      replace B3 := B3.ext0 e5
      replace E := E.trans0 e5
      rw [show putV f = secV f from if_pos hok] at g5 hc5 ⊢
      refine L.callF rfl rfl rfl go63 (fget_ok _ _ _ _ _ g5 hc5 (by rw [secV_length hok]; decide)) ?_
      rintro _ w6 ⟨a6, c6, rfl, e6, g6, hc6, hf6⟩
      replace hb := hb.ext0 e6
      replace hg := hg.ext0 e6
      replace B2 := B2.ext0 e6
      replace B3 := B3.ext0 e6
      replace E := E.trans0 e6
      rw [get_put hok] at g6 hc6 ⊢
      refine L.val rfl rfl (R.mv rfl) ?_
      refine L.val rfl rfl (R.ext rfl rfl) ?_
      refine L.val rfl rfl (R.ext rfl rfl) ?_
      refine L.do rfl rfl (R.alloc) ?_
      rintro _ w7 ⟨b5, rfl, hzb5, hs7, e7, B5⟩
      have hEb7 := E.size
      refine L.set rfl (R.stN rfl rfl B5 rfl (Nat.le_refl 5) (frC_one f a6 c6)) ?_
      rintro w8 ⟨e8, hs8, B5⟩
      replace B5 : Blk w8 b5 (frC f a6 c6) 98 (0, 0) := B5
      have n8 := e7.news2 e8 (by omega)
      replace E := E.trans0 n8
      replace B2 := B2.ext0 n8
      replace B3 := B3.ext0 n8
      replace hb := hb.ext0 n8
      replace hg := hg.ext0 n8
      replace g6 := g6.ext0 n8
      refine L.val rfl rfl (R.as rfl) ?_
      refine L.nil ?_
      refine N.seq ?_
      refine G.seq ?_
      refine G.quiet (by decide +kernel) rfl ?_
      refine Q.val rfl rfl rfl rfl (fun w9 hE => R.mv rfl) ?_
      refine Q.val rfl rfl rfl rfl (fun w9 hE => R.eqI rfl rfl) ?_
      refine Q.val rfl rfl rfl rfl (fun w9 hE => R.mv rfl) ?_
      refine Q.isT 47 rfl (by rfl) ?_
      refine Q.val rfl rfl rfl rfl (fun w9 hE => R.ldBN rfl (B5.ext0 hE) rfl) ?_
      refine Q.val rfl rfl rfl rfl (fun w9 hE => R.ldBN rfl (B2.ext0 hE) rfl) ?_
      refine Q.call (.bool (decide (f = f))) rfl rfl rfl go67 (fun w9 hE => ⟨_, rfl, (same6_ok _ _ _ _ _ _ _ (g6.ext0 hE) (hb.ext0 hE)).mono (fun _ _ h => h)⟩) ?_
      first | refine Q.val rfl rfl rfl rfl (fun w9 hE => R.pickT rfl rfl) ?_ | refine Q.val rfl rfl rfl rfl (fun w9 hE => R.pickF rfl rfl) ?_
      refine Q.val rfl rfl rfl rfl (fun w9 hE => R.mv rfl) ?_
      refine Q.isT 52 rfl (by simp) ?_
      refine Q.val rfl rfl rfl rfl (fun w9 hE => R.ldBN rfl (B2.ext0 hE) rfl) ?_
      refine Q.callR (A := IsBs (putV f).length (putV f)) (IsBs.keep _ _) rfl rfl go66 (fun w9 hE => ⟨_, rfl, (fputV_ok f _ _ _ (hb.ext0 hE) hi).mono (fun _ _ h => by obtain ⟨x, y, rfl, e, hb, hy⟩ := h; exact ⟨⟨x, y, rfl, hy, hb⟩, e⟩)⟩) ?_
      refine Q.val rfl rfl rfl rfl (fun w9 hE => fun v hv => by obtain ⟨x1, y1, rfl, _, hv⟩ := hv; exact R.bytesStr rfl hv.cells hv.len) ?_
      refine Q.val rfl rfl rfl rfl (fun w9 hE => R.ldBN rfl (B3.ext0 hE) rfl) ?_
      refine Q.callR (A := IsBs (putV g).length (putV g)) (IsBs.keep _ _) rfl rfl go66 (fun w9 hE => ⟨_, rfl, (fputV_ok g _ _ _ (hg.ext0 hE) hij).mono (fun _ _ h => by obtain ⟨x, y, rfl, e, hb, hy⟩ := h; exact ⟨⟨x, y, rfl, hy, hb⟩, e⟩)⟩) ?_
      refine Q.val rfl rfl rfl rfl (fun w9 hE => fun v hv => by obtain ⟨x1, y1, rfl, _, hv⟩ := hv; exact R.bytesStr rfl hv.cells hv.len) ?_
      refine Q.val rfl rfl rfl rfl (fun w9 hE => R.eqStr rfl rfl) ?_
      refine Q.val rfl rfl rfl rfl (fun w9 hE => R.ldBN rfl (B2.ext0 hE) rfl) ?_
      refine Q.val rfl rfl rfl rfl (fun w9 hE => R.ldBN rfl (B3.ext0 hE) rfl) ?_
      refine Q.call (.bool (decide (f = g))) rfl rfl rfl go67 (fun w9 hE => ⟨_, rfl, (same6_ok _ _ _ _ _ _ _ (hb.ext0 hE) (hg.ext0 hE)).mono (fun _ _ h => h)⟩) ?_
      refine Q.val rfl rfl rfl rfl (fun w9 hE => R.eqB rfl rfl) ?_
      first | refine Q.val rfl rfl rfl rfl (fun w9 hE => R.pickT rfl rfl) ?_ | refine Q.val rfl rfl rfl rfl (fun w9 hE => R.pickF rfl rfl) ?_
      refine Q.val rfl rfl rfl rfl (fun w9 hE => R.as rfl) ?_
      refine Q.nil (fun w9 e9 => ?_)
      intro v57 _ v54 _
      replace hb := hb.ext0 e9
      replace hg := hg.ext0 e9
      replace B2 := B2.ext0 e9
      replace B3 := B3.ext0 e9
      replace E := E.trans0 e9
      refine N.seq ?_
      refine G.ret1 rfl rfl ?_
      first | exact ⟨rfl, E⟩ | exact ⟨congrArg Value.bool (decide_eq_true (by rw [hpg]; rfl)), E⟩ | exact absurd (by rw [hpf]; rfl) hg4_16 | exact ⟨congrArg Value.bool (by rw [show putV f = secV f from if_pos hok, show putV g = secV g from if_pos hok2]; simp [secV_inj hok hok2]), E⟩

end Go.Proofs.Ytjmlcodlnohgdaa
