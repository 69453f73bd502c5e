/-
  The walks of package dev.
-/
import Derived.Test.YthpolibakkmmeaaDev1
import Derived.Test.YthpolibakkmmeaaCrcPure
set_option linter.unusedVariables false
set_option linter.unusedSimpArgs false
namespace Go.Proofs.Ythpolibakkmmeaa
open Go Brv Brv.Image Brv.Dev
theorem DevL.fld {w w' : World} {d : Nat} {v v' : DevV} {sz : Nat} {sa : Option Addr} {sc : Nat} {wa : Option Addr} {wc : Nat} {Ms Mw : List Nat} (h : DevL w d v sz sa sc wa wc Ms Mw) (he : Ext [d] w w') (hb : Blk w' d #[.slice sa v'.stay.length sc, .slice wa v'.wt.length wc, .int .i64 v'.calls, .int .i64 v'.left, .bool v'.off] 234 (0, 0)) (hs : v'.stay = v.stay) (hw : v'.wt = v.wt) (wf : v'.Wf sz) : DevL w' d v' sz sa sc wa wc Ms Mw := by
  obtain ⟨h1, h2, _⟩ := h.apart
  exact ⟨hb, wf, h.hN, by rw [hs]; exact h.st.ext he (fun g hg hm => by rw [List.mem_singleton.1 hm] at hg; exact h1 hg), by rw [hw]; exact h.wt.ext he (fun g hg hm => by rw [List.mem_singleton.1 hm] at hg; exact h2 hg)⟩
theorem DevL.lay {w w' : World} {d : Nat} {v : DevV} {sz : Nat} {sa : Option Addr} {sc : Nat} {wa : Option Addr} {wc : Nat} {Ms Mw : List Nat} {s : List UInt8} (h : DevL w d v sz sa sc wa wc Ms Mw) (he : Ext Ms w w') (ho : Own w' 5 1 sa v.stay.length sc (vbs s) Ms) (hs : s.length = v.stay.length) : DevL w' d { v with stay := s } sz sa sc wa wc Ms Mw := by
  obtain ⟨h1, h2, h3⟩ := h.apart
  refine ⟨?_, ⟨hs.trans h.wf.len, h.wf.wt, h.wf.left⟩, h.hN, by show Own w' _ 1 sa s.length sc (vbs s) Ms; rw [hs]; exact ho, h.wt.ext he (fun g hg hm => h3 g hm hg)⟩
  have hb := h.hd.ext he h1
  show Blk w' d #[.slice sa s.length sc, .slice wa v.wt.length wc, .int .i64 v.calls, .int .i64 v.left, .bool v.off] 234 (0, 0)
  rw [hs]
  exact hb

theorem dcallL_ok (d : Nat) (v : DevV) (sz : Nat) (sa : Option Addr) (sc : Nat) (wa : Option Addr) (wc : Nat) (Ms Mw : List Nat) (w : World) (D : DevL w d v sz sa sc wa wc Ms Mw) (hcb : 0 ≤ v.calls ∧ v.calls ≤ 1000000000) : Meets Try.prog 201 [.pointer (some ⟨d, 0, none⟩)] w (fun r w' => r = .bool (callV v).2 ∧ Ext [d] w w' ∧ DevL w' d (callV v).1 sz sa sc wa wc Ms Mw) := by
  refine Meets.enter Try.func201 rfl 30 rfl (Nat.le_of_ble_eq_true rfl) ?_
  have hlf := D.wf.left
  refine G.seq ?_
  refine G.region ?_
  refine L.val rfl rfl (R.as rfl) ?_
  refine L.nil ?_
  refine N.seq ?_
  refine G.seq ?_
  refine G.seq ?_
  refine G.region ?_
  refine L.val rfl rfl (R.mv rfl) ?_
  refine L.val rfl rfl (R.nilChk rfl) ?_
  refine L.val rfl rfl (R.fld rfl) ?_
  refine L.val rfl rfl (R.ldB rfl D.hd rfl) ?_
  refine L.val rfl rfl (R.eqI rfl rfl) ?_
  refine L.nil ?_
  refine N.seq ?_
  refine G.condP rfl (fun h0 => ?_) (fun h0 => ?_)
  · have hcv : callV v = ({ v with off := true }, false) := if_pos h0
    refine G.seq ?_
    refine G.region ?_
    refine L.val rfl rfl (R.mv rfl) ?_
    refine L.val rfl rfl (R.nilChk rfl) ?_
    refine L.val rfl rfl (R.fld rfl) ?_
    refine L.set rfl (R.st rfl rfl D.hd (by show 4 < 5; decide) rfl) ?_
    rintro w1 ⟨e1, hs1, B1⟩
    replace B1 : Blk w1 d #[.slice sa ({ v with off := true } : DevV).stay.length sc, .slice wa ({ v with off := true } : DevV).wt.length wc, .int .i64 ({ v with off := true } : DevV).calls, .int .i64 ({ v with off := true } : DevV).left, .bool ({ v with off := true } : DevV).off] 234 (0, 0) := B1
    refine L.nil ?_
    refine N.seq ?_
    refine G.seq ?_
    refine G.region ?_
    refine L.val rfl rfl (R.as rfl) ?_
    refine L.nil ?_
    refine N.seq ?_
    refine G.ret1 rfl rfl ?_
    first
      | (rw [hcv]; exact ⟨rfl, e1, D.fld e1 B1 rfl rfl ⟨D.wf.len, D.wf.wt, D.wf.left⟩⟩)
      | (rw [hcv]; exact ⟨rfl, e2.trans e3 (by simp) (by simp), D2.fld e3 B3 rfl rfl ⟨D.wf.len, D.wf.wt, by show -1 ≤ v.left - 1 ∧ v.left - 1 ≤ _; omega⟩⟩)
      | (rw [hcv]; exact ⟨rfl, e3, D.fld e3 B3 rfl rfl ⟨D.wf.len, D.wf.wt, D.wf.left⟩⟩)
  · refine G.skip ?_
    refine N.seq ?_
    refine G.seq ?_
    refine G.seq ?_
    refine G.region ?_
    refine L.val rfl rfl (R.mv rfl) ?_
    refine L.val rfl rfl (R.nilChk rfl) ?_
    refine L.val rfl rfl (R.fld rfl) ?_
    refine L.val rfl rfl (R.ldB rfl D.hd rfl) ?_
    refine L.val rfl rfl (R.gtr rfl rfl) ?_
    refine L.nil ?_
    refine N.seq ?_
    refine G.condP rfl (fun h1 => ?_) (fun h1 => ?_)
    · have hcv : callV v = ({ v with left := v.left - 1, calls := v.calls + 1 }, true) := by unfold callV; rw [if_neg h0, if_pos h1]
      refine G.region ?_
      refine L.val rfl rfl (R.mv rfl) ?_
      refine L.val rfl rfl (R.nilChk rfl) ?_
      refine L.val rfl rfl (R.fld rfl) ?_
      refine L.val rfl rfl (R.ldB rfl D.hd rfl) ?_
      refine L.val rfl rfl (R.sub' rfl rfl (by omega)) ?_
      refine L.val rfl rfl (R.nilChk rfl) ?_
      refine L.val rfl rfl (R.fld rfl) ?_
      refine L.set rfl (R.st rfl rfl D.hd (by show 3 < 5; decide) rfl) ?_
      rintro w2 ⟨e2, hs2, B2⟩
      replace B2 : Blk w2 d #[.slice sa ({ v with left := v.left - 1 } : DevV).stay.length sc, .slice wa ({ v with left := v.left - 1 } : DevV).wt.length wc, .int .i64 ({ v with left := v.left - 1 } : DevV).calls, .int .i64 ({ v with left := v.left - 1 } : DevV).left, .bool ({ v with left := v.left - 1 } : DevV).off] 234 (0, 0) := B2
      have D2 := D.fld e2 B2 rfl rfl ⟨D.wf.len, D.wf.wt, by show -1 ≤ v.left - 1 ∧ v.left - 1 ≤ _; omega⟩
      refine L.nil ?_
      refine N.seq ?_
      refine G.seq ?_
      refine G.region ?_
      refine L.val rfl rfl (R.mv rfl) ?_
      refine L.val rfl rfl (R.nilChk rfl) ?_
      refine L.val rfl rfl (R.fld rfl) ?_
      first | refine L.val rfl rfl (R.ldB rfl D2.hd rfl) ?_ | refine L.val rfl rfl (R.ldB rfl D.hd rfl) ?_
      refine L.be 26 rfl (show _ = Value.int .i64 v.calls from rfl) ?_
      refine L.val rfl rfl (R.add rfl rfl (by omega)) ?_
      refine L.val rfl rfl (R.nilChk rfl) ?_
      refine L.val rfl rfl (R.fld rfl) ?_
      refine L.set rfl (R.st rfl rfl D2.hd (by show 2 < 5; decide) rfl) ?_
      rintro w3 ⟨e3, hs3, B3⟩
      refine L.nil ?_
      refine N.seq ?_
      refine G.seq ?_
      refine G.region ?_
      refine L.val rfl rfl (R.as rfl) ?_
      refine L.nil ?_
      refine N.seq ?_
      refine G.ret1 rfl rfl ?_
      first
        | (rw [hcv]; exact ⟨rfl, e1, D.fld e1 B1 rfl rfl ⟨D.wf.len, D.wf.wt, D.wf.left⟩⟩)
        | (rw [hcv]; exact ⟨rfl, e2.trans e3 (by simp) (by simp), D2.fld e3 B3 rfl rfl ⟨D.wf.len, D.wf.wt, by show -1 ≤ v.left - 1 ∧ v.left - 1 ≤ _; omega⟩⟩)
        | (rw [hcv]; exact ⟨rfl, e3, D.fld e3 B3 rfl rfl ⟨D.wf.len, D.wf.wt, D.wf.left⟩⟩)
    · have hcv : callV v = ({ v with left := v.left, calls := v.calls + 1 }, true) := by unfold callV; rw [if_neg h0, if_neg h1]
      refine G.skip ?_
      refine N.seq ?_
      refine G.seq ?_
      refine G.region ?_
      refine L.val rfl rfl (R.mv rfl) ?_
      refine L.val rfl rfl (R.nilChk rfl) ?_
      refine L.val rfl rfl (R.fld rfl) ?_
      first | refine L.val rfl rfl (R.ldB rfl D2.hd rfl) ?_ | refine L.val rfl rfl (R.ldB rfl D.hd rfl) ?_
      refine L.be 26 rfl (show _ = Value.int .i64 v.calls from rfl) ?_
      refine L.val rfl rfl (R.add rfl rfl (by omega)) ?_
      refine L.val rfl rfl (R.nilChk rfl) ?_
      refine L.val rfl rfl (R.fld rfl) ?_
      refine L.set rfl (R.st rfl rfl D.hd (by show 2 < 5; decide) rfl) ?_
      rintro w3 ⟨e3, hs3, B3⟩
      refine L.nil ?_
      refine N.seq ?_
      refine G.seq ?_
      refine G.region ?_
      refine L.val rfl rfl (R.as rfl) ?_
      refine L.nil ?_
      refine N.seq ?_
      refine G.ret1 rfl rfl ?_
      first
        | (rw [hcv]; exact ⟨rfl, e1, D.fld e1 B1 rfl rfl ⟨D.wf.len, D.wf.wt, D.wf.left⟩⟩)
        | (rw [hcv]; exact ⟨rfl, e2.trans e3 (by simp) (by simp), D2.fld e3 B3 rfl rfl ⟨D.wf.len, D.wf.wt, by show -1 ≤ v.left - 1 ∧ v.left - 1 ≤ _; omega⟩⟩)
        | (rw [hcv]; exact ⟨rfl, e3, D.fld e3 B3 rfl rfl ⟨D.wf.len, D.wf.wt, D.wf.left⟩⟩)

theorem settle_ok (d : Nat) (v : DevV) (sz : Nat) (sa : Option Addr) (sc : Nat) (wa : Option Addr) (wc : Nat) (Ms Mw : List Nat) (x : Nat × List UInt8) (w : World) (D : DevL w d v sz sa sc wa wc Ms Mw) (hx : x.1 < sz) (hx64 : x.2.length = 64) : Meets Try.prog 148 [.pointer (some ⟨d, 0, none⟩), .agg (waitC x).toArray] w (fun _ w' => Ext Ms w w' ∧ DevL w' d { v with stay := (laid v.stay x.1 x.2) } sz sa sc wa wc Ms Mw) := by
  refine Meets.enter Try.func148 rfl 15 rfl (Nat.le_of_ble_eq_true rfl) ?_
  have hl := D.wf.len
  have hN := D.hN
  have hvs : (vbs x.2).length = 64 := by rw [vbs_length, hx64]
  have hll := laid_length (x := v.stay) hx64 (by rw [dn_of hl]; exact hx)
  refine G.seq ?_
  refine G.region ?_
  refine L.do rfl rfl (R.box rfl) ?_
  rintro _ w1 ⟨b3, rfl, hb3, hs1, e1, B3⟩
  replace B3 : Blk w1 b3 (waitC x).toArray 238 (0, 0) := B3
  have D0 := D
  replace D := D.ext0 e1
  refine L.nil ?_
  refine N.seq ?_
  obtain ⟨g7, cur7, rfl, rfl, B7, hz7, hO7⟩ := D.st.over (o := 64 * x.1) (cs := vbs x.2) (by rw [hvs]; omega) (by omega)
  refine G.staged [10] [.blocks ([g7])] [fun w' => Ext [] w1 w', fun w' => Ext [g7] w1 w' ∧ Blk w' g7 (Over cur7 (64 * x.1) (vbs x.2)) 5 (0, 0)] [] (by decide +kernel) (by decide +kernel) rfl rfl rfl (fun _ h => h) ?_
  refine Z.val rfl rfl rfl rfl rfl (fun w2 => R.mv rfl) ?_
  refine Z.val rfl rfl rfl rfl rfl (fun w2 => R.nilChk rfl) ?_
  refine Z.val rfl rfl rfl rfl rfl (fun w2 => R.fld rfl) ?_
  refine Z.read 0 (by decide +kernel) rfl rfl rfl rfl rfl rfl (fun w2 hJ => R.ldB rfl (D.hd.ext0 hJ) rfl) ?_
  refine Z.val rfl rfl rfl rfl rfl (fun w2 => R.fld rfl) ?_
  refine Z.read 0 (by decide +kernel) rfl rfl rfl rfl rfl rfl (fun w2 hJ => R.ldB rfl (B3.ext0 hJ) rfl) ?_
  refine Z.val rfl rfl rfl rfl rfl (fun w2 => R.mul rfl rfl (by omega)) ?_
  refine Z.val rfl rfl rfl rfl rfl (fun w2 => R.slL rfl rfl (by omega) (by omega)) ?_
  refine Z.be 11 rfl (show _ = Value.slice (some ⟨g7, 64 * x.1, none⟩) (v.stay.length - 64 * x.1) (sc - 64 * x.1) by rw [show ((x.1 : Int) * 64).toNat = 64 * x.1 by omega, subA_lit (by have := D.st.le; omega), Nat.zero_add, Nat.mul_one]) ?_
  refine Z.val rfl rfl rfl rfl rfl (fun w2 => R.fld rfl) ?_
  refine Z.val rfl rfl rfl rfl rfl (fun w2 => R.slA rfl) ?_
  refine Z.put (A := fun v _ => v = .int .i64 64) (Lasts.kill (fun _ _ _ _ h => h) (by decide +kernel)) 0 (by decide +kernel) rfl rfl rfl rfl rfl rfl rfl (fun w2 hJ => (R.copyB rfl rfl (B7.ext0 hJ) (Cells.of_blk (B3.ext0 hJ) 1 (vbs x.2) (fun j v hj => by rw [Nat.add_comm]; simpa [waitC] using hj)) (by rw [hvs]; exact (Nat.min_eq_left (by omega)).symm) hz7 (vbs_one _)).mono (fun v w' h => by obtain ⟨rfl, h1, h2, h3⟩ := h; rw [hvs]; exact ⟨rfl, h1, h1.after hJ, h3⟩)) ?_
  refine Z.nil rfl rfl (fun w2 hJ => ?_)
  obtain ⟨e2, B7⟩ := hJ
  rintro _ _
  have o7 := hO7 _ B7
  rw [show List.take (64 * x.1) (vbs v.stay) ++ vbs x.2 ++ List.drop (64 * x.1 + (vbs x.2).length) (vbs v.stay) = vbs (laid v.stay x.1 x.2) by rw [hvs]; simp only [laid, vbs, List.map_append, List.map_take, List.map_drop]] at o7
  refine N.end0 rfl ?_
  exact ⟨e2.after e1, D.lay e2 o7 hll⟩

end Go.Proofs.Ythpolibakkmmeaa
