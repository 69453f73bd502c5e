/-
  The walks of the laws on crc.
-/
import Derived.Test.YtfbkbobphjncfaaCrc
set_option linter.unusedVariables false
namespace Go.Proofs.Ytfbkbobphjncfaa
open Go Brv Brv.Crc

theorem crcTurned_ok (a : Option Addr) (n c : Nat) (l : List UInt8) (x : Int) (w : World) (hb : Bs w a n l) (hn : n ≤ c) (hc : c ≤ 140737488351232) (hx : 0 ≤ x ∧ x ≤ 65535) : Meets Try.prog 4 [.slice a n c, .int .u16 x] w (fun v w' => v = .bool true ∧ Ext [] w w') := by
  refine Meets.enter Try.func4 rfl 48 rfl (Nat.le_of_ble_eq_true rfl) ?_
  have E := Ext.refl [] w
  have hl := hb.len
  refine G.seq ?_
  refine G.region ?_
  refine L.val rfl rfl (R.as rfl) ?_
  refine L.nil ?_
  refine N.seq ?_
  refine G.seq ?_
  refine G.seq ?_
  refine G.region ?_
  refine L.callF rfl rfl rfl go11 (first_ok _) ?_
  rintro _ w1 ⟨rfl, e1⟩
  replace E := E.trans0 e1
  refine L.val rfl rfl (R.not rfl) ?_
  refine L.nil ?_
  refine N.seq ?_
  refine G.condF rfl ?_
  refine G.skip ?_
  refine N.seq ?_
  refine G.seq ?_
  refine G.seq ?_
  refine G.region ?_
  refine L.val rfl rfl (R.mv rfl) ?_
  refine L.val rfl rfl (R.lenS rfl) ?_
  refine L.val rfl rfl (R.gtr rfl rfl) ?_
  refine L.val rfl rfl (R.mv rfl) ?_
  refine L.caseP 12 rfl (fun hg3_3 => ?_) (fun hg3_3 => ?_)
  · refine L.pass rfl rfl ?_
    refine L.pass rfl rfl ?_
    refine L.pass rfl rfl ?_
    first | refine L.val rfl rfl (R.pickT rfl rfl) ?_ | refine L.val rfl rfl (R.pickF rfl rfl) ?_
    refine L.nil ?_
    refine N.seq ?_
    refine G.condT rfl ?_
    refine G.seq ?_
    refine G.region ?_
    refine L.val rfl rfl (R.as rfl) ?_
    refine L.nil ?_
    refine N.seq ?_
    refine G.ret1 rfl rfl ?_
    exact ⟨rfl, E⟩
  · refine L.val rfl rfl (R.mv rfl) ?_
    refine L.val rfl rfl (R.lenS rfl) ?_
    refine L.val rfl rfl (R.lss rfl rfl) ?_
    first | refine L.val rfl rfl (R.pickT rfl rfl) ?_ | refine L.val rfl rfl (R.pickF rfl rfl) ?_
    refine L.nil ?_
    refine N.seq ?_
    refine G.condP rfl (fun h1 => ?_) (fun h1 => ?_)
    · refine G.seq ?_
      refine G.region ?_
      refine L.val rfl rfl (R.as rfl) ?_
      refine L.nil ?_
      refine N.seq ?_
      refine G.ret1 rfl rfl ?_
      exact ⟨rfl, E⟩
    · refine G.skip ?_
      refine N.seq ?_
      refine G.seq ?_
      refine G.region ?_
      refine L.val rfl rfl (R.mv rfl) ?_
      refine L.callF rfl rfl rfl go15 (mark_ok _ _ _ _ _ (hb.ext0 E) (by omega)) ?_
      rintro _ w2 ⟨a1, c1, M1, rfl, e2, o1, hM1⟩
      replace hM1 : ∀ g ∈ M1, w.heap.size ≤ g := fun g hg => Nat.le_trans E.size (hM1 g hg)
      replace E := E.trans0 e2
      have hm := markF_length l
      have hgm := good_mark (l := l) (by omega)
      refine L.val rfl rfl (R.as rfl) ?_
      refine L.nil ?_
      refine N.seq ?_
      refine G.seq ?_
      refine G.seq ?_
      refine G.region ?_
      refine L.val rfl rfl (R.mv rfl) ?_
      refine L.callF rfl rfl rfl go17 (good_ok _ _ _ _ _ (Bs.of_own o1) (by omega)) ?_
      rintro _ w3 ⟨rfl, e3⟩
      replace o1 := o1.ext0 e3
      replace E := E.trans0 e3
      refine L.val rfl rfl (R.not rfl) ?_
      refine L.val rfl rfl (R.mv rfl) ?_
      refine L.isF 22 rfl (by rw [hgm]; rfl) ?_
      refine L.val rfl rfl (R.mv rfl) ?_
      refine L.val rfl rfl (R.lenS rfl) ?_
      refine L.val rfl rfl (R.mv rfl) ?_
      refine L.val rfl rfl (R.lenS rfl) ?_
      refine L.val rfl rfl (R.neI rfl rfl) ?_
      first | refine L.val rfl rfl (R.pickT rfl rfl) ?_ | refine L.val rfl rfl (R.pickF rfl rfl) ?_
      refine L.nil ?_
      refine N.seq ?_
      refine G.condB rfl (fun h2 => ?_) (fun h2 => ?_)
      · exfalso
        simp at h2
      · refine G.skip ?_
        refine N.seq ?_
        refine G.seq ?_
        refine G.region ?_
        refine L.val rfl rfl (R.mv rfl) ?_
        refine L.val rfl rfl (R.conv rfl _ (wrap_i64 (by omega))) ?_
        refine L.val rfl rfl (R.mv rfl) ?_
        refine L.val rfl rfl (R.lenS rfl) ?_
        refine L.val rfl rfl (R.mul rfl rfl (by omega)) ?_
        refine L.val rfl rfl (R.rem rfl rfl (by omega) (by omega)) ?_
        obtain ⟨k, hk⟩ := Int.eq_ofNat_of_zero_le (Int.emod_nonneg x (show (8 * (n : Int)) ≠ 0 by omega))
        have hkn := Int.emod_lt_of_pos x (show (0 : Int) < 8 * n by omega)
        refine L.be 34 rfl (congrArg (Value.int .i64) hk) ?_
        rw [hk] at hkn
        replace hkn : k < 8 * n := by omega
        refine L.val rfl rfl (R.as rfl) ?_
        refine L.nil ?_
        obtain ⟨g, cur, ha, hM, hB, hlt, hset⟩ := o1.set (k / 8) (by omega)
        obtain ⟨p, hp, hcl⟩ := (Bs.of_own o1).at (k / 8) (by omega)
        rw [ha] at hp
        cases hp
        replace hcl : w3.cell? ⟨g, k / 8, none⟩ = some (vb (markF l)[k / 8]) := by rw [← hcl, Go.Addr.add_lit, Nat.zero_add, Nat.mul_one]
        refine N.seq ?_
        refine G.seq ?_
        refine G.staged [10] [Ext [] w3, fun w' => Ext [g] w3 w' ∧ Blk w' g (cur.setIfInBounds (k / 8) (vb ((markF l)[k / 8] ^^^ oneBit (k % 8)))) 5 (0, 0)] [] (by decide +kernel) (by decide +kernel) rfl rfl rfl (fun _ h => h) ?_
        refine Z.val rfl rfl rfl rfl rfl (fun w4 => R.mv rfl) ?_
        refine Z.val rfl rfl rfl rfl rfl (fun w4 => R.mv rfl) ?_
        refine Z.val rfl rfl rfl rfl rfl (fun w4 => R.quo rfl rfl (by omega) (by omega)) ?_
        refine Z.be 37 rfl (congrArg (Value.int .i64) (show (k : Int) / 8 = ((k / 8 : Nat) : Int) by omega)) ?_
        refine Z.val rfl rfl rfl rfl rfl (fun w4 => R.idxO rfl rfl (by omega) (by omega) ha (k / 8) (by omega)) ?_
        refine Z.read 0 (by decide +kernel) rfl rfl rfl rfl rfl rfl (fun w4 hJ => R.ld rfl (cell?_ext0' hcl hJ)) ?_
        refine Z.val rfl rfl rfl rfl rfl (fun w4 => R.mv rfl) ?_
        refine Z.val rfl rfl rfl rfl rfl (fun w4 => R.rem rfl rfl (by omega) (by omega)) ?_
        refine Z.be 41 rfl (congrArg (Value.int .i64) (show (k : Int) % 8 = ((k % 8 : Nat) : Int) by omega)) ?_
        refine Z.val rfl rfl rfl rfl rfl (fun w4 => R.shlW rfl rfl (by omega) _ (shl_u8 (Nat.mod_lt k (by decide)))) ?_
        refine Z.val rfl rfl rfl rfl rfl (fun w4 => R.xorW rfl rfl _ (xorI_u8 _ (oneBit (k % 8)))) ?_
        refine Z.val rfl rfl rfl rfl rfl (fun w4 => R.idxO rfl rfl (by omega) (by omega) ha (k / 8) (by omega)) ?_
        refine Z.set 0 (by decide +kernel) rfl rfl rfl rfl rfl (fun w4 hJ => (R.st rfl rfl (hB.ext0 hJ) hlt rfl).mono (fun _ h => ⟨h.1.after hJ, h.2.2⟩)) ?_
        refine Z.nil rfl rfl (fun w4 hJ => ?_)
        have o2 := hset _ _ hJ.1 hJ.2
        rw [vbs_set] at o2
        have E := E.trans hJ.1 (M := []) (by simp) (by intro x hx; obtain rfl := List.mem_singleton.1 hx; exact .inr (hM1 x (by simp [hM])))
        refine N.seq ?_
        refine G.seq ?_
        refine G.region ?_
        refine L.val rfl rfl (R.mv rfl) ?_
        refine L.callF rfl rfl rfl go17 (good_ok _ _ _ _ _ (Bs.of_own o2) (by omega)) ?_
        rintro _ w5 ⟨rfl, e5⟩
        replace E := E.trans0 e5
        refine L.val rfl rfl (R.not rfl) ?_
        refine L.val rfl rfl (R.as rfl) ?_
        refine L.nil ?_
        refine N.seq ?_
        refine G.ret1 rfl rfl ?_
        exact ⟨congrArg Value.bool (by rw [good_set hgm (by omega) (xor_one (Nat.mod_lt k (by decide)))]; rfl), E⟩

end Go.Proofs.Ytfbkbobphjncfaa
