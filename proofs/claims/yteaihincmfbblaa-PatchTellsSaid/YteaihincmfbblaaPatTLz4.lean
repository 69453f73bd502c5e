/-
  Texts of this claim, put together.
-/
import Derived.Test.YteaihincmfbblaaPatTLz3
/-
  The walks of package patch.
-/
set_option linter.unusedVariables false
set_option linter.unusedSimpArgs false
set_option maxRecDepth 4000
namespace Go.Proofs.Yteaihincmfbblaa
open Go Brv Brv.Pack Brv.Shrink Brv.Patch
theorem unroot_length (l : List UInt8) (e : Int) : (unrootF l e).2.1.length ≤ l.length := by
  unfold unrootF
  exact Nat.le_trans (numF_length _ _ _) (numF_length _ _ _)
theorem partsF_err (n : Nat) {l : List UInt8} {e : Int} (h : e ≠ 0) : partsF n l e = ([], l, e) := by
  cases n with
  | zero => rfl
  | succ n => rw [partsF, if_pos h]
theorem txtF_le (l : List UInt8) (e most : Int) : (txtF l e most).1.length ≤ 65535 := by
  unfold txtF
  split
  · split
    · rw [List.length_take]
      have h := Pack.num_lt (l.take 2)
      have : 256 ^ (l.take 2).length ≤ 256 ^ 2 := Nat.pow_le_pow_right (by decide) (by rw [List.length_take]; omega)
      omega
    · simp
  · simp
structure PaS where
  i : Nat
  l : List UInt8
  e : Int
  ps : List PartV
  a : Option Addr
  c : Nat

set_option maxHeartbeats 2000000 in
theorem parse_no (a : Option Addr) (n c : Nat) (l : List UInt8) (hc : n ≤ c) (hn : n ≤ 1000000) (hpf : parseF l = none) : SpecS Try.prog 31 [.slice a n c] [bs a n l] (fun v H' => v = .tuple #[.pointer none, .int .i64 20] ∧ H' = []) := by
  refine SpecS.enter Try.func31 rfl 55 rfl (Nat.le_of_ble_eq_true rfl) (fun o => ?_)
  refine SG.fact (fun w9 F9 S9 s => (s.bs (a := a) (n := n) (l := l) (by repeat (first | exact Sel.keep | exact Sel.here | apply Sel.there))).len) (fun hf9 => ?_)
  have hln := hf9; clear hf9
  have hm45 : (numF l 0 2).1 = 45229 ∧ okQ (qF l) ∨ ¬ ((numF l 0 2).1 = 45229 ∧ okQ (qF l)) := Classical.em _
  refine SG.seq ?_
  refine SG.region ?_
  refine SL.val rfl rfl (fun w9 F9 S9 s => R.as rfl) ?_
  refine SL.val rfl rfl (fun w9 F9 S9 s => R.as rfl) ?_
  refine SL.nil ?_
  refine SN.seq ?_
  refine SG.seq ?_
  refine SG.region ?_
  refine SL.val rfl rfl (fun w9 F9 S9 s => R.mv rfl) ?_
  refine SL.step rfl rfl (CS.call rfl go52 (scanNew a n c l hc (by omega)) (by repeat (first | exact Sels.nil | apply Sels.cons | exact Sel.keep | exact Sel.here | apply Sel.there))) ?_
  rintro _ _ ⟨_, ⟨b4, rfl, rfl, rfl⟩, rfl⟩
  refine SL.n2 ?_
  refine SL.val rfl rfl (fun w9 F9 S9 s => R.as rfl) ?_
  refine SL.nil ?_
  refine SN.seq ?_
  refine SG.seq ?_
  refine SG.seq ?_
  refine SG.region ?_
  refine SL.val rfl rfl (fun w9 F9 S9 s => R.mv rfl) ?_
  refine SL.step rfl rfl (CS.call rfl go53 (scanNum b4 l 0 2 (by omega)) (by repeat (first | exact Sels.nil | apply Sels.cons | exact Sel.keep | exact Sel.here | apply Sel.there))) ?_
  rintro _ _ ⟨_, ⟨rfl, rfl⟩, rfl⟩
  refine SL.n1 ?_
  obtain ⟨m0, hm0⟩ : ∃ z, z = numF l 0 2 := ⟨_, rfl⟩
  rw [← hm0]
  refine SL.val rfl rfl (fun w9 F9 S9 s => R.neI rfl rfl) ?_
  refine SL.nil ?_
  refine SN.seq ?_
  refine SG.condP rfl (fun h0 => ?_) (fun h0 => ?_)
  · refine SG.seq ?_
    refine SG.region ?_
    refine SL.val rfl rfl (fun w9 F9 S9 s => R.as rfl) ?_
    refine SL.val rfl rfl (fun w9 F9 S9 s => R.as rfl) ?_
    refine SL.nil ?_
    refine SN.seq ?_
    exact SG.ret2 rfl rfl rfl ((Imp.sels (by repeat (first | exact Sels.nil | apply Sels.cons | exact Sel.keep | exact Sel.here | apply Sel.there)))) (⟨rfl, rfl⟩)
  · have hm1 : (numF l 0 2).1 = 45229 := by rw [← hm0]; omega
    have hml : m0.2.1.length ≤ l.length := by rw [hm0]; exact numF_length _ _ _
    refine SG.skip ?_
    refine SN.seq ?_
    refine SG.seq ?_
    refine SG.region ?_
    refine SL.val rfl rfl (fun w9 F9 S9 s => R.mv rfl) ?_
    refine SL.step rfl rfl (CS.call rfl go53 (scanNum b4 m0.2.1 m0.2.2 2 (by omega)) (by repeat (first | exact Sels.nil | apply Sels.cons | exact Sel.keep | exact Sel.here | apply Sel.there))) ?_
    rintro _ _ ⟨_, ⟨rfl, rfl⟩, rfl⟩
    refine SL.n1 ?_
    obtain ⟨b0, hb0⟩ : ∃ z, z = numF m0.2.1 m0.2.2 2 := ⟨_, rfl⟩
    rw [← hb0]
    have hbl : b0.2.1.length ≤ m0.2.1.length := by rw [hb0]; exact numF_length _ _ _
    refine SL.val rfl rfl (fun w9 F9 S9 s => R.mv rfl) ?_
    refine SL.step rfl rfl (CS.call rfl go54 (unroot_ok b4 b0.2.1 b0.2.2 (by omega)) (by repeat (first | exact Sels.nil | apply Sels.cons | exact Sel.keep | exact Sel.here | apply Sel.there))) ?_
    rintro _ _ ⟨_, ⟨rfl, rfl⟩, rfl⟩
    refine SL.n1 ?_
    obtain ⟨o0, ho0⟩ : ∃ z, z = unrootF b0.2.1 b0.2.2 := ⟨_, rfl⟩
    rw [← ho0]
    have hol : o0.2.1.length ≤ b0.2.1.length := by rw [ho0]; exact unroot_length _ _
    refine SL.val rfl rfl (fun w9 F9 S9 s => R.mv rfl) ?_
    refine SL.step rfl rfl (CS.call rfl go54 (unroot_ok b4 o0.2.1 o0.2.2 (by omega)) (by repeat (first | exact Sels.nil | apply Sels.cons | exact Sel.keep | exact Sel.here | apply Sel.there))) ?_
    rintro _ _ ⟨_, ⟨rfl, rfl⟩, rfl⟩
    refine SL.n1 ?_
    obtain ⟨n0, hn0⟩ : ∃ z, z = unrootF o0.2.1 o0.2.2 := ⟨_, rfl⟩
    rw [← hn0]
    have hnl : n0.2.1.length ≤ o0.2.1.length := by rw [hn0]; exact unroot_length _ _
    refine SL.val rfl rfl (fun w9 F9 S9 s => R.build (cs := #[.int .i64 (b0.1 : Int), .int .u64 (o0.1 : Int), .int .u64 (n0.1 : Int), .slice none 0 0]) rfl rfl) ?_
    refine SL.step rfl rfl (CS.boxA rfl) ?_
    rintro _ _ ⟨b18, rfl, rfl⟩
    refine SL.val rfl rfl (fun w9 F9 S9 s => R.as rfl) ?_
    refine SL.nil ?_
    refine SN.seq ?_
    refine SG.seq ?_
    refine SG.seq ?_
    refine SG.region ?_
    refine SL.val rfl rfl (fun w9 F9 S9 s => R.mv rfl) ?_
    refine SL.step rfl rfl (CS.call rfl go53 (scanNum b4 n0.2.1 n0.2.2 2 (by omega)) (by repeat (first | exact Sels.nil | apply Sels.cons | exact Sel.keep | exact Sel.here | apply Sel.there))) ?_
    rintro _ _ ⟨_, ⟨rfl, rfl⟩, rfl⟩
    refine SL.n1 ?_
    obtain ⟨c0, hc0⟩ : ∃ z, z = numF n0.2.1 n0.2.2 2 := ⟨_, rfl⟩
    rw [← hc0]
    have hcl : c0.2.1.length ≤ n0.2.1.length := by rw [hc0]; exact numF_length _ _ _
    have hc6 : c0.1 < 65536 := by rw [hc0]; exact numF_lt _ _ 2 (by decide)
    refine SL.val rfl rfl (fun w9 F9 S9 s => R.mv rfl) ?_
    refine SL.nil ?_
    refine SN.seq ?_
    refine SG.block ?_
    refine SG.imp (Imp.ownNil 78 2) ?_
    refine SG.imp (Imp.pure (p := fun w => ∀ k ∈ ([] : List PartV), PartV.ok w k) (fun w => by simp)) ?_
    refine SG.loop (X := PaS) (fun y => [(4, .pointer (some ⟨b4, 0, none⟩)), (5, .pointer (some ⟨b18, 0, none⟩)), (20, .int .i64 (c0.1 : Int)), (21, .int .i64 (y.i : Int))]) (fun y => [scn 127 b4 (y.l) (y.e), blk b18 [.int .i64 (b0.1 : Int), .int .u64 (o0.1 : Int), .int .u64 (n0.1 : Int), .slice y.a y.ps.length y.c] 75, own 78 2 y.a (y.ps.length) y.c (cellsP y.ps), sh (fun w => ∀ k ∈ y.ps, PartV.ok w k)]) (fun y => y.i ≤ c0.1 ∧ y.ps.length ≤ y.i ∧ y.l.length ≤ l.length ∧ partsF c0.1 c0.2.1 c0.2.2 = (y.ps.map PartV.abs ++ (partsF (c0.1 - y.i) y.l y.e).1, (partsF (c0.1 - y.i) y.l y.e).2)) (fun y => c0.1 - y.i) (⟨0, c0.2.1, c0.2.2, [], none, 0⟩) (Sub.cons rfl (Sub.cons rfl (Sub.cons rfl (Sub.cons rfl (Sub.nil _))))) ((Imp.sels (by repeat (first | exact Sels.nil | apply Sels.cons | exact Sel.keep | exact Sel.here | apply Sel.there)))) (⟨Nat.zero_le _, Nat.le_refl _, by show c0.2.1.length ≤ _; omega, rfl⟩) ?_
    rintro ⟨i, ll, e, ps, pa, pc⟩ ⟨hi, hpi, hll, hinv⟩
    dsimp only at hi hpi hll hinv
    show SG _ _ _ _ _ [(4, .pointer (some ⟨b4, 0, none⟩)), (5, .pointer (some ⟨b18, 0, none⟩)), (20, .int .i64 (c0.1 : Int)), (21, .int .i64 (i : Int))] [scn 127 b4 (ll) (e), blk b18 [.int .i64 (b0.1 : Int), .int .u64 (o0.1 : Int), .int .u64 (n0.1 : Int), .slice pa ps.length pc] 75, own 78 2 pa (ps.length) pc (cellsP ps), sh (fun w => ∀ k ∈ ps, PartV.ok w k)] _
    refine SG.seq ?_
    refine SG.region ?_
    refine SL.val rfl rfl (fun w9 F9 S9 s => R.lss rfl rfl) ?_
    refine SL.nil ?_
    refine SN.seq ?_
    refine SG.seq ?_
    refine SG.condP rfl (fun h1 => ?_) (fun h1 => ?_)
    · refine SG.skip ?_
      refine SN.seq ?_
      refine SG.seq ?_
      refine SG.block ?_
      refine SG.seq ?_
      refine SG.seq ?_
      refine SG.region ?_
      refine SL.val rfl rfl (fun w9 F9 S9 s => R.mv rfl) ?_
      refine SL.step rfl rfl (CS.call rfl go55 (scanErr b4 ll e (by omega)) (by repeat (first | exact Sels.nil | apply Sels.cons | exact Sel.keep | exact Sel.here | apply Sel.there))) ?_
      rintro _ _ ⟨_, ⟨rfl, rfl⟩, rfl⟩
      refine SL.n1 ?_
      refine SL.val rfl rfl (fun w9 F9 S9 s => R.neI rfl rfl) ?_
      refine SL.nil ?_
      refine SN.seq ?_
      refine SG.condP rfl (fun h2 => ?_) (fun h2 => ?_)
      · have hP : partsF c0.1 c0.2.1 c0.2.2 = (ps.map PartV.abs, ll, e) := by rw [hinv, partsF_err _ h2, List.append_nil]
        have hQ : qF l = ⟨b0, o0, n0, c0, (ps.map PartV.abs, ll, e)⟩ := by rw [← hP, hc0, hn0, ho0, hb0, hm0]; rfl
        have hok : okQ (qF l) ↔ (e = 0 ∧ ll = [] ∧ rightF b0.1 (-1) (ps.map PartV.abs) = true ∧ 1 ≤ b0.1 ∧ b0.1 ≤ 64) := by rw [hQ]; rfl
        refine SG.exit _ rfl ?_
        refine SN.seq ?_
        refine SG.seq ?_
        refine SG.seq ?_
        refine SG.imp (Imp.ownSh (show Sel _ (own 78 2 pa (ps.length) pc (cellsP ps)) _ from (by repeat (first | exact Sel.keep | exact Sel.here | apply Sel.there))) (p := fun w => Cells w pa (cellsP ps)) (fun w h => h)) ?_
        refine SG.imp (Imp.fz (show Sel _ (blk b18 [.int .i64 (b0.1 : Int), .int .u64 (o0.1 : Int), .int .u64 (n0.1 : Int), .slice pa ps.length pc] 75) _ from (by repeat (first | exact Sel.keep | exact Sel.here | apply Sel.there)))) ?_
        refine SG.imp (Imp.both (p := fun w => Cells w pa (cellsP ps)) (q := (fun w => ∀ k ∈ ps, PartV.ok w k)) (by repeat (first | exact Sel.keep | exact Sel.here | apply Sel.there)) (by repeat (first | exact Sel.keep | exact Sel.here | apply Sel.there))) ?_
        refine SG.region ?_
        refine SL.val rfl rfl (fun w9 F9 S9 s => R.mv rfl) ?_
        refine SL.step rfl rfl (CS.call rfl go55 (scanErr b4 ll e (by omega)) (by repeat (first | exact Sels.nil | apply Sels.cons | exact Sel.keep | exact Sel.here | apply Sel.there))) ?_
        rintro _ _ ⟨_, ⟨rfl, rfl⟩, rfl⟩
        refine SL.n1 ?_
        refine SL.val rfl rfl (fun w9 F9 S9 s => R.neI rfl rfl) ?_
        refine SL.val rfl rfl (fun w9 F9 S9 s => R.mv rfl) ?_
        refine SL.caseP 44 rfl (fun hg10_3 => ?_) (fun hg10_3 => ?_)
        · have hno : ¬ okQ (qF l) := (fun h9 => hg10_3 (hok.1 h9).1)
          refine SL.pass rfl rfl ?_
          refine SL.pass rfl rfl ?_
          refine SL.pass rfl rfl ?_
          first | refine SL.val rfl rfl (fun w9 F9 S9 s => R.pickT rfl rfl) ?_ | refine SL.val rfl rfl (fun w9 F9 S9 s => R.pickF rfl rfl) ?_
          refine SL.val rfl rfl (fun w9 F9 S9 s => R.mv rfl) ?_
          refine SL.pass rfl rfl ?_
          refine SL.pass rfl rfl ?_
          refine SL.pass rfl rfl ?_
          first | refine SL.val rfl rfl (fun w9 F9 S9 s => R.pickT rfl rfl) ?_ | refine SL.val rfl rfl (fun w9 F9 S9 s => R.pickF rfl rfl) ?_
          refine SL.nil ?_
          refine SN.seq ?_
          refine SG.condT rfl ?_
          refine SG.seq ?_
          refine SG.region ?_
          refine SL.val rfl rfl (fun w9 F9 S9 s => R.as rfl) ?_
          refine SL.val rfl rfl (fun w9 F9 S9 s => R.as rfl) ?_
          refine SL.nil ?_
          refine SN.seq ?_
          exact SG.ret2 rfl rfl rfl ((Imp.sels (by repeat (first | exact Sels.nil | apply Sels.cons | exact Sel.keep | exact Sel.here | apply Sel.there)))) (⟨rfl, rfl⟩)
        · refine SL.val rfl rfl (fun w9 F9 S9 s => R.mv rfl) ?_
          refine SL.step rfl rfl (CS.call rfl go57 (scanLeft b4 ll e (by omega)) (by repeat (first | exact Sels.nil | apply Sels.cons | exact Sel.keep | exact Sel.here | apply Sel.there))) ?_
          rintro _ _ ⟨_, ⟨rfl, rfl⟩, rfl⟩
          refine SL.n1 ?_
          refine SL.val rfl rfl (fun w9 F9 S9 s => R.gtr rfl rfl) ?_
          first | refine SL.val rfl rfl (fun w9 F9 S9 s => R.pickT rfl rfl) ?_ | refine SL.val rfl rfl (fun w9 F9 S9 s => R.pickF rfl rfl) ?_
          refine SL.val rfl rfl (fun w9 F9 S9 s => R.mv rfl) ?_
          refine SL.caseP 49 rfl (fun hg10_8 => ?_) (fun hg10_8 => ?_)
          · have hno : ¬ okQ (qF l) := (fun h9 => by have := (hok.1 h9).2.1; subst this; simp at hg10_8)
            refine SL.pass rfl rfl ?_
            refine SL.pass rfl rfl ?_
            refine SL.pass rfl rfl ?_
            first | refine SL.val rfl rfl (fun w9 F9 S9 s => R.pickT rfl rfl) ?_ | refine SL.val rfl rfl (fun w9 F9 S9 s => R.pickF rfl rfl) ?_
            refine SL.nil ?_
            refine SN.seq ?_
            refine SG.condT rfl ?_
            refine SG.seq ?_
            refine SG.region ?_
            refine SL.val rfl rfl (fun w9 F9 S9 s => R.as rfl) ?_
            refine SL.val rfl rfl (fun w9 F9 S9 s => R.as rfl) ?_
            refine SL.nil ?_
            refine SN.seq ?_
            exact SG.ret2 rfl rfl rfl ((Imp.sels (by repeat (first | exact Sels.nil | apply Sels.cons | exact Sel.keep | exact Sel.here | apply Sel.there)))) (⟨rfl, rfl⟩)
          · refine SL.val rfl rfl (fun w9 F9 S9 s => R.mv rfl) ?_
            refine SL.step rfl rfl (CS.call rfl go58 (right_ok b18 pa pc b0.1 (.int .u64 (o0.1 : Int)) (.int .u64 (n0.1 : Int)) ps (by omega)) (by repeat (first | exact Sels.nil | apply Sels.cons | exact Sel.keep | exact Sel.here | apply Sel.there))) ?_
            rintro _ _ ⟨_, ⟨rfl, rfl⟩, rfl⟩
            refine SL.n0 ?_
            refine SL.val rfl rfl (fun w9 F9 S9 s => R.not rfl) ?_
            first | refine SL.val rfl rfl (fun w9 F9 S9 s => R.pickT rfl rfl) ?_ | refine SL.val rfl rfl (fun w9 F9 S9 s => R.pickF rfl rfl) ?_
            refine SL.nil ?_
            refine SN.seq ?_
            refine SG.condB rfl (fun h3 => ?_) (fun h3 => ?_)
            · have hno : ¬ okQ (qF l) := (fun h9 => by rw [decide_eq_true (hok.1 h9).2.2] at h3; cases h3)
              refine SG.seq ?_
              refine SG.region ?_
              refine SL.val rfl rfl (fun w9 F9 S9 s => R.as rfl) ?_
              refine SL.val rfl rfl (fun w9 F9 S9 s => R.as rfl) ?_
              refine SL.nil ?_
              refine SN.seq ?_
              exact SG.ret2 rfl rfl rfl ((Imp.sels (by repeat (first | exact Sels.nil | apply Sels.cons | exact Sel.keep | exact Sel.here | apply Sel.there)))) (⟨rfl, rfl⟩)
            · have hyes : okQ (qF l) := hok.2 ⟨by omega, List.eq_nil_of_length_eq_zero (by omega), by simpa using h3⟩
              have hpf2 : parseF l = some (patQ (qF l)) := if_pos ⟨hm1, hyes⟩
              rw [hpf] at hpf2
              cases hpf2
      · obtain rfl : e = 0 := by omega
        refine SG.skip ?_
        refine SN.seq ?_
        refine SG.draw [6, 8, 10, 11, 14] [0, 1, 2, 3, 4, 5, 7, 6, 8, 9, 10, 11, 12, 13, 14] (by decide +kernel) rfl ?_
        refine SW.pure rfl rfl rfl rfl (fun w9 => R.mv rfl) ?_
        refine SW.pure rfl rfl rfl rfl (fun w9 => R.mv rfl) ?_
        refine SW.pure rfl rfl rfl rfl (fun w9 => R.nilChk rfl) ?_
        refine SW.pure rfl rfl rfl rfl (fun w9 => R.fld rfl) ?_
        refine SW.read rfl rfl rfl rfl (fun w9 F9 S9 s => R.ldB (v := .slice pa ps.length pc) rfl (s.cel (by repeat (first | exact SelB.blk | exact SelB.fz | apply SelB.there))) (by rfl)) ?_
        refine SW.pure rfl rfl rfl rfl (fun w9 => R.mv rfl) ?_
        refine SW.pure rfl rfl rfl rfl (fun w9 => R.mv rfl) ?_
        refine SW.step rfl rfl rfl rfl (CS.call rfl go53 (scanNum b4 ll 0 2 (by omega)) (by repeat (first | exact Sels.nil | apply Sels.cons | exact Sel.keep | exact Sel.here | apply Sel.there))) ?_
        rintro _ _ ⟨_, ⟨rfl, rfl⟩, rfl⟩
        refine ⟨⟨.inr (fun w9 F9 S9 s => R.ldB (v := .slice pa ps.length pc) rfl (s.cel (by repeat (first | exact SelB.blk | exact SelB.fz | apply SelB.there))) (by rfl)), trivial⟩, ?_⟩
        refine SW.n1 ?_
        obtain ⟨k0, hk0⟩ : ∃ z, z = numF ll 0 2 := ⟨_, rfl⟩
        rw [← hk0]
        have hkl : k0.2.1.length ≤ ll.length := by rw [hk0]; exact numF_length _ _ _
        refine SW.step rfl rfl rfl rfl (CS.call rfl go56 (scanText b4 k0.2.1 k0.2.2 65536 (by omega)) (by repeat (first | exact Sels.nil | apply Sels.cons | exact Sel.keep | exact Sel.here | apply Sel.there))) ?_
        rintro _ _ ⟨_, ⟨a34, c34, rfl, hc34, rfl, rfl⟩, rfl⟩
        refine ⟨⟨.inr (fun w9 F9 S9 s => R.ldB (v := .slice pa ps.length pc) rfl (s.cel (by repeat (first | exact SelB.blk | exact SelB.fz | apply SelB.there))) (by rfl)), trivial⟩, ?_⟩
        refine SW.n2 ?_
        obtain ⟨t0, ht0⟩ : ∃ z, z = txtF k0.2.1 k0.2.2 65536 := ⟨_, rfl⟩
        rw [← ht0]
        rw [← ht0] at hc34
        have htl : t0.2.1.length ≤ k0.2.1.length := by rw [ht0]; exact txtF_length _ _ _
        have htx : t0.1.length ≤ 65535 := by rw [ht0]; exact txtF_le _ _ _
        refine SW.pure rfl rfl rfl rfl (fun w9 => R.build (cs := (PartV.cells (⟨k0.1, a34, t0.1.length, c34, t0.1⟩ : PartV)).toArray) rfl rfl) ?_
        refine SW.step rfl rfl rfl rfl (CS.buildA rfl rfl rfl rfl rfl (cellsP [(⟨k0.1, a34, t0.1.length, c34, t0.1⟩ : PartV)]) rfl) ?_
        rintro _ _ ⟨b36, rfl, rfl⟩
        refine ⟨⟨.inr (fun w9 F9 S9 s => R.ldB (v := .slice pa ps.length pc) rfl (s.cel (by repeat (first | exact SelB.blk | exact SelB.fz | apply SelB.there))) (by rfl)), trivial⟩, ?_⟩
        refine SW.step rfl rfl rfl rfl (CS.app rfl rfl (show Sel _ (own 78 2 pa (ps.length) pc (cellsP ps)) _ from (by repeat (first | exact Sel.keep | exact Sel.here | apply Sel.there))) (fun w9 F9 S9 s => s.blkC (show Sel _ (blk b36 (cellsP [(⟨k0.1, a34, t0.1.length, c34, t0.1⟩ : PartV)]) _) _ from (by repeat (first | exact Sel.keep | exact Sel.here | apply Sel.there)))) rfl (cellsP_one _) (by unfold maxLen; omega) (by omega)) ?_
        rintro _ _ ⟨a37, c37, rfl, rfl⟩
        refine ⟨⟨.inl (by decide +kernel), trivial⟩, ?_⟩
        refine SW.pure rfl rfl rfl rfl (fun w9 => R.nilChk rfl) ?_
        refine SW.pure rfl rfl rfl rfl (fun w9 => R.fld rfl) ?_
        refine SW.step0 rfl rfl rfl (CS.st rfl rfl (show Sel _ (blk b18 _ _) _ from (by repeat (first | exact Sel.keep | exact Sel.here | apply Sel.there))) (by repeat (first | exact SetAt.here | apply SetAt.there)) rfl) ?_
        rintro _ _ rfl
        refine ⟨⟨.inl (by decide +kernel), trivial⟩, ?_⟩
        refine SW.nil ?_
        refine SN.imp (Imp.both (p := (fun w => ∀ k ∈ ps, PartV.ok w k)) (q := fun w => Bs w a34 t0.1.length t0.1) (by repeat (first | exact Sel.keep | exact Sel.here | apply Sel.there)) (by repeat (first | exact Sel.keep | exact Sel.here | apply Sel.there))) ?_
        refine SN.imp (Imp.weak (p := fun w => (∀ k ∈ ps, PartV.ok w k) ∧ Bs w a34 t0.1.length t0.1) (q := (fun w => ∀ k ∈ (ps ++ [(⟨k0.1, a34, t0.1.length, c34, t0.1⟩ : PartV)]), PartV.ok w k)) (by repeat (first | exact Sel.keep | exact Sel.here | apply Sel.there)) (fun w hw k hk => (List.mem_append.1 hk).elim (hw.1 k) (fun h9 => by rw [List.mem_singleton.1 h9]; exact ⟨⟨hc34, htx⟩, hw.2⟩))) ?_
        have hinv2 : partsF c0.1 c0.2.1 c0.2.2 = ((ps ++ [(⟨k0.1, a34, t0.1.length, c34, t0.1⟩ : PartV)]).map PartV.abs ++ (partsF (c0.1 - (i + 1)) t0.2.1 t0.2.2).1, (partsF (c0.1 - (i + 1)) t0.2.1 t0.2.2).2) := by
          rw [hinv, show c0.1 - i = (c0.1 - (i + 1)) + 1 by omega, partsF, if_neg (by decide), ← hk0, ← ht0, List.map_append, List.append_assoc]; rfl
        refine SN.block ?_
        refine SN.seq ?_
        refine SG.region ?_
        refine SL.val rfl rfl (fun w9 F9 S9 s => R.add rfl rfl (by omega)) ?_
        refine SL.val rfl rfl (fun w9 F9 S9 s => R.mv rfl) ?_
        refine SL.nil ?_
        exact SN.again (⟨i + 1, t0.2.1, t0.2.2, ps ++ [(⟨k0.1, a34, t0.1.length, c34, t0.1⟩ : PartV)], a37, c37⟩) (by show c0.1 - (i + 1) < c0.1 - i; omega) (Sub.cons rfl (Sub.cons rfl (Sub.cons rfl (Sub.cons rfl (Sub.nil _))))) ((show Imp _ _ by dsimp only; rw [List.length_append, cellsP_app]; exact (Imp.sels (by repeat (first | exact Sels.nil | apply Sels.cons | exact Sel.keep | exact Sel.here | apply Sel.there))))) (⟨by show i + 1 ≤ c0.1; omega, by show (ps ++ [(⟨k0.1, a34, t0.1.length, c34, t0.1⟩ : PartV)]).length ≤ i + 1; rw [List.length_append]; show ps.length + 1 ≤ i + 1; omega, by show t0.2.1.length ≤ _; omega, hinv2⟩)
    · obtain rfl : i = c0.1 := by omega
      have hP : partsF c0.1 c0.2.1 c0.2.2 = (ps.map PartV.abs, ll, e) := by rw [hinv, (show partsF (c0.1 - c0.1) ll e = ([], ll, e) by rw [Nat.sub_self]; rfl), List.append_nil]
      have hQ : qF l = ⟨b0, o0, n0, c0, (ps.map PartV.abs, ll, e)⟩ := by rw [← hP, hc0, hn0, ho0, hb0, hm0]; rfl
      have hok : okQ (qF l) ↔ (e = 0 ∧ ll = [] ∧ rightF b0.1 (-1) (ps.map PartV.abs) = true ∧ 1 ≤ b0.1 ∧ b0.1 ≤ 64) := by rw [hQ]; rfl
      refine SG.exit _ rfl ?_
      refine SN.seq ?_
      refine SG.seq ?_
      refine SG.seq ?_
      refine SG.imp (Imp.ownSh (show Sel _ (own 78 2 pa (ps.length) pc (cellsP ps)) _ from (by repeat (first | exact Sel.keep | exact Sel.here | apply Sel.there))) (p := fun w => Cells w pa (cellsP ps)) (fun w h => h)) ?_
      refine SG.imp (Imp.fz (show Sel _ (blk b18 [.int .i64 (b0.1 : Int), .int .u64 (o0.1 : Int), .int .u64 (n0.1 : Int), .slice pa ps.length pc] 75) _ from (by repeat (first | exact Sel.keep | exact Sel.here | apply Sel.there)))) ?_
      refine SG.imp (Imp.both (p := fun w => Cells w pa (cellsP ps)) (q := (fun w => ∀ k ∈ ps, PartV.ok w k)) (by repeat (first | exact Sel.keep | exact Sel.here | apply Sel.there)) (by repeat (first | exact Sel.keep | exact Sel.here | apply Sel.there))) ?_
      refine SG.region ?_
      refine SL.val rfl rfl (fun w9 F9 S9 s => R.mv rfl) ?_
      refine SL.step rfl rfl (CS.call rfl go55 (scanErr b4 ll e (by omega)) (by repeat (first | exact Sels.nil | apply Sels.cons | exact Sel.keep | exact Sel.here | apply Sel.there))) ?_
      rintro _ _ ⟨_, ⟨rfl, rfl⟩, rfl⟩
      refine SL.n1 ?_
      refine SL.val rfl rfl (fun w9 F9 S9 s => R.neI rfl rfl) ?_
      refine SL.val rfl rfl (fun w9 F9 S9 s => R.mv rfl) ?_
      refine SL.caseP 44 rfl (fun hg10_3 => ?_) (fun hg10_3 => ?_)
      · have hno : ¬ okQ (qF l) := (fun h9 => hg10_3 (hok.1 h9).1)
        refine SL.pass rfl rfl ?_
        refine SL.pass rfl rfl ?_
        refine SL.pass rfl rfl ?_
        first | refine SL.val rfl rfl (fun w9 F9 S9 s => R.pickT rfl rfl) ?_ | refine SL.val rfl rfl (fun w9 F9 S9 s => R.pickF rfl rfl) ?_
        refine SL.val rfl rfl (fun w9 F9 S9 s => R.mv rfl) ?_
        refine SL.pass rfl rfl ?_
        refine SL.pass rfl rfl ?_
        refine SL.pass rfl rfl ?_
        first | refine SL.val rfl rfl (fun w9 F9 S9 s => R.pickT rfl rfl) ?_ | refine SL.val rfl rfl (fun w9 F9 S9 s => R.pickF rfl rfl) ?_
        refine SL.nil ?_
        refine SN.seq ?_
        refine SG.condT rfl ?_
        refine SG.seq ?_
        refine SG.region ?_
        refine SL.val rfl rfl (fun w9 F9 S9 s => R.as rfl) ?_
        refine SL.val rfl rfl (fun w9 F9 S9 s => R.as rfl) ?_
        refine SL.nil ?_
        refine SN.seq ?_
        exact SG.ret2 rfl rfl rfl ((Imp.sels (by repeat (first | exact Sels.nil | apply Sels.cons | exact Sel.keep | exact Sel.here | apply Sel.there)))) (⟨rfl, rfl⟩)
      · refine SL.val rfl rfl (fun w9 F9 S9 s => R.mv rfl) ?_
        refine SL.step rfl rfl (CS.call rfl go57 (scanLeft b4 ll e (by omega)) (by repeat (first | exact Sels.nil | apply Sels.cons | exact Sel.keep | exact Sel.here | apply Sel.there))) ?_
        rintro _ _ ⟨_, ⟨rfl, rfl⟩, rfl⟩
        refine SL.n1 ?_
        refine SL.val rfl rfl (fun w9 F9 S9 s => R.gtr rfl rfl) ?_
        first | refine SL.val rfl rfl (fun w9 F9 S9 s => R.pickT rfl rfl) ?_ | refine SL.val rfl rfl (fun w9 F9 S9 s => R.pickF rfl rfl) ?_
        refine SL.val rfl rfl (fun w9 F9 S9 s => R.mv rfl) ?_
        refine SL.caseP 49 rfl (fun hg10_8 => ?_) (fun hg10_8 => ?_)
        · have hno : ¬ okQ (qF l) := (fun h9 => by have := (hok.1 h9).2.1; subst this; simp at hg10_8)
          refine SL.pass rfl rfl ?_
          refine SL.pass rfl rfl ?_
          refine SL.pass rfl rfl ?_
          first | refine SL.val rfl rfl (fun w9 F9 S9 s => R.pickT rfl rfl) ?_ | refine SL.val rfl rfl (fun w9 F9 S9 s => R.pickF rfl rfl) ?_
          refine SL.nil ?_
          refine SN.seq ?_
          refine SG.condT rfl ?_
          refine SG.seq ?_
          refine SG.region ?_
          refine SL.val rfl rfl (fun w9 F9 S9 s => R.as rfl) ?_
          refine SL.val rfl rfl (fun w9 F9 S9 s => R.as rfl) ?_
          refine SL.nil ?_
          refine SN.seq ?_
          exact SG.ret2 rfl rfl rfl ((Imp.sels (by repeat (first | exact Sels.nil | apply Sels.cons | exact Sel.keep | exact Sel.here | apply Sel.there)))) (⟨rfl, rfl⟩)
        · refine SL.val rfl rfl (fun w9 F9 S9 s => R.mv rfl) ?_
          refine SL.step rfl rfl (CS.call rfl go58 (right_ok b18 pa pc b0.1 (.int .u64 (o0.1 : Int)) (.int .u64 (n0.1 : Int)) ps (by omega)) (by repeat (first | exact Sels.nil | apply Sels.cons | exact Sel.keep | exact Sel.here | apply Sel.there))) ?_
          rintro _ _ ⟨_, ⟨rfl, rfl⟩, rfl⟩
          refine SL.n0 ?_
          refine SL.val rfl rfl (fun w9 F9 S9 s => R.not rfl) ?_
          first | refine SL.val rfl rfl (fun w9 F9 S9 s => R.pickT rfl rfl) ?_ | refine SL.val rfl rfl (fun w9 F9 S9 s => R.pickF rfl rfl) ?_
          refine SL.nil ?_
          refine SN.seq ?_
          refine SG.condB rfl (fun h3 => ?_) (fun h3 => ?_)
          · have hno : ¬ okQ (qF l) := (fun h9 => by rw [decide_eq_true (hok.1 h9).2.2] at h3; cases h3)
            refine SG.seq ?_
            refine SG.region ?_
            refine SL.val rfl rfl (fun w9 F9 S9 s => R.as rfl) ?_
            refine SL.val rfl rfl (fun w9 F9 S9 s => R.as rfl) ?_
            refine SL.nil ?_
            refine SN.seq ?_
            exact SG.ret2 rfl rfl rfl ((Imp.sels (by repeat (first | exact Sels.nil | apply Sels.cons | exact Sel.keep | exact Sel.here | apply Sel.there)))) (⟨rfl, rfl⟩)
          · have hyes : okQ (qF l) := hok.2 ⟨by omega, List.eq_nil_of_length_eq_zero (by omega), by simpa using h3⟩
            have hpf2 : parseF l = some (patQ (qF l)) := if_pos ⟨hm1, hyes⟩
            rw [hpf] at hpf2
            cases hpf2

set_option maxHeartbeats 2000000 in
theorem parse_yes (a : Option Addr) (n c : Nat) (l : List UInt8) (q : Pat) (hc : n ≤ c) (hn : n ≤ 1000000) (hpf : parseF l = some q) : SpecS Try.prog 31 [.slice a n c] [bs a n l] (fun v H' => ∃ x pa pc ps, v = .tuple #[.pointer (some ⟨x, 0, none⟩), .int .i64 0] ∧ ps.map PartV.abs = q.parts ∧ H' = [fz x [.int .i64 (q.blocks : Int), .int .u64 (q.old : Int), .int .u64 (q.new : Int), .slice pa ps.length pc] 75, sh (fun w => Cells w pa (cellsP ps) ∧ ∀ k ∈ ps, PartV.ok w k)]) := by
  refine SpecS.enter Try.func31 rfl 55 rfl (Nat.le_of_ble_eq_true rfl) (fun o => ?_)
  refine SG.fact (fun w9 F9 S9 s => (s.bs (a := a) (n := n) (l := l) (by repeat (first | exact Sel.keep | exact Sel.here | apply Sel.there))).len) (fun hf9 => ?_)
  have hln := hf9; clear hf9
  have hm45 : (numF l 0 2).1 = 45229 ∧ okQ (qF l) ∨ ¬ ((numF l 0 2).1 = 45229 ∧ okQ (qF l)) := Classical.em _
  refine SG.seq ?_
  refine SG.region ?_
  refine SL.val rfl rfl (fun w9 F9 S9 s => R.as rfl) ?_
  refine SL.val rfl rfl (fun w9 F9 S9 s => R.as rfl) ?_
  refine SL.nil ?_
  refine SN.seq ?_
  refine SG.seq ?_
  refine SG.region ?_
  refine SL.val rfl rfl (fun w9 F9 S9 s => R.mv rfl) ?_
  refine SL.step rfl rfl (CS.call rfl go52 (scanNew a n c l hc (by omega)) (by repeat (first | exact Sels.nil | apply Sels.cons | exact Sel.keep | exact Sel.here | apply Sel.there))) ?_
  rintro _ _ ⟨_, ⟨b4, rfl, rfl, rfl⟩, rfl⟩
  refine SL.n2 ?_
  refine SL.val rfl rfl (fun w9 F9 S9 s => R.as rfl) ?_
  refine SL.nil ?_
  refine SN.seq ?_
  refine SG.seq ?_
  refine SG.seq ?_
  refine SG.region ?_
  refine SL.val rfl rfl (fun w9 F9 S9 s => R.mv rfl) ?_
  refine SL.step rfl rfl (CS.call rfl go53 (scanNum b4 l 0 2 (by omega)) (by repeat (first | exact Sels.nil | apply Sels.cons | exact Sel.keep | exact Sel.here | apply Sel.there))) ?_
  rintro _ _ ⟨_, ⟨rfl, rfl⟩, rfl⟩
  refine SL.n1 ?_
  obtain ⟨m0, hm0⟩ : ∃ z, z = numF l 0 2 := ⟨_, rfl⟩
  rw [← hm0]
  refine SL.val rfl rfl (fun w9 F9 S9 s => R.neI rfl rfl) ?_
  refine SL.nil ?_
  refine SN.seq ?_
  refine SG.condP rfl (fun h0 => ?_) (fun h0 => ?_)
  · exact absurd (hpf.symm.trans (if_neg (fun h9 => h0 (by rw [hm0, h9.1]; rfl)))) (by simp)
  · have hm1 : (numF l 0 2).1 = 45229 := by rw [← hm0]; omega
    have hml : m0.2.1.length ≤ l.length := by rw [hm0]; exact numF_length _ _ _
    refine SG.skip ?_
    refine SN.seq ?_
    refine SG.seq ?_
    refine SG.region ?_
    refine SL.val rfl rfl (fun w9 F9 S9 s => R.mv rfl) ?_
    refine SL.step rfl rfl (CS.call rfl go53 (scanNum b4 m0.2.1 m0.2.2 2 (by omega)) (by repeat (first | exact Sels.nil | apply Sels.cons | exact Sel.keep | exact Sel.here | apply Sel.there))) ?_
    rintro _ _ ⟨_, ⟨rfl, rfl⟩, rfl⟩
    refine SL.n1 ?_
    obtain ⟨b0, hb0⟩ : ∃ z, z = numF m0.2.1 m0.2.2 2 := ⟨_, rfl⟩
    rw [← hb0]
    have hbl : b0.2.1.length ≤ m0.2.1.length := by rw [hb0]; exact numF_length _ _ _
    refine SL.val rfl rfl (fun w9 F9 S9 s => R.mv rfl) ?_
    refine SL.step rfl rfl (CS.call rfl go54 (unroot_ok b4 b0.2.1 b0.2.2 (by omega)) (by repeat (first | exact Sels.nil | apply Sels.cons | exact Sel.keep | exact Sel.here | apply Sel.there))) ?_
    rintro _ _ ⟨_, ⟨rfl, rfl⟩, rfl⟩
    refine SL.n1 ?_
    obtain ⟨o0, ho0⟩ : ∃ z, z = unrootF b0.2.1 b0.2.2 := ⟨_, rfl⟩
    rw [← ho0]
    have hol : o0.2.1.length ≤ b0.2.1.length := by rw [ho0]; exact unroot_length _ _
    refine SL.val rfl rfl (fun w9 F9 S9 s => R.mv rfl) ?_
    refine SL.step rfl rfl (CS.call rfl go54 (unroot_ok b4 o0.2.1 o0.2.2 (by omega)) (by repeat (first | exact Sels.nil | apply Sels.cons | exact Sel.keep | exact Sel.here | apply Sel.there))) ?_
    rintro _ _ ⟨_, ⟨rfl, rfl⟩, rfl⟩
    refine SL.n1 ?_
    obtain ⟨n0, hn0⟩ : ∃ z, z = unrootF o0.2.1 o0.2.2 := ⟨_, rfl⟩
    rw [← hn0]
    have hnl : n0.2.1.length ≤ o0.2.1.length := by rw [hn0]; exact unroot_length _ _
    refine SL.val rfl rfl (fun w9 F9 S9 s => R.build (cs := #[.int .i64 (b0.1 : Int), .int .u64 (o0.1 : Int), .int .u64 (n0.1 : Int), .slice none 0 0]) rfl rfl) ?_
    refine SL.step rfl rfl (CS.boxA rfl) ?_
    rintro _ _ ⟨b18, rfl, rfl⟩
    refine SL.val rfl rfl (fun w9 F9 S9 s => R.as rfl) ?_
    refine SL.nil ?_
    refine SN.seq ?_
    refine SG.seq ?_
    refine SG.seq ?_
    refine SG.region ?_
    refine SL.val rfl rfl (fun w9 F9 S9 s => R.mv rfl) ?_
    refine SL.step rfl rfl (CS.call rfl go53 (scanNum b4 n0.2.1 n0.2.2 2 (by omega)) (by repeat (first | exact Sels.nil | apply Sels.cons | exact Sel.keep | exact Sel.here | apply Sel.there))) ?_
    rintro _ _ ⟨_, ⟨rfl, rfl⟩, rfl⟩
    refine SL.n1 ?_
    obtain ⟨c0, hc0⟩ : ∃ z, z = numF n0.2.1 n0.2.2 2 := ⟨_, rfl⟩
    rw [← hc0]
    have hcl : c0.2.1.length ≤ n0.2.1.length := by rw [hc0]; exact numF_length _ _ _
    have hc6 : c0.1 < 65536 := by rw [hc0]; exact numF_lt _ _ 2 (by decide)
    refine SL.val rfl rfl (fun w9 F9 S9 s => R.mv rfl) ?_
    refine SL.nil ?_
    refine SN.seq ?_
    refine SG.block ?_
    refine SG.imp (Imp.ownNil 78 2) ?_
    refine SG.imp (Imp.pure (p := fun w => ∀ k ∈ ([] : List PartV), PartV.ok w k) (fun w => by simp)) ?_
    refine SG.loop (X := PaS) (fun y => [(4, .pointer (some ⟨b4, 0, none⟩)), (5, .pointer (some ⟨b18, 0, none⟩)), (20, .int .i64 (c0.1 : Int)), (21, .int .i64 (y.i : Int))]) (fun y => [scn 127 b4 (y.l) (y.e), blk b18 [.int .i64 (b0.1 : Int), .int .u64 (o0.1 : Int), .int .u64 (n0.1 : Int), .slice y.a y.ps.length y.c] 75, own 78 2 y.a (y.ps.length) y.c (cellsP y.ps), sh (fun w => ∀ k ∈ y.ps, PartV.ok w k)]) (fun y => y.i ≤ c0.1 ∧ y.ps.length ≤ y.i ∧ y.l.length ≤ l.length ∧ partsF c0.1 c0.2.1 c0.2.2 = (y.ps.map PartV.abs ++ (partsF (c0.1 - y.i) y.l y.e).1, (partsF (c0.1 - y.i) y.l y.e).2)) (fun y => c0.1 - y.i) (⟨0, c0.2.1, c0.2.2, [], none, 0⟩) (Sub.cons rfl (Sub.cons rfl (Sub.cons rfl (Sub.cons rfl (Sub.nil _))))) ((Imp.sels (by repeat (first | exact Sels.nil | apply Sels.cons | exact Sel.keep | exact Sel.here | apply Sel.there)))) (⟨Nat.zero_le _, Nat.le_refl _, by show c0.2.1.length ≤ _; omega, rfl⟩) ?_
    rintro ⟨i, ll, e, ps, pa, pc⟩ ⟨hi, hpi, hll, hinv⟩
    dsimp only at hi hpi hll hinv
    show SG _ _ _ _ _ [(4, .pointer (some ⟨b4, 0, none⟩)), (5, .pointer (some ⟨b18, 0, none⟩)), (20, .int .i64 (c0.1 : Int)), (21, .int .i64 (i : Int))] [scn 127 b4 (ll) (e), blk b18 [.int .i64 (b0.1 : Int), .int .u64 (o0.1 : Int), .int .u64 (n0.1 : Int), .slice pa ps.length pc] 75, own 78 2 pa (ps.length) pc (cellsP ps), sh (fun w => ∀ k ∈ ps, PartV.ok w k)] _
    refine SG.seq ?_
    refine SG.region ?_
    refine SL.val rfl rfl (fun w9 F9 S9 s => R.lss rfl rfl) ?_
    refine SL.nil ?_
    refine SN.seq ?_
    refine SG.seq ?_
    refine SG.condP rfl (fun h1 => ?_) (fun h1 => ?_)
    · refine SG.skip ?_
      refine SN.seq ?_
      refine SG.seq ?_
      refine SG.block ?_
      refine SG.seq ?_
      refine SG.seq ?_
      refine SG.region ?_
      refine SL.val rfl rfl (fun w9 F9 S9 s => R.mv rfl) ?_
      refine SL.step rfl rfl (CS.call rfl go55 (scanErr b4 ll e (by omega)) (by repeat (first | exact Sels.nil | apply Sels.cons | exact Sel.keep | exact Sel.here | apply Sel.there))) ?_
      rintro _ _ ⟨_, ⟨rfl, rfl⟩, rfl⟩
      refine SL.n1 ?_
      refine SL.val rfl rfl (fun w9 F9 S9 s => R.neI rfl rfl) ?_
      refine SL.nil ?_
      refine SN.seq ?_
      refine SG.condP rfl (fun h2 => ?_) (fun h2 => ?_)
      · have hP : partsF c0.1 c0.2.1 c0.2.2 = (ps.map PartV.abs, ll, e) := by rw [hinv, partsF_err _ h2, List.append_nil]
        have hQ : qF l = ⟨b0, o0, n0, c0, (ps.map PartV.abs, ll, e)⟩ := by rw [← hP, hc0, hn0, ho0, hb0, hm0]; rfl
        have hok : okQ (qF l) ↔ (e = 0 ∧ ll = [] ∧ rightF b0.1 (-1) (ps.map PartV.abs) = true ∧ 1 ≤ b0.1 ∧ b0.1 ≤ 64) := by rw [hQ]; rfl
        refine SG.exit _ rfl ?_
        refine SN.seq ?_
        refine SG.seq ?_
        refine SG.seq ?_
        refine SG.imp (Imp.ownSh (show Sel _ (own 78 2 pa (ps.length) pc (cellsP ps)) _ from (by repeat (first | exact Sel.keep | exact Sel.here | apply Sel.there))) (p := fun w => Cells w pa (cellsP ps)) (fun w h => h)) ?_
        refine SG.imp (Imp.fz (show Sel _ (blk b18 [.int .i64 (b0.1 : Int), .int .u64 (o0.1 : Int), .int .u64 (n0.1 : Int), .slice pa ps.length pc] 75) _ from (by repeat (first | exact Sel.keep | exact Sel.here | apply Sel.there)))) ?_
        refine SG.imp (Imp.both (p := fun w => Cells w pa (cellsP ps)) (q := (fun w => ∀ k ∈ ps, PartV.ok w k)) (by repeat (first | exact Sel.keep | exact Sel.here | apply Sel.there)) (by repeat (first | exact Sel.keep | exact Sel.here | apply Sel.there))) ?_
        refine SG.region ?_
        refine SL.val rfl rfl (fun w9 F9 S9 s => R.mv rfl) ?_
        refine SL.step rfl rfl (CS.call rfl go55 (scanErr b4 ll e (by omega)) (by repeat (first | exact Sels.nil | apply Sels.cons | exact Sel.keep | exact Sel.here | apply Sel.there))) ?_
        rintro _ _ ⟨_, ⟨rfl, rfl⟩, rfl⟩
        refine SL.n1 ?_
        refine SL.val rfl rfl (fun w9 F9 S9 s => R.neI rfl rfl) ?_
        refine SL.val rfl rfl (fun w9 F9 S9 s => R.mv rfl) ?_
        refine SL.caseP 44 rfl (fun hg10_3 => ?_) (fun hg10_3 => ?_)
        · have hno : ¬ okQ (qF l) := (fun h9 => hg10_3 (hok.1 h9).1)
          exact absurd (hpf.symm.trans (if_neg (fun h9 => hno h9.2))) (by simp)
        · refine SL.val rfl rfl (fun w9 F9 S9 s => R.mv rfl) ?_
          refine SL.step rfl rfl (CS.call rfl go57 (scanLeft b4 ll e (by omega)) (by repeat (first | exact Sels.nil | apply Sels.cons | exact Sel.keep | exact Sel.here | apply Sel.there))) ?_
          rintro _ _ ⟨_, ⟨rfl, rfl⟩, rfl⟩
          refine SL.n1 ?_
          refine SL.val rfl rfl (fun w9 F9 S9 s => R.gtr rfl rfl) ?_
          first | refine SL.val rfl rfl (fun w9 F9 S9 s => R.pickT rfl rfl) ?_ | refine SL.val rfl rfl (fun w9 F9 S9 s => R.pickF rfl rfl) ?_
          refine SL.val rfl rfl (fun w9 F9 S9 s => R.mv rfl) ?_
          refine SL.caseP 49 rfl (fun hg10_8 => ?_) (fun hg10_8 => ?_)
          · have hno : ¬ okQ (qF l) := (fun h9 => by have := (hok.1 h9).2.1; subst this; simp at hg10_8)
            exact absurd (hpf.symm.trans (if_neg (fun h9 => hno h9.2))) (by simp)
          · refine SL.val rfl rfl (fun w9 F9 S9 s => R.mv rfl) ?_
            refine SL.step rfl rfl (CS.call rfl go58 (right_ok b18 pa pc b0.1 (.int .u64 (o0.1 : Int)) (.int .u64 (n0.1 : Int)) ps (by omega)) (by repeat (first | exact Sels.nil | apply Sels.cons | exact Sel.keep | exact Sel.here | apply Sel.there))) ?_
            rintro _ _ ⟨_, ⟨rfl, rfl⟩, rfl⟩
            refine SL.n0 ?_
            refine SL.val rfl rfl (fun w9 F9 S9 s => R.not rfl) ?_
            first | refine SL.val rfl rfl (fun w9 F9 S9 s => R.pickT rfl rfl) ?_ | refine SL.val rfl rfl (fun w9 F9 S9 s => R.pickF rfl rfl) ?_
            refine SL.nil ?_
            refine SN.seq ?_
            refine SG.condB rfl (fun h3 => ?_) (fun h3 => ?_)
            · have hno : ¬ okQ (qF l) := (fun h9 => by rw [decide_eq_true (hok.1 h9).2.2] at h3; cases h3)
              exact absurd (hpf.symm.trans (if_neg (fun h9 => hno h9.2))) (by simp)
            · have hyes : okQ (qF l) := hok.2 ⟨by omega, List.eq_nil_of_length_eq_zero (by omega), by simpa using h3⟩
              have hpf2 : parseF l = some (patQ (qF l)) := if_pos ⟨hm1, hyes⟩
              rw [hpf, hQ] at hpf2
              cases hpf2
              refine SG.skip ?_
              refine SN.seq ?_
              refine SG.seq ?_
              refine SG.region ?_
              refine SL.val rfl rfl (fun w9 F9 S9 s => R.mv rfl) ?_
              refine SL.val rfl rfl (fun w9 F9 S9 s => R.as rfl) ?_
              refine SL.val rfl rfl (fun w9 F9 S9 s => R.as rfl) ?_
              refine SL.nil ?_
              refine SN.seq ?_
              exact SG.ret2 rfl rfl rfl ((show Imp _ [fz b18 [.int .i64 (b0.1 : Int), .int .u64 (o0.1 : Int), .int .u64 (n0.1 : Int), .slice pa ps.length pc] 75, sh (fun w => Cells w pa (cellsP ps) ∧ ∀ k ∈ ps, PartV.ok w k)] from (Imp.sels (by repeat (first | exact Sels.nil | apply Sels.cons | exact Sel.keep | exact Sel.here | apply Sel.there))))) (⟨b18, pa, pc, ps, rfl, rfl, rfl⟩)
      · obtain rfl : e = 0 := by omega
        refine SG.skip ?_
        refine SN.seq ?_
        refine SG.draw [6, 8, 10, 11, 14] [0, 1, 2, 3, 4, 5, 7, 6, 8, 9, 10, 11, 12, 13, 14] (by decide +kernel) rfl ?_
        refine SW.pure rfl rfl rfl rfl (fun w9 => R.mv rfl) ?_
        refine SW.pure rfl rfl rfl rfl (fun w9 => R.mv rfl) ?_
        refine SW.pure rfl rfl rfl rfl (fun w9 => R.nilChk rfl) ?_
        refine SW.pure rfl rfl rfl rfl (fun w9 => R.fld rfl) ?_
        refine SW.read rfl rfl rfl rfl (fun w9 F9 S9 s => R.ldB (v := .slice pa ps.length pc) rfl (s.cel (by repeat (first | exact SelB.blk | exact SelB.fz | apply SelB.there))) (by rfl)) ?_
        refine SW.pure rfl rfl rfl rfl (fun w9 => R.mv rfl) ?_
        refine SW.pure rfl rfl rfl rfl (fun w9 => R.mv rfl) ?_
        refine SW.step rfl rfl rfl rfl (CS.call rfl go53 (scanNum b4 ll 0 2 (by omega)) (by repeat (first | exact Sels.nil | apply Sels.cons | exact Sel.keep | exact Sel.here | apply Sel.there))) ?_
        rintro _ _ ⟨_, ⟨rfl, rfl⟩, rfl⟩
        refine ⟨⟨.inr (fun w9 F9 S9 s => R.ldB (v := .slice pa ps.length pc) rfl (s.cel (by repeat (first | exact SelB.blk | exact SelB.fz | apply SelB.there))) (by rfl)), trivial⟩, ?_⟩
        refine SW.n1 ?_
        obtain ⟨k0, hk0⟩ : ∃ z, z = numF ll 0 2 := ⟨_, rfl⟩
        rw [← hk0]
        have hkl : k0.2.1.length ≤ ll.length := by rw [hk0]; exact numF_length _ _ _
        refine SW.step rfl rfl rfl rfl (CS.call rfl go56 (scanText b4 k0.2.1 k0.2.2 65536 (by omega)) (by repeat (first | exact Sels.nil | apply Sels.cons | exact Sel.keep | exact Sel.here | apply Sel.there))) ?_
        rintro _ _ ⟨_, ⟨a34, c34, rfl, hc34, rfl, rfl⟩, rfl⟩
        refine ⟨⟨.inr (fun w9 F9 S9 s => R.ldB (v := .slice pa ps.length pc) rfl (s.cel (by repeat (first | exact SelB.blk | exact SelB.fz | apply SelB.there))) (by rfl)), trivial⟩, ?_⟩
        refine SW.n2 ?_
        obtain ⟨t0, ht0⟩ : ∃ z, z = txtF k0.2.1 k0.2.2 65536 := ⟨_, rfl⟩
        rw [← ht0]
        rw [← ht0] at hc34
        have htl : t0.2.1.length ≤ k0.2.1.length := by rw [ht0]; exact txtF_length _ _ _
        have htx : t0.1.length ≤ 65535 := by rw [ht0]; exact txtF_le _ _ _
        refine SW.pure rfl rfl rfl rfl (fun w9 => R.build (cs := (PartV.cells (⟨k0.1, a34, t0.1.length, c34, t0.1⟩ : PartV)).toArray) rfl rfl) ?_
        refine SW.step rfl rfl rfl rfl (CS.buildA rfl rfl rfl rfl rfl (cellsP [(⟨k0.1, a34, t0.1.length, c34, t0.1⟩ : PartV)]) rfl) ?_
        rintro _ _ ⟨b36, rfl, rfl⟩
        refine ⟨⟨.inr (fun w9 F9 S9 s => R.ldB (v := .slice pa ps.length pc) rfl (s.cel (by repeat (first | exact SelB.blk | exact SelB.fz | apply SelB.there))) (by rfl)), trivial⟩, ?_⟩
        refine SW.step rfl rfl rfl rfl (CS.app rfl rfl (show Sel _ (own 78 2 pa (ps.length) pc (cellsP ps)) _ from (by repeat (first | exact Sel.keep | exact Sel.here | apply Sel.there))) (fun w9 F9 S9 s => s.blkC (show Sel _ (blk b36 (cellsP [(⟨k0.1, a34, t0.1.length, c34, t0.1⟩ : PartV)]) _) _ from (by repeat (first | exact Sel.keep | exact Sel.here | apply Sel.there)))) rfl (cellsP_one _) (by unfold maxLen; omega) (by omega)) ?_
        rintro _ _ ⟨a37, c37, rfl, rfl⟩
        refine ⟨⟨.inl (by decide +kernel), trivial⟩, ?_⟩
        refine SW.pure rfl rfl rfl rfl (fun w9 => R.nilChk rfl) ?_
        refine SW.pure rfl rfl rfl rfl (fun w9 => R.fld rfl) ?_
        refine SW.step0 rfl rfl rfl (CS.st rfl rfl (show Sel _ (blk b18 _ _) _ from (by repeat (first | exact Sel.keep | exact Sel.here | apply Sel.there))) (by repeat (first | exact SetAt.here | apply SetAt.there)) rfl) ?_
        rintro _ _ rfl
        refine ⟨⟨.inl (by decide +kernel), trivial⟩, ?_⟩
        refine SW.nil ?_
        refine SN.imp (Imp.both (p := (fun w => ∀ k ∈ ps, PartV.ok w k)) (q := fun w => Bs w a34 t0.1.length t0.1) (by repeat (first | exact Sel.keep | exact Sel.here | apply Sel.there)) (by repeat (first | exact Sel.keep | exact Sel.here | apply Sel.there))) ?_
        refine SN.imp (Imp.weak (p := fun w => (∀ k ∈ ps, PartV.ok w k) ∧ Bs w a34 t0.1.length t0.1) (q := (fun w => ∀ k ∈ (ps ++ [(⟨k0.1, a34, t0.1.length, c34, t0.1⟩ : PartV)]), PartV.ok w k)) (by repeat (first | exact Sel.keep | exact Sel.here | apply Sel.there)) (fun w hw k hk => (List.mem_append.1 hk).elim (hw.1 k) (fun h9 => by rw [List.mem_singleton.1 h9]; exact ⟨⟨hc34, htx⟩, hw.2⟩))) ?_
        have hinv2 : partsF c0.1 c0.2.1 c0.2.2 = ((ps ++ [(⟨k0.1, a34, t0.1.length, c34, t0.1⟩ : PartV)]).map PartV.abs ++ (partsF (c0.1 - (i + 1)) t0.2.1 t0.2.2).1, (partsF (c0.1 - (i + 1)) t0.2.1 t0.2.2).2) := by
          rw [hinv, show c0.1 - i = (c0.1 - (i + 1)) + 1 by omega, partsF, if_neg (by decide), ← hk0, ← ht0, List.map_append, List.append_assoc]; rfl
        refine SN.block ?_
        refine SN.seq ?_
        refine SG.region ?_
        refine SL.val rfl rfl (fun w9 F9 S9 s => R.add rfl rfl (by omega)) ?_
        refine SL.val rfl rfl (fun w9 F9 S9 s => R.mv rfl) ?_
        refine SL.nil ?_
        exact SN.again (⟨i + 1, t0.2.1, t0.2.2, ps ++ [(⟨k0.1, a34, t0.1.length, c34, t0.1⟩ : PartV)], a37, c37⟩) (by show c0.1 - (i + 1) < c0.1 - i; omega) (Sub.cons rfl (Sub.cons rfl (Sub.cons rfl (Sub.cons rfl (Sub.nil _))))) ((show Imp _ _ by dsimp only; rw [List.length_append, cellsP_app]; exact (Imp.sels (by repeat (first | exact Sels.nil | apply Sels.cons | exact Sel.keep | exact Sel.here | apply Sel.there))))) (⟨by show i + 1 ≤ c0.1; omega, by show (ps ++ [(⟨k0.1, a34, t0.1.length, c34, t0.1⟩ : PartV)]).length ≤ i + 1; rw [List.length_append]; show ps.length + 1 ≤ i + 1; omega, by show t0.2.1.length ≤ _; omega, hinv2⟩)
    · obtain rfl : i = c0.1 := by omega
      have hP : partsF c0.1 c0.2.1 c0.2.2 = (ps.map PartV.abs, ll, e) := by rw [hinv, (show partsF (c0.1 - c0.1) ll e = ([], ll, e) by rw [Nat.sub_self]; rfl), List.append_nil]
      have hQ : qF l = ⟨b0, o0, n0, c0, (ps.map PartV.abs, ll, e)⟩ := by rw [← hP, hc0, hn0, ho0, hb0, hm0]; rfl
      have hok : okQ (qF l) ↔ (e = 0 ∧ ll = [] ∧ rightF b0.1 (-1) (ps.map PartV.abs) = true ∧ 1 ≤ b0.1 ∧ b0.1 ≤ 64) := by rw [hQ]; rfl
      refine SG.exit _ rfl ?_
      refine SN.seq ?_
      refine SG.seq ?_
      refine SG.seq ?_
      refine SG.imp (Imp.ownSh (show Sel _ (own 78 2 pa (ps.length) pc (cellsP ps)) _ from (by repeat (first | exact Sel.keep | exact Sel.here | apply Sel.there))) (p := fun w => Cells w pa (cellsP ps)) (fun w h => h)) ?_
      refine SG.imp (Imp.fz (show Sel _ (blk b18 [.int .i64 (b0.1 : Int), .int .u64 (o0.1 : Int), .int .u64 (n0.1 : Int), .slice pa ps.length pc] 75) _ from (by repeat (first | exact Sel.keep | exact Sel.here | apply Sel.there)))) ?_
      refine SG.imp (Imp.both (p := fun w => Cells w pa (cellsP ps)) (q := (fun w => ∀ k ∈ ps, PartV.ok w k)) (by repeat (first | exact Sel.keep | exact Sel.here | apply Sel.there)) (by repeat (first | exact Sel.keep | exact Sel.here | apply Sel.there))) ?_
      refine SG.region ?_
      refine SL.val rfl rfl (fun w9 F9 S9 s => R.mv rfl) ?_
      refine SL.step rfl rfl (CS.call rfl go55 (scanErr b4 ll e (by omega)) (by repeat (first | exact Sels.nil | apply Sels.cons | exact Sel.keep | exact Sel.here | apply Sel.there))) ?_
      rintro _ _ ⟨_, ⟨rfl, rfl⟩, rfl⟩
      refine SL.n1 ?_
      refine SL.val rfl rfl (fun w9 F9 S9 s => R.neI rfl rfl) ?_
      refine SL.val rfl rfl (fun w9 F9 S9 s => R.mv rfl) ?_
      refine SL.caseP 44 rfl (fun hg10_3 => ?_) (fun hg10_3 => ?_)
      · have hno : ¬ okQ (qF l) := (fun h9 => hg10_3 (hok.1 h9).1)
        exact absurd (hpf.symm.trans (if_neg (fun h9 => hno h9.2))) (by simp)
      · refine SL.val rfl rfl (fun w9 F9 S9 s => R.mv rfl) ?_
        refine SL.step rfl rfl (CS.call rfl go57 (scanLeft b4 ll e (by omega)) (by repeat (first | exact Sels.nil | apply Sels.cons | exact Sel.keep | exact Sel.here | apply Sel.there))) ?_
        rintro _ _ ⟨_, ⟨rfl, rfl⟩, rfl⟩
        refine SL.n1 ?_
        refine SL.val rfl rfl (fun w9 F9 S9 s => R.gtr rfl rfl) ?_
        first | refine SL.val rfl rfl (fun w9 F9 S9 s => R.pickT rfl rfl) ?_ | refine SL.val rfl rfl (fun w9 F9 S9 s => R.pickF rfl rfl) ?_
        refine SL.val rfl rfl (fun w9 F9 S9 s => R.mv rfl) ?_
        refine SL.caseP 49 rfl (fun hg10_8 => ?_) (fun hg10_8 => ?_)
        · have hno : ¬ okQ (qF l) := (fun h9 => by have := (hok.1 h9).2.1; subst this; simp at hg10_8)
          exact absurd (hpf.symm.trans (if_neg (fun h9 => hno h9.2))) (by simp)
        · refine SL.val rfl rfl (fun w9 F9 S9 s => R.mv rfl) ?_
          refine SL.step rfl rfl (CS.call rfl go58 (right_ok b18 pa pc b0.1 (.int .u64 (o0.1 : Int)) (.int .u64 (n0.1 : Int)) ps (by omega)) (by repeat (first | exact Sels.nil | apply Sels.cons | exact Sel.keep | exact Sel.here | apply Sel.there))) ?_
          rintro _ _ ⟨_, ⟨rfl, rfl⟩, rfl⟩
          refine SL.n0 ?_
          refine SL.val rfl rfl (fun w9 F9 S9 s => R.not rfl) ?_
          first | refine SL.val rfl rfl (fun w9 F9 S9 s => R.pickT rfl rfl) ?_ | refine SL.val rfl rfl (fun w9 F9 S9 s => R.pickF rfl rfl) ?_
          refine SL.nil ?_
          refine SN.seq ?_
          refine SG.condB rfl (fun h3 => ?_) (fun h3 => ?_)
          · have hno : ¬ okQ (qF l) := (fun h9 => by rw [decide_eq_true (hok.1 h9).2.2] at h3; cases h3)
            exact absurd (hpf.symm.trans (if_neg (fun h9 => hno h9.2))) (by simp)
          · have hyes : okQ (qF l) := hok.2 ⟨by omega, List.eq_nil_of_length_eq_zero (by omega), by simpa using h3⟩
            have hpf2 : parseF l = some (patQ (qF l)) := if_pos ⟨hm1, hyes⟩
            rw [hpf, hQ] at hpf2
            cases hpf2
            refine SG.skip ?_
            refine SN.seq ?_
            refine SG.seq ?_
            refine SG.region ?_
            refine SL.val rfl rfl (fun w9 F9 S9 s => R.mv rfl) ?_
            refine SL.val rfl rfl (fun w9 F9 S9 s => R.as rfl) ?_
            refine SL.val rfl rfl (fun w9 F9 S9 s => R.as rfl) ?_
            refine SL.nil ?_
            refine SN.seq ?_
            exact SG.ret2 rfl rfl rfl ((show Imp _ [fz b18 [.int .i64 (b0.1 : Int), .int .u64 (o0.1 : Int), .int .u64 (n0.1 : Int), .slice pa ps.length pc] 75, sh (fun w => Cells w pa (cellsP ps) ∧ ∀ k ∈ ps, PartV.ok w k)] from (Imp.sels (by repeat (first | exact Sels.nil | apply Sels.cons | exact Sel.keep | exact Sel.here | apply Sel.there))))) (⟨b18, pa, pc, ps, rfl, rfl, rfl⟩)

end Go.Proofs.Yteaihincmfbblaa
/-
  The walks of package patch.
-/
set_option linter.unusedVariables false
set_option linter.unusedSimpArgs false
set_option maxRecDepth 4000
namespace Go.Proofs.Yteaihincmfbblaa
open Go Brv Brv.Pack Brv.Shrink Brv.Patch
def cellsW (ws : List WriteV) : List Value := (ws.map WriteV.cells).flatten
theorem cellsW_one (ws : List WriteV) : ∀ u ∈ cellsW ws, u.oneCell' = true := by
  intro u hu
  obtain ⟨cs, hcs, hu⟩ := List.mem_flatten.1 hu
  obtain ⟨o, _, rfl⟩ := List.mem_map.1 hcs
  exact WriteV.cells.one o u hu
theorem cellsW_append (a b : List WriteV) : cellsW (a ++ b) = cellsW a ++ cellsW b := by simp [cellsW]
theorem tabW {w : World} {a : Option Addr} {n : Nat} {ws : List WriteV} (h : Cells w a (cellsW ws)) (hn : n = ws.length) : Tab w a n 2 (ws.map WriteV.cells) :=
  ⟨h, by rw [List.length_map]; exact hn, fun vs hv => by obtain ⟨o, _, rfl⟩ := List.mem_map.1 hv; rfl⟩
theorem right_all {bl : Nat} : ∀ {ps : List (Nat × List UInt8)} {last : Int}, rightF bl last ps = true → ∀ k ∈ ps, (growF 64 k.2).2 = 0 ∧ (growF 64 k.2).1.length = 64 ∧ k.1 < bl
  | [], _, _, k, hk => by cases hk
  | p :: ps, last, h, k, hk => by
    simp only [rightF, Bool.and_eq_true, decide_eq_true_eq] at h
    rcases List.mem_cons.1 hk with rfl | hk
    · exact ⟨h.1.1.1, h.1.1.2, h.1.2.2⟩
    · exact right_all h.2 k hk
theorem parse_some {l : List UInt8} {q : Pat} (h : parseF l = some q) : rightF q.blocks (-1) q.parts = true ∧ 1 ≤ q.blocks ∧ q.blocks ≤ 64 := by
  unfold parseF at h
  split at h
  · rename_i hok
    cases h
    exact ⟨hok.2.2.2.1, hok.2.2.2.2⟩
  · cases h
theorem right_len {bl : Nat} : ∀ {ps : List (Nat × List UInt8)} {last : Int}, rightF bl last ps = true → (ps.length : Int) ≤ max 0 ((bl : Int) - 1 - last)
  | [], _, _ => by simp; omega
  | p :: ps, last, h => by
    simp only [rightF, Bool.and_eq_true, decide_eq_true_eq] at h
    have := right_len h.2
    have h2 := h.1.2
    simp only [List.length_cons]
    omega
theorem parts_few {l : List UInt8} {q : Pat} (h : parseF l = some q) : q.parts.length ≤ 64 := by
  obtain ⟨h1, h2, h3⟩ := parse_some h
  have := right_len h1
  omega
theorem with_ok : ∀ {ws : List (Int × List UInt8)} {x : List UInt8}, x.length = 64 * Image.dn x → (∀ w ∈ ws, (0 ≤ w.1 ∧ w.1 < (Image.dn x : Int)) ∧ w.2.length = 64) → (Image.withF x ws).2 = 0
  | [], x, _, _ => rfl
  | w :: ws, x, hx, h => by
    have hw := h w (by simp)
    have hl : (Image.laid x w.1.toNat w.2).length = x.length := Image.laid_length hw.2 (by omega)
    have hd : Image.dn (Image.laid x w.1.toNat w.2) = Image.dn x := by unfold Image.dn; rw [hl]
    rw [Image.withF_next (by omega) hw.2]
    exact with_ok (by rw [hl, hd]; exact hx) (fun v hv => by rw [hd]; exact h v (by simp [hv]))
theorem undo_in {x l : List UInt8} {q : Pat} (h : parseF l = some q) (hb : q.blocks = Image.dn x) : ∀ w ∈ q.parts.map (undoW x), (0 ≤ w.1 ∧ w.1 < (Image.dn x : Int)) ∧ w.2.length = 64 := by
  intro w hw
  obtain ⟨k, hk, rfl⟩ := List.mem_map.1 hw
  have := right_all (parse_some h).1 k hk
  exact ⟨⟨Int.natCast_nonneg _, by show (k.1 : Int) < _; omega⟩, by show (laidF _ _).length = 64; rw [laidF_length]; exact this.2.1⟩
structure BlS where
  i : Nat
  a : Option Addr
  c : Nat
structure ApS where
  i : Nat
  ws : List WriteV
  a : Option Addr
  c : Nat

theorem blocks_no (a : Option Addr) (n c : Nat) (l : List UInt8) (hc : n ≤ c) (hn : n ≤ 1000000) (hpf : parseF l = none) : SpecS Try.prog 10 [.slice a n c] [bs a n l] (fun v H' => v = .tuple #[.slice none 0 0, .int .i64 20] ∧ H' = []) := by
  refine SpecS.enter Try.func10 rfl 33 rfl (Nat.le_of_ble_eq_true rfl) (fun o => ?_)
  refine SG.seq ?_
  refine SG.region ?_
  refine SL.val rfl rfl (fun w9 F9 S9 s => R.as rfl) ?_
  refine SL.val rfl rfl (fun w9 F9 S9 s => R.as rfl) ?_
  refine SL.nil ?_
  refine SN.seq ?_
  refine SG.seq ?_
  refine SG.region ?_
  refine SL.val rfl rfl (fun w9 F9 S9 s => R.mv rfl) ?_
  refine SL.step rfl rfl (CS.call rfl go31 (parse_no a n c l hc hn hpf) (by repeat (first | exact Sels.nil | apply Sels.cons | exact Sel.keep | exact Sel.here | apply Sel.there))) ?_
  rintro _ _ ⟨_, ⟨rfl, rfl⟩, rfl⟩
  refine SL.n0 ?_
  refine SL.val rfl rfl (fun w9 F9 S9 s => R.mv rfl) ?_
  refine SL.val rfl rfl (fun w9 F9 S9 s => R.ext rfl rfl) ?_
  refine SL.val rfl rfl (fun w9 F9 S9 s => R.ext rfl rfl) ?_
  refine SL.val rfl rfl (fun w9 F9 S9 s => R.as rfl) ?_
  refine SL.val rfl rfl (fun w9 F9 S9 s => R.as rfl) ?_
  refine SL.nil ?_
  refine SN.seq ?_
  refine SG.seq ?_
  refine SG.seq ?_
  refine SG.region ?_
  refine SL.val rfl rfl (fun w9 F9 S9 s => R.mv rfl) ?_
  refine SL.val rfl rfl (fun w9 F9 S9 s => R.neI rfl rfl) ?_
  refine SL.nil ?_
  refine SN.seq ?_
  refine SG.condP rfl (fun h0 => ?_) (fun h0 => ?_)
  · refine SG.seq ?_
    refine SG.region ?_
    refine SL.val rfl rfl (fun w9 F9 S9 s => R.mv rfl) ?_
    refine SL.val rfl rfl (fun w9 F9 S9 s => R.as rfl) ?_
    refine SL.val rfl rfl (fun w9 F9 S9 s => R.as rfl) ?_
    refine SL.nil ?_
    refine SN.seq ?_
    exact SG.ret2 rfl rfl rfl ((Imp.sels (by repeat (first | exact Sels.nil | apply Sels.cons | exact Sel.keep | exact Sel.here | apply Sel.there)))) (⟨rfl, rfl⟩)
  · exact absurd (by decide) h0

theorem numsP_one (x : List Nat) : ∀ u ∈ nums x, u.oneCell' = true := fun u hu => by obtain ⟨v, _, rfl⟩ := List.mem_map.1 hu; rfl

set_option maxHeartbeats 1000000 in
theorem blocks_yes (a : Option Addr) (n c : Nat) (l : List UInt8) (q : Pat) (hc : n ≤ c) (hn : n ≤ 1000000) (hpf : parseF l = some q) : SpecS Try.prog 10 [.slice a n c] [bs a n l] (fun v H' => ∃ a2 c2, v = .tuple #[.slice a2 q.parts.length c2, .int .i64 0] ∧ H' = [own 3 1 a2 (q.parts.length) c2 (nums (q.parts.map Prod.fst))]) := by
  refine SpecS.enter Try.func10 rfl 33 rfl (Nat.le_of_ble_eq_true rfl) (fun o => ?_)
  refine SG.seq ?_
  refine SG.region ?_
  refine SL.val rfl rfl (fun w9 F9 S9 s => R.as rfl) ?_
  refine SL.val rfl rfl (fun w9 F9 S9 s => R.as rfl) ?_
  refine SL.nil ?_
  refine SN.seq ?_
  refine SG.seq ?_
  refine SG.region ?_
  refine SL.val rfl rfl (fun w9 F9 S9 s => R.mv rfl) ?_
  refine SL.step rfl rfl (CS.call rfl go31 (parse_yes a n c l q hc hn hpf) (by repeat (first | exact Sels.nil | apply Sels.cons | exact Sel.keep | exact Sel.here | apply Sel.there))) ?_
  rintro _ _ ⟨_, ⟨xx, pa, pc, ps, rfl, hps, rfl, rfl⟩, rfl⟩
  refine SL.n2 ?_
  refine SL.val rfl rfl (fun w9 F9 S9 s => R.mv rfl) ?_
  refine SL.val rfl rfl (fun w9 F9 S9 s => R.ext rfl rfl) ?_
  refine SL.val rfl rfl (fun w9 F9 S9 s => R.ext rfl rfl) ?_
  refine SL.val rfl rfl (fun w9 F9 S9 s => R.as rfl) ?_
  refine SL.val rfl rfl (fun w9 F9 S9 s => R.as rfl) ?_
  refine SL.nil ?_
  have hfew := parts_few hpf
  have hpsl : ps.length = q.parts.length := by rw [← hps, List.length_map]
  refine SN.seq ?_
  refine SG.seq ?_
  refine SG.seq ?_
  refine SG.region ?_
  refine SL.val rfl rfl (fun w9 F9 S9 s => R.mv rfl) ?_
  refine SL.val rfl rfl (fun w9 F9 S9 s => R.neI rfl rfl) ?_
  refine SL.nil ?_
  refine SN.seq ?_
  refine SG.condP rfl (fun h0 => ?_) (fun h0 => ?_)
  · exact absurd rfl h0
  · refine SG.skip ?_
    refine SN.seq ?_
    refine SG.seq ?_
    refine SG.region ?_
    refine SL.val rfl rfl (fun w9 F9 S9 s => R.as rfl) ?_
    refine SL.nil ?_
    refine SN.seq ?_
    refine SG.seq ?_
    refine SG.seq ?_
    refine SG.region ?_
    refine SL.val rfl rfl (fun w9 F9 S9 s => R.mv rfl) ?_
    refine SL.val rfl rfl (fun w9 F9 S9 s => R.nilChk rfl) ?_
    refine SL.val rfl rfl (fun w9 F9 S9 s => R.fld rfl) ?_
    refine SL.val rfl rfl (fun w9 F9 S9 s => R.ldB (v := .slice pa ps.length pc) rfl (s.fz (show Sel _ (fz xx [.int .i64 (q.blocks : Int), .int .u64 (q.old : Int), .int .u64 (q.new : Int), .slice pa ps.length pc] 75) _ from (by repeat (first | exact Sel.keep | exact Sel.here | apply Sel.there)))) (by rfl)) ?_
    refine SL.val rfl rfl (fun w9 F9 S9 s => R.lenS rfl) ?_
    refine SL.val rfl rfl (fun w9 F9 S9 s => R.mv rfl) ?_
    refine SL.nil ?_
    refine SN.seq ?_
    refine SG.block ?_
    refine SG.imp (Imp.ownNil 3 1) ?_
    refine SG.loop (X := BlS) (fun y => [(6, .slice y.a y.i y.c), (20, .slice pa ps.length pc), (21, .int .i64 (ps.length : Int)), (22, .int .i64 (y.i : Int))]) (fun y => [own 3 1 y.a (y.i) y.c (nums ((ps.take y.i).map PartV.k)), sh (fun w => Cells w pa (cellsP ps) ∧ ∀ k ∈ ps, PartV.ok w k)]) (fun y => y.i ≤ ps.length) (fun y => ps.length - y.i) (⟨0, none, 0⟩) (Sub.cons rfl (Sub.cons rfl (Sub.cons rfl (Sub.cons rfl (Sub.nil _))))) ((Imp.sels (by repeat (first | exact Sels.nil | apply Sels.cons | exact Sel.keep | exact Sel.here | apply Sel.there)))) (Nat.zero_le _) ?_
    rintro ⟨i, a6, c6⟩ hi
    dsimp only at hi
    show SG _ _ _ _ _ [(6, .slice a6 i c6), (20, .slice pa ps.length pc), (21, .int .i64 (ps.length : Int)), (22, .int .i64 (i : Int))] [own 3 1 a6 (i) c6 (nums ((ps.take i).map PartV.k)), sh (fun w => Cells w pa (cellsP ps) ∧ ∀ k ∈ ps, PartV.ok w k)] _
    refine SG.seq ?_
    refine SG.region ?_
    refine SL.val rfl rfl (fun w9 F9 S9 s => R.lss rfl rfl) ?_
    refine SL.nil ?_
    refine SN.seq ?_
    refine SG.seq ?_
    refine SG.condP rfl (fun h1 => ?_) (fun h1 => ?_)
    · obtain ⟨p, hp⟩ : ∃ p, ps[i]? = some p := ⟨_, List.getElem?_eq_getElem (by omega)⟩
      have hpm := List.mem_of_getElem? hp
      refine SG.fact (fun w9 F9 S9 s => parts_pt (s.sh (p := (fun w => Cells w pa (cellsP ps) ∧ ∀ k ∈ ps, PartV.ok w k)) (by repeat (first | exact Sel.keep | exact Sel.here | apply Sel.there))).1 hp) (fun hf9 => ?_)
      obtain ⟨q0, hq0⟩ := hf9
      refine SG.skip ?_
      refine SN.seq ?_
      refine SG.seq ?_
      refine SG.block ?_
      refine SG.seq ?_
      refine SG.region ?_
      refine SL.val rfl rfl (fun w9 F9 S9 s => R.idx rfl rfl (by omega) (by omega) q0 hq0) ?_
      refine SL.val rfl rfl (fun w9 F9 S9 s => R.ldN (vs := PartV.cells p) rfl (parts_ld (s.sh (p := (fun w => Cells w pa (cellsP ps) ∧ ∀ k ∈ ps, PartV.ok w k)) (by repeat (first | exact Sel.keep | exact Sel.here | apply Sel.there))).1 hq0 hp) rfl) ?_
      refine SL.step rfl rfl (CS.alloc [.int .i64 0, .slice none 0 0] rfl) ?_
      rintro _ _ ⟨b8, rfl, rfl⟩
      refine SL.step0 rfl (CS.stA (vs := PartV.cells p) rfl rfl (by repeat (first | exact Sel.keep | exact Sel.here | apply Sel.there)) (by rfl) (by rfl) (by intro u hu; simp only [PartV.cells, List.mem_cons, List.not_mem_nil, or_false] at hu; rcases hu with rfl | rfl <;> rfl)) ?_
      rintro _ _ rfl
      refine SL.nil ?_
      refine SN.seq ?_
      refine SG.region ?_
      refine SL.val rfl rfl (fun w9 F9 S9 s => R.mv rfl) ?_
      refine SL.val rfl rfl (fun w9 F9 S9 s => R.fld rfl) ?_
      refine SL.val rfl rfl (fun w9 F9 S9 s => R.ldB (v := .int .i64 (p.k : Int)) rfl (s.cel (by repeat (first | exact SelB.blk | exact SelB.fz | apply SelB.there))) (by rfl)) ?_
      refine SL.step rfl rfl (CS.buildA rfl rfl rfl rfl rfl (nums [p.k]) rfl) ?_
      rintro _ _ ⟨b29, rfl, rfl⟩
      refine SL.step rfl rfl (CS.app rfl rfl (by repeat (first | exact Sel.keep | exact Sel.here | apply Sel.there)) (fun w9 F9 S9 s => s.blkC (show Sel _ (blk b29 (nums [p.k]) _) _ from (by repeat (first | exact Sel.keep | exact Sel.here | apply Sel.there)))) rfl (numsP_one _) (by unfold maxLen; omega) (by omega)) ?_
      rintro _ _ ⟨a30, c30, rfl, rfl⟩
      refine SL.val rfl rfl (fun w9 F9 S9 s => R.as rfl) ?_
      refine SL.nil ?_
      refine SN.block ?_
      refine SN.seq ?_
      refine SG.region ?_
      refine SL.val rfl rfl (fun w9 F9 S9 s => R.add rfl rfl (by omega)) ?_
      refine SL.val rfl rfl (fun w9 F9 S9 s => R.mv rfl) ?_
      refine SL.nil ?_
      exact SN.again (⟨i + 1, a30, c30⟩) (by show ps.length - (i + 1) < ps.length - i; omega) (Sub.cons rfl (Sub.cons rfl (Sub.cons rfl (Sub.cons rfl (Sub.nil _))))) ((show Imp _ _ by dsimp only; rw [show (ps.take (i + 1)).map PartV.k = (ps.take i).map PartV.k ++ [p.k] by rw [List.take_add_one, hp, List.map_append]; rfl, nums_append]; exact (Imp.sels (by repeat (first | exact Sels.nil | apply Sels.cons | exact Sel.keep | exact Sel.here | apply Sel.there))))) (by show i + 1 ≤ ps.length; omega)
    · obtain rfl : i = ps.length := by omega
      rw [List.take_length]
      have hmk : ps.map PartV.k = q.parts.map Prod.fst := by rw [← hps, List.map_map]; rfl
      refine SG.exit _ rfl ?_
      refine SN.seq ?_
      refine SG.seq ?_
      refine SG.region ?_
      refine SL.val rfl rfl (fun w9 F9 S9 s => R.mv rfl) ?_
      refine SL.val rfl rfl (fun w9 F9 S9 s => R.as rfl) ?_
      refine SL.val rfl rfl (fun w9 F9 S9 s => R.as rfl) ?_
      refine SL.nil ?_
      refine SN.seq ?_
      exact SG.ret2 rfl rfl rfl ((show Imp _ [own 3 1 a6 (ps.length) c6 (nums (ps.map PartV.k))] from (Imp.sels (by repeat (first | exact Sels.nil | apply Sels.cons | exact Sel.keep | exact Sel.here | apply Sel.there))))) (⟨a6, c6, by rw [hpsl], by rw [hmk, hpsl]⟩)

theorem apply_none (d g e : Nat) (cur : Array Value) (ps0 : List Nat) (x : List UInt8) (a : Option Addr) (n c : Nat) (l : List UInt8) (w : World) (hd : DiskL w d g e cur ps0 x) (hb : Bs w a n l) (hc : n ≤ c) (hn : n ≤ 1000000) (hpf : parseF l = none) : Meets Try.prog 9 [.pointer (some ⟨d, 0, none⟩), .slice a n c] w (fun v w' => v = .tuple #[.pointer none, .int .i64 (applyF rootD x l).2] ∧ Ext [] w w') := by
  refine Meets.law Try.func9 rfl 92 rfl (Nat.le_of_ble_eq_true rfl) (law_cons (p := fun w => DiskL w d g e cur ps0 x) (fun w9 he => hd.ext0 he) (law_bs (hb) (law_nil w))) ?_
  refine SG.seq ?_
  refine SG.region ?_
  refine SL.val rfl rfl (fun w9 F9 S9 s => R.as rfl) ?_
  refine SL.val rfl rfl (fun w9 F9 S9 s => R.as rfl) ?_
  refine SL.nil ?_
  refine SN.seq ?_
  refine SG.seq ?_
  refine SG.seq ?_
  refine SG.region ?_
  refine SL.val rfl rfl (fun w9 F9 S9 s => R.mv rfl) ?_
  refine SL.val rfl rfl (fun w9 F9 S9 s => R.eqNilP rfl rfl) ?_
  refine SL.nil ?_
  refine SN.seq ?_
  refine SG.condF rfl ?_
  refine SG.skip ?_
  refine SN.seq ?_
  refine SG.seq ?_
  refine SG.region ?_
  refine SL.val rfl rfl (fun w9 F9 S9 s => R.mv rfl) ?_
  refine SL.step rfl rfl (CS.call rfl go31 (parse_no a n c l hc hn hpf) (by repeat (first | exact Sels.nil | apply Sels.cons | exact Sel.keep | exact Sel.here | apply Sel.there))) ?_
  rintro _ _ ⟨_, ⟨rfl, rfl⟩, rfl⟩
  refine SL.n0 ?_
  refine SL.val rfl rfl (fun w9 F9 S9 s => R.mv rfl) ?_
  refine SL.val rfl rfl (fun w9 F9 S9 s => R.ext rfl rfl) ?_
  refine SL.val rfl rfl (fun w9 F9 S9 s => R.ext rfl rfl) ?_
  refine SL.val rfl rfl (fun w9 F9 S9 s => R.as rfl) ?_
  refine SL.val rfl rfl (fun w9 F9 S9 s => R.as rfl) ?_
  refine SL.nil ?_
  refine SN.seq ?_
  refine SG.seq ?_
  refine SG.block ?_
  refine SG.seq ?_
  refine SG.draw [8] [0, 1, 2, 3, 4, 5, 6, 7, 8, 9, 10, 11] (by decide +kernel) rfl ?_
  refine SW.pure rfl rfl rfl rfl (fun w9 => R.mv rfl) ?_
  refine SW.pure rfl rfl rfl rfl (fun w9 => R.neI rfl rfl) ?_
  refine SW.pure rfl rfl rfl rfl (fun w9 => R.mv rfl) ?_
  refine SW.isT 26 rfl (decide_eq_true (by decide)) ?_
  refine SW.pass (hd := rfl) rfl rfl rfl ?_
  refine SW.pass (hd := rfl) rfl rfl rfl ?_
  refine SW.pass (hd := rfl) rfl rfl rfl ?_
  refine SW.pass (hd := rfl) rfl rfl rfl ?_
  refine SW.pass (hd := rfl) rfl rfl rfl ?_
  refine SW.passS rfl rfl rfl rfl ⟨trivial, ?_⟩
  refine SW.pass (hd := rfl) rfl rfl rfl ?_
  first | refine SW.pure rfl rfl rfl rfl (fun w9 => R.pickT rfl rfl) ?_ | refine SW.pure rfl rfl rfl rfl (fun w9 => R.pickF rfl rfl) ?_
  refine SW.pure rfl rfl rfl rfl (fun w9 => R.as rfl) ?_
  refine SW.nil ?_
  refine SN.seq ?_
  refine SG.condT rfl ?_
  refine SG.seq ?_
  refine SG.region ?_
  refine SL.val rfl rfl (fun w9 F9 S9 s => R.as rfl) ?_
  refine SL.val rfl rfl (fun w9 F9 S9 s => R.as rfl) ?_
  refine SL.nil ?_
  refine SN.seq ?_
  exact SG.ret2 rfl rfl rfl ((Imp.sels (by repeat (first | exact Sels.nil | apply Sels.cons | exact Sel.keep | exact Sel.here | apply Sel.there)))) (by unfold applyF; rw [hpf])

set_option maxHeartbeats 2000000 in
theorem apply_no (d g e : Nat) (cur : Array Value) (ps0 : List Nat) (x : List UInt8) (a : Option Addr) (n c : Nat) (l : List UInt8) (q : Pat) (w : World) (hd : DiskL w d g e cur ps0 x) (hb : Bs w a n l) (hc : n ≤ c) (hn : n ≤ 1000000) (hpf : parseF l = some q) (he : (applyF rootD x l).2 ≠ 0) : Meets Try.prog 9 [.pointer (some ⟨d, 0, none⟩), .slice a n c] w (fun v w' => v = .tuple #[.pointer none, .int .i64 (applyF rootD x l).2] ∧ Ext [] w w') := by
  refine Meets.law Try.func9 rfl 92 rfl (Nat.le_of_ble_eq_true rfl) (law_cons (p := fun w => DiskL w d g e cur ps0 x) (fun w9 he => hd.ext0 he) (law_bs (hb) (law_nil w))) ?_
  refine SG.fact (fun w9 F9 S9 s => (s.sh (p := fun w => DiskL w d g e cur ps0 x) (by repeat (first | exact Sel.keep | exact Sel.here | apply Sel.there))).pos) (fun hf9 => ?_)
  have hpos := hf9; clear hf9
  refine SG.fact (fun w9 F9 S9 s => (s.sh (p := fun w => DiskL w d g e cur ps0 x) (by repeat (first | exact Sel.keep | exact Sel.here | apply Sel.there))).le) (fun hf9 => ?_)
  have hle := hf9; clear hf9
  refine SG.fact (fun w9 F9 S9 s => (s.sh (p := fun w => DiskL w d g e cur ps0 x) (by repeat (first | exact Sel.keep | exact Sel.here | apply Sel.there))).len) (fun hf9 => ?_)
  have hxl := hf9; clear hf9
  have hdx : Image.dn x = x.length / 64 := rfl
  obtain ⟨hrt, hb1, hb64⟩ := parse_some hpf
  have hfew := parts_few hpf
  have hall := right_all hrt
  have hAF : applyF rootD x l = if 64 * q.blocks ≠ x.length then ([], 20) else if q.old ≠ rootD x then ([], 52) else if rootD (Image.withF x (q.parts.map (undoW x))).1 ≠ q.new then ([], 53) else ((Image.withF x (q.parts.map (undoW x))).1, 0) := by unfold applyF; rw [hpf]
  refine SG.seq ?_
  refine SG.region ?_
  refine SL.val rfl rfl (fun w9 F9 S9 s => R.as rfl) ?_
  refine SL.val rfl rfl (fun w9 F9 S9 s => R.as rfl) ?_
  refine SL.nil ?_
  refine SN.seq ?_
  refine SG.seq ?_
  refine SG.seq ?_
  refine SG.region ?_
  refine SL.val rfl rfl (fun w9 F9 S9 s => R.mv rfl) ?_
  refine SL.val rfl rfl (fun w9 F9 S9 s => R.eqNilP rfl rfl) ?_
  refine SL.nil ?_
  refine SN.seq ?_
  refine SG.condF rfl ?_
  refine SG.skip ?_
  refine SN.seq ?_
  refine SG.seq ?_
  refine SG.region ?_
  refine SL.val rfl rfl (fun w9 F9 S9 s => R.mv rfl) ?_
  refine SL.step rfl rfl (CS.call rfl go31 (parse_yes a n c l q hc hn hpf) (by repeat (first | exact Sels.nil | apply Sels.cons | exact Sel.keep | exact Sel.here | apply Sel.there))) ?_
  rintro _ _ ⟨_, ⟨xx, pa, pc, ps, rfl, hps, rfl, rfl⟩, rfl⟩
  refine SL.n2 ?_
  refine SL.val rfl rfl (fun w9 F9 S9 s => R.mv rfl) ?_
  refine SL.val rfl rfl (fun w9 F9 S9 s => R.ext rfl rfl) ?_
  refine SL.val rfl rfl (fun w9 F9 S9 s => R.ext rfl rfl) ?_
  refine SL.val rfl rfl (fun w9 F9 S9 s => R.as rfl) ?_
  refine SL.val rfl rfl (fun w9 F9 S9 s => R.as rfl) ?_
  refine SL.nil ?_
  have hpsl : ps.length = q.parts.length := by rw [← hps, List.length_map]
  refine SN.seq ?_
  refine SG.seq ?_
  refine SG.block ?_
  refine SG.seq ?_
  refine SG.draw [8] [0, 1, 2, 3, 4, 5, 6, 7, 8, 9, 10, 11] (by decide +kernel) rfl ?_
  refine SW.pure rfl rfl rfl rfl (fun w9 => R.mv rfl) ?_
  refine SW.pure rfl rfl rfl rfl (fun w9 => R.neI rfl rfl) ?_
  refine SW.pure rfl rfl rfl rfl (fun w9 => R.mv rfl) ?_
  refine SW.isF 26 rfl (decide_eq_false (by decide)) ?_
  refine SW.pure rfl rfl rfl rfl (fun w9 => R.mv rfl) ?_
  refine SW.pure rfl rfl rfl rfl (fun w9 => R.nilChk rfl) ?_
  refine SW.pure rfl rfl rfl rfl (fun w9 => R.fld rfl) ?_
  refine SW.read rfl rfl rfl rfl (fun w9 F9 S9 s => R.ldB (v := .int .i64 (q.blocks : Int)) rfl (s.fz (show Sel _ (fz xx [.int .i64 (q.blocks : Int), .int .u64 (q.old : Int), .int .u64 (q.new : Int), .slice pa ps.length pc] 75) _ from (by repeat (first | exact Sel.keep | exact Sel.here | apply Sel.there)))) (by rfl)) ?_
  refine SW.pure rfl rfl rfl rfl (fun w9 => R.mv rfl) ?_
  refine SW.step rfl rfl rfl rfl (CS.callR rfl go13 (fun w9 F9 S9 s => iblocksE (some ⟨d, 0, none⟩) x w9 (disk_o (s.sh (p := fun w => DiskL w d g e cur ps0 x) (by repeat (first | exact Sel.keep | exact Sel.here | apply Sel.there)))))) ?_
  rintro _ _ ⟨rfl, rfl⟩
  refine ⟨⟨.inr (fun w9 F9 S9 s => R.ldB (v := .int .i64 (q.blocks : Int)) rfl (s.fz (show Sel _ (fz xx [.int .i64 (q.blocks : Int), .int .u64 (q.old : Int), .int .u64 (q.new : Int), .slice pa ps.length pc] 75) _ from (by repeat (first | exact Sel.keep | exact Sel.here | apply Sel.there)))) (by rfl)), trivial⟩, ?_⟩
  refine SW.pure rfl rfl rfl rfl (fun w9 => R.neI rfl rfl) ?_
  first | refine SW.pure rfl rfl rfl rfl (fun w9 => R.pickT rfl rfl) ?_ | refine SW.pure rfl rfl rfl rfl (fun w9 => R.pickF rfl rfl) ?_
  refine SW.pure rfl rfl rfl rfl (fun w9 => R.as rfl) ?_
  refine SW.nil ?_
  refine SN.seq ?_
  refine SG.condP rfl (fun h1 => ?_) (fun h1 => ?_)
  · have hA : applyF rootD x l = ([], 20) := by rw [hAF, if_pos (by omega)]
    refine SG.seq ?_
    refine SG.region ?_
    refine SL.val rfl rfl (fun w9 F9 S9 s => R.as rfl) ?_
    refine SL.val rfl rfl (fun w9 F9 S9 s => R.as rfl) ?_
    refine SL.nil ?_
    refine SN.seq ?_
    exact SG.ret2 rfl rfl rfl ((Imp.sels (by repeat (first | exact Sels.nil | apply Sels.cons | exact Sel.keep | exact Sel.here | apply Sel.there)))) (by rw [hA])
  · have hbx : q.blocks = Image.dn x := by omega
    rw [if_neg (by omega)] at hAF
    have hin := undo_in hpf hbx
    have hw0 := with_ok hxl hin
    have hwl := Image.withF_length (x := x) hw0
    refine SG.seq ?_
    refine SG.draw [5] [0, 1, 2, 3, 4, 5, 6, 7] (by decide +kernel) rfl ?_
    refine SW.pure rfl rfl rfl rfl (fun w9 => R.mv rfl) ?_
    refine SW.pure rfl rfl rfl rfl (fun w9 => R.nilChk rfl) ?_
    refine SW.pure rfl rfl rfl rfl (fun w9 => R.fld rfl) ?_
    refine SW.read rfl rfl rfl rfl (fun w9 F9 S9 s => R.ldB (v := .int .u64 (q.old : Int)) rfl (s.fz (show Sel _ (fz xx [.int .i64 (q.blocks : Int), .int .u64 (q.old : Int), .int .u64 (q.new : Int), .slice pa ps.length pc] 75) _ from (by repeat (first | exact Sel.keep | exact Sel.here | apply Sel.there)))) (by rfl)) ?_
    refine SW.pure rfl rfl rfl rfl (fun w9 => R.mv rfl) ?_
    refine SW.step rfl rfl rfl rfl (CS.call rfl go26 (droot_ok d g e cur ps0 x) (by repeat (first | exact Sels.nil | apply Sels.cons | exact Sel.keep | exact Sel.here | apply Sel.there))) ?_
    rintro _ _ ⟨_, ⟨rfl, rfl⟩, rfl⟩
    refine ⟨⟨.inr (fun w9 F9 S9 s => R.ldB (v := .int .u64 (q.old : Int)) rfl (s.fz (show Sel _ (fz xx [.int .i64 (q.blocks : Int), .int .u64 (q.old : Int), .int .u64 (q.new : Int), .slice pa ps.length pc] 75) _ from (by repeat (first | exact Sel.keep | exact Sel.here | apply Sel.there)))) (by rfl)), trivial⟩, ?_⟩
    refine SW.n0 ?_
    refine SW.pure rfl rfl rfl rfl (fun w9 => R.neI rfl rfl) ?_
    refine SW.pure rfl rfl rfl rfl (fun w9 => R.as rfl) ?_
    refine SW.nil ?_
    refine SN.seq ?_
    refine SG.condP rfl (fun h2 => ?_) (fun h2 => ?_)
    · have hA : applyF rootD x l = ([], 52) := by rw [hAF, if_pos (by omega)]
      refine SG.seq ?_
      refine SG.region ?_
      refine SL.val rfl rfl (fun w9 F9 S9 s => R.as rfl) ?_
      refine SL.val rfl rfl (fun w9 F9 S9 s => R.as rfl) ?_
      refine SL.nil ?_
      refine SN.seq ?_
      exact SG.ret2 rfl rfl rfl ((Imp.sels (by repeat (first | exact Sels.nil | apply Sels.cons | exact Sel.keep | exact Sel.here | apply Sel.there)))) (by rw [hA])
    · rw [if_neg (by omega)] at hAF
      refine SG.skip ?_
      refine SN.block ?_
      refine SN.seq ?_
      refine SG.seq ?_
      refine SG.region ?_
      refine SL.val rfl rfl (fun w9 F9 S9 s => R.as rfl) ?_
      refine SL.nil ?_
      refine SN.seq ?_
      refine SG.seq ?_
      refine SG.seq ?_
      refine SG.region ?_
      refine SL.val rfl rfl (fun w9 F9 S9 s => R.mv rfl) ?_
      refine SL.val rfl rfl (fun w9 F9 S9 s => R.nilChk rfl) ?_
      refine SL.val rfl rfl (fun w9 F9 S9 s => R.fld rfl) ?_
      refine SL.val rfl rfl (fun w9 F9 S9 s => R.ldB (v := .slice pa ps.length pc) rfl (s.fz (show Sel _ (fz xx [.int .i64 (q.blocks : Int), .int .u64 (q.old : Int), .int .u64 (q.new : Int), .slice pa ps.length pc] 75) _ from (by repeat (first | exact Sel.keep | exact Sel.here | apply Sel.there)))) (by rfl)) ?_
      refine SL.val rfl rfl (fun w9 F9 S9 s => R.lenS rfl) ?_
      refine SL.val rfl rfl (fun w9 F9 S9 s => R.mv rfl) ?_
      refine SL.nil ?_
      refine SN.seq ?_
      refine SG.block ?_
      refine SG.imp (Imp.ownNil 56 2) ?_
      refine SG.imp (Imp.pure (p := fun w => ∀ o ∈ ([] : List WriteV), Bs w o.B'a o.B'n o.B') (fun w => by simp)) ?_
      refine SG.loop (X := ApS) (fun y => [(0, .pointer (some ⟨d, 0, none⟩)), (6, .pointer (some ⟨xx, 0, none⟩)), (8, .slice y.a y.ws.length y.c), (46, .slice pa ps.length pc), (47, .int .i64 (ps.length : Int)), (48, .int .i64 (y.i : Int))]) (fun y => [own 56 2 y.a (y.ws.length) y.c (cellsW y.ws), sh (fun w => ∀ o ∈ y.ws, Bs w o.B'a o.B'n o.B'), fz xx [.int .i64 (q.blocks : Int), .int .u64 (q.old : Int), .int .u64 (q.new : Int), .slice pa ps.length pc] 75, sh (fun w => Cells w pa (cellsP ps) ∧ ∀ k ∈ ps, PartV.ok w k), sh (fun w => DiskL w d g e cur ps0 x)]) (fun y => y.i ≤ ps.length ∧ y.ws.length = y.i ∧ y.ws.map wv = (q.parts.take y.i).map (undoW x)) (fun y => ps.length - y.i) (⟨0, [], none, 0⟩) (Sub.cons rfl (Sub.cons rfl (Sub.cons rfl (Sub.cons rfl (Sub.cons rfl (Sub.cons rfl (Sub.nil _))))))) ((Imp.sels (by repeat (first | exact Sels.nil | apply Sels.cons | exact Sel.keep | exact Sel.here | apply Sel.there)))) (⟨Nat.zero_le _, rfl, rfl⟩) ?_
      rintro ⟨i, ws, a8, c8⟩ ⟨hi, hwi, hws⟩
      dsimp only at hi hwi hws
      show SG _ _ _ _ _ [(0, .pointer (some ⟨d, 0, none⟩)), (6, .pointer (some ⟨xx, 0, none⟩)), (8, .slice a8 ws.length c8), (46, .slice pa ps.length pc), (47, .int .i64 (ps.length : Int)), (48, .int .i64 (i : Int))] [own 56 2 a8 (ws.length) c8 (cellsW ws), sh (fun w => ∀ o ∈ ws, Bs w o.B'a o.B'n o.B'), fz xx [.int .i64 (q.blocks : Int), .int .u64 (q.old : Int), .int .u64 (q.new : Int), .slice pa ps.length pc] 75, sh (fun w => Cells w pa (cellsP ps) ∧ ∀ k ∈ ps, PartV.ok w k), sh (fun w => DiskL w d g e cur ps0 x)] _
      refine SG.seq ?_
      refine SG.region ?_
      refine SL.val rfl rfl (fun w9 F9 S9 s => R.lss rfl rfl) ?_
      refine SL.nil ?_
      refine SN.seq ?_
      refine SG.seq ?_
      refine SG.condP rfl (fun h3 => ?_) (fun h3 => ?_)
      · obtain ⟨p, hp⟩ : ∃ p, ps[i]? = some p := ⟨_, List.getElem?_eq_getElem (by omega)⟩
        have hpm := List.mem_of_getElem? hp
        refine SG.fact (fun w9 F9 S9 s => parts_pt (s.sh (p := (fun w => Cells w pa (cellsP ps) ∧ ∀ k ∈ ps, PartV.ok w k)) (by repeat (first | exact Sel.keep | exact Sel.here | apply Sel.there))).1 hp) (fun hf9 => ?_)
        obtain ⟨q0, hq0⟩ := hf9
        refine SG.fact (fun w9 F9 S9 s => ((s.sh (p := (fun w => Cells w pa (cellsP ps) ∧ ∀ k ∈ ps, PartV.ok w k)) (by repeat (first | exact Sel.keep | exact Sel.here | apply Sel.there))).2 p hpm).1) (fun hf9 => ?_)
        have hpo := hf9; clear hf9
        refine SG.fact (fun w9 F9 S9 s => ((s.sh (p := (fun w => Cells w pa (cellsP ps) ∧ ∀ k ∈ ps, PartV.ok w k)) (by repeat (first | exact Sel.keep | exact Sel.here | apply Sel.there))).2 p hpm).2.len) (fun hf9 => ?_)
        have hpl := hf9; clear hf9
        have hqp : q.parts[i]? = some (p.k, p.d) := by rw [← hps, List.getElem?_map, hp]; rfl
        obtain ⟨hg1, hg2, hg3⟩ := hall _ (List.mem_of_getElem? hqp)
        dsimp only at hg1 hg2 hg3
        refine SG.imp (Imp.weak (p := (fun w => Cells w pa (cellsP ps) ∧ ∀ k ∈ ps, PartV.ok w k)) (q := fun w => Bs w p.a p.n p.d) (by repeat (first | exact Sel.keep | exact Sel.here | apply Sel.there)) (fun w h => (h.2 p hpm).2)) ?_
        refine SG.skip ?_
        refine SN.seq ?_
        refine SG.seq ?_
        refine SG.block ?_
        refine SG.seq ?_
        refine SG.region ?_
        refine SL.val rfl rfl (fun w9 F9 S9 s => R.idx rfl rfl (by omega) (by omega) q0 hq0) ?_
        refine SL.val rfl rfl (fun w9 F9 S9 s => R.ldN (vs := PartV.cells p) rfl (parts_ld (s.sh (p := (fun w => Cells w pa (cellsP ps) ∧ ∀ k ∈ ps, PartV.ok w k)) (by repeat (first | exact Sel.keep | exact Sel.here | apply Sel.there))).1 hq0 hp) rfl) ?_
        refine SL.step rfl rfl (CS.alloc [.int .i64 0, .slice none 0 0] rfl) ?_
        rintro _ _ ⟨b10, rfl, rfl⟩
        refine SL.step0 rfl (CS.stA (vs := PartV.cells p) rfl rfl (by repeat (first | exact Sel.keep | exact Sel.here | apply Sel.there)) (by rfl) (by rfl) (by intro u hu; simp only [PartV.cells, List.mem_cons, List.not_mem_nil, or_false] at hu; rcases hu with rfl | rfl <;> rfl)) ?_
        rintro _ _ rfl
        refine SL.nil ?_
        refine SN.seq ?_
        refine SG.seq ?_
        refine SG.region ?_
        refine SL.val rfl rfl (fun w9 F9 S9 s => R.mv rfl) ?_
        refine SL.val rfl rfl (fun w9 F9 S9 s => R.fld rfl) ?_
        refine SL.val rfl rfl (fun w9 F9 S9 s => R.ldB (v := .int .i64 (p.k : Int)) rfl (s.cel (by repeat (first | exact SelB.blk | exact SelB.fz | apply SelB.there))) (by rfl)) ?_
        refine SL.step rfl rfl (CS.call rfl go27 (igetS d g e cur ps0 x p.k (by omega)) (by repeat (first | exact Sels.nil | apply Sels.cons | exact Sel.keep | exact Sel.here | apply Sel.there))) ?_
        rintro _ _ ⟨_, ⟨a11, c11, rfl, rfl, rfl⟩, rfl⟩
        refine SL.n2 ?_
        refine SL.imp (Imp.ownBs (show Sel _ (own 5 1 a11 64 c11 (vbs (Image.blk x p.k))) _ from (by repeat (first | exact Sel.keep | exact Sel.here | apply Sel.there)))) ?_
        refine SL.val rfl rfl (fun w9 F9 S9 s => R.mv rfl) ?_
        refine SL.val rfl rfl (fun w9 F9 S9 s => R.ext rfl rfl) ?_
        refine SL.val rfl rfl (fun w9 F9 S9 s => R.ext rfl rfl) ?_
        refine SL.val rfl rfl (fun w9 F9 S9 s => R.as rfl) ?_
        refine SL.val rfl rfl (fun w9 F9 S9 s => R.as rfl) ?_
        refine SL.nil ?_
        refine SN.seq ?_
        refine SG.seq ?_
        refine SG.region ?_
        refine SL.val rfl rfl (fun w9 F9 S9 s => R.mv rfl) ?_
        refine SL.val rfl rfl (fun w9 F9 S9 s => R.fld rfl) ?_
        refine SL.val rfl rfl (fun w9 F9 S9 s => R.ldB (v := .slice p.a p.n p.c) rfl (s.cel (by repeat (first | exact SelB.blk | exact SelB.fz | apply SelB.there))) (by rfl)) ?_
        refine SL.step rfl rfl (CS.call rfl go32 (undoS a11 64 c11 (Image.blk x p.k) p.a p.n p.c p.d (by decide) hpo.1 (by omega) hg1 hg2) (by repeat (first | exact Sels.nil | apply Sels.cons | exact Sel.keep | exact Sel.here | apply Sel.there))) ?_
        rintro _ _ ⟨_, ⟨a13, c13, rfl, rfl, rfl⟩, rfl⟩
        refine SL.n1 ?_
        refine SL.imp (Imp.ownBs (show Sel _ (own 5 1 a13 64 c13 (vbs (laidF (Image.blk x p.k) (growF 64 p.d).1))) _ from (by repeat (first | exact Sel.keep | exact Sel.here | apply Sel.there)))) ?_
        refine SL.val rfl rfl (fun w9 F9 S9 s => R.mv rfl) ?_
        refine SL.val rfl rfl (fun w9 F9 S9 s => R.ext rfl rfl) ?_
        refine SL.val rfl rfl (fun w9 F9 S9 s => R.ext rfl rfl) ?_
        refine SL.val rfl rfl (fun w9 F9 S9 s => R.as rfl) ?_
        refine SL.val rfl rfl (fun w9 F9 S9 s => R.as rfl) ?_
        refine SL.nil ?_
        refine SN.seq ?_
        refine SG.region ?_
        refine SL.val rfl rfl (fun w9 F9 S9 s => R.mv rfl) ?_
        refine SL.val rfl rfl (fun w9 F9 S9 s => R.fld rfl) ?_
        refine SL.val rfl rfl (fun w9 F9 S9 s => R.ldB (v := .int .i64 (p.k : Int)) rfl (s.cel (by repeat (first | exact SelB.blk | exact SelB.fz | apply SelB.there))) (by rfl)) ?_
        refine SL.val rfl rfl (fun w9 F9 S9 s => R.mv rfl) ?_
        refine SL.val rfl rfl (fun w9 F9 S9 s => R.build (cs := (WriteV.cells (⟨(p.k : Int), a13, 64, c13, laidF (Image.blk x p.k) (growF 64 p.d).1⟩ : WriteV)).toArray) rfl rfl) ?_
        refine SL.step rfl rfl (CS.buildA rfl rfl rfl rfl rfl (cellsW [(⟨(p.k : Int), a13, 64, c13, laidF (Image.blk x p.k) (growF 64 p.d).1⟩ : WriteV)]) rfl) ?_
        rintro _ _ ⟨b71, rfl, rfl⟩
        refine SL.step rfl rfl (CS.app rfl rfl (show Sel _ (own 56 2 a8 (ws.length) c8 (cellsW ws)) _ from (by repeat (first | exact Sel.keep | exact Sel.here | apply Sel.there))) (fun w9 F9 S9 s => s.blkC (show Sel _ (blk b71 (cellsW [(⟨(p.k : Int), a13, 64, c13, laidF (Image.blk x p.k) (growF 64 p.d).1⟩ : WriteV)]) _) _ from (by repeat (first | exact Sel.keep | exact Sel.here | apply Sel.there)))) rfl (cellsW_one _) (by unfold maxLen; omega) (by omega)) ?_
        rintro _ _ ⟨a72, c72, rfl, rfl⟩
        refine SL.val rfl rfl (fun w9 F9 S9 s => R.as rfl) ?_
        refine SL.nil ?_
        refine SN.imp (Imp.both (p := (fun w => ∀ o ∈ ws, Bs w o.B'a o.B'n o.B')) (q := fun w => Bs w a13 64 (laidF (Image.blk x p.k) (growF 64 p.d).1)) (by repeat (first | exact Sel.keep | exact Sel.here | apply Sel.there)) (by repeat (first | exact Sel.keep | exact Sel.here | apply Sel.there))) ?_
        refine SN.imp (Imp.weak (p := fun w => (∀ o ∈ ws, Bs w o.B'a o.B'n o.B') ∧ Bs w a13 64 (laidF (Image.blk x p.k) (growF 64 p.d).1)) (q := (fun w => ∀ o ∈ (ws ++ [(⟨(p.k : Int), a13, 64, c13, laidF (Image.blk x p.k) (growF 64 p.d).1⟩ : WriteV)]), Bs w o.B'a o.B'n o.B')) (by repeat (first | exact Sel.keep | exact Sel.here | apply Sel.there)) (fun w hw k hk => (List.mem_append.1 hk).elim (hw.1 k) (fun h9 => by rw [List.mem_singleton.1 h9]; exact hw.2))) ?_
        refine SN.be 8 rfl (show Value.slice a72 (ws.length + 1) c72 = .slice a72 (ws ++ [(⟨(p.k : Int), a13, 64, c13, laidF (Image.blk x p.k) (growF 64 p.d).1⟩ : WriteV)]).length c72 by rw [List.length_append]; rfl) ?_
        refine SN.block ?_
        refine SN.seq ?_
        refine SG.region ?_
        refine SL.val rfl rfl (fun w9 F9 S9 s => R.add rfl rfl (by omega)) ?_
        refine SL.val rfl rfl (fun w9 F9 S9 s => R.mv rfl) ?_
        refine SL.nil ?_
        exact SN.again (⟨i + 1, ws ++ [(⟨(p.k : Int), a13, 64, c13, laidF (Image.blk x p.k) (growF 64 p.d).1⟩ : WriteV)], a72, c72⟩) (by show ps.length - (i + 1) < ps.length - i; omega) (Sub.cons rfl (Sub.cons rfl (Sub.cons rfl (Sub.cons rfl (Sub.cons rfl (Sub.cons rfl (Sub.nil _))))))) ((show Imp _ _ by dsimp only; rw [List.length_append, cellsW_append]; exact (Imp.sels (by repeat (first | exact Sels.nil | apply Sels.cons | exact Sel.keep | exact Sel.here | apply Sel.there))))) (⟨by show i + 1 ≤ ps.length; omega, by show (ws ++ [(⟨(p.k : Int), a13, 64, c13, laidF (Image.blk x p.k) (growF 64 p.d).1⟩ : WriteV)]).length = i + 1; rw [List.length_append, hwi]; rfl, by show (ws ++ [(⟨(p.k : Int), a13, 64, c13, laidF (Image.blk x p.k) (growF 64 p.d).1⟩ : WriteV)]).map wv = _; rw [List.map_append, hws, List.take_add_one, hqp, List.map_append]; rfl⟩)
      · obtain rfl : i = ps.length := by omega
        rw [hpsl, List.take_length] at hws
        refine SG.imp (Imp.ownSh (show Sel _ (own 56 2 a8 (ws.length) c8 (cellsW ws)) _ from (by repeat (first | exact Sel.keep | exact Sel.here | apply Sel.there))) (p := fun w => Cells w a8 (cellsW ws)) (fun w h => h)) ?_
        refine SG.exit _ rfl ?_
        refine SN.seq ?_
        refine SG.seq ?_
        refine SG.region ?_
        refine SL.val rfl rfl (fun w9 F9 S9 s => R.mv rfl) ?_
        refine SL.val rfl rfl (fun w9 F9 S9 s => R.mv rfl) ?_
        refine SL.step rfl rfl (CS.callP rfl go21 (fun w9 F9 S9 s => iwithP d x a8 ws.length c8 ws w9 ⟨g, e, cur, ps0, (s.sh (p := fun w => DiskL w d g e cur ps0 x) (by repeat (first | exact Sel.keep | exact Sel.here | apply Sel.there)))⟩ (tabW (s.sh (p := fun w => Cells w a8 (cellsW ws)) (by repeat (first | exact Sel.keep | exact Sel.here | apply Sel.there))) rfl) (s.sh (p := (fun w => ∀ o ∈ ws, Bs w o.B'a o.B'n o.B')) (by repeat (first | exact Sel.keep | exact Sel.here | apply Sel.there))) (by omega) (by rw [hws]; exact hw0))) ?_
        rintro _ _ ⟨_, ⟨d2, g2, e2, cur2, ps2, rfl, rfl⟩, rfl⟩
        rw [hws]
        refine SL.val rfl rfl (fun w9 F9 S9 s => R.mv rfl) ?_
        refine SL.val rfl rfl (fun w9 F9 S9 s => R.ext rfl rfl) ?_
        refine SL.val rfl rfl (fun w9 F9 S9 s => R.ext rfl rfl) ?_
        refine SL.val rfl rfl (fun w9 F9 S9 s => R.as rfl) ?_
        refine SL.val rfl rfl (fun w9 F9 S9 s => R.as rfl) ?_
        refine SL.nil ?_
        refine SN.seq ?_
        refine SG.seq ?_
        refine SG.seq ?_
        refine SG.draw [4] [0, 1, 2, 3, 5, 6, 7, 8, 4, 9, 10] (by decide +kernel) rfl ?_
        refine SW.pure rfl rfl rfl rfl (fun w9 => R.mv rfl) ?_
        refine SW.pure rfl rfl rfl rfl (fun w9 => R.neI rfl rfl) ?_
        refine SW.pure rfl rfl rfl rfl (fun w9 => R.mv rfl) ?_
        refine SW.isF 82 rfl (decide_eq_false (by decide)) ?_
        refine SW.pure rfl rfl rfl rfl (fun w9 => R.mv rfl) ?_
        refine SW.pure rfl rfl rfl rfl (fun w9 => R.mv rfl) ?_
        refine SW.pure rfl rfl rfl rfl (fun w9 => R.nilChk rfl) ?_
        refine SW.pure rfl rfl rfl rfl (fun w9 => R.fld rfl) ?_
        refine SW.read rfl rfl rfl rfl (fun w9 F9 S9 s => R.ldB (v := .int .u64 (q.new : Int)) rfl (s.fz (show Sel _ (fz xx [.int .i64 (q.blocks : Int), .int .u64 (q.old : Int), .int .u64 (q.new : Int), .slice pa ps.length pc] 75) _ from (by repeat (first | exact Sel.keep | exact Sel.here | apply Sel.there)))) (by rfl)) ?_
        refine SW.step rfl rfl rfl rfl (CS.call rfl go26 (droot_ok d2 g2 e2 cur2 ps2 (Image.withF x (q.parts.map (undoW x))).1) (by repeat (first | exact Sels.nil | apply Sels.cons | exact Sel.keep | exact Sel.here | apply Sel.there))) ?_
        rintro _ _ ⟨_, ⟨rfl, rfl⟩, rfl⟩
        refine ⟨⟨.inr (fun w9 F9 S9 s => R.ldB (v := .int .u64 (q.new : Int)) rfl (s.fz (show Sel _ (fz xx [.int .i64 (q.blocks : Int), .int .u64 (q.old : Int), .int .u64 (q.new : Int), .slice pa ps.length pc] 75) _ from (by repeat (first | exact Sel.keep | exact Sel.here | apply Sel.there)))) (by rfl)), trivial⟩, ?_⟩
        refine SW.n0 ?_
        refine SW.pure rfl rfl rfl rfl (fun w9 => R.neI rfl rfl) ?_
        first | refine SW.pure rfl rfl rfl rfl (fun w9 => R.pickT rfl rfl) ?_ | refine SW.pure rfl rfl rfl rfl (fun w9 => R.pickF rfl rfl) ?_
        refine SW.nil ?_
        refine SN.seq ?_
        refine SG.condP rfl (fun h4 => ?_) (fun h4 => ?_)
        · have hA : applyF rootD x l = ([], 53) := by rw [hAF, if_pos (by omega)]
          refine SG.seq ?_
          refine SG.region ?_
          refine SL.val rfl rfl (fun w9 F9 S9 s => R.as rfl) ?_
          refine SL.val rfl rfl (fun w9 F9 S9 s => R.as rfl) ?_
          refine SL.nil ?_
          refine SN.seq ?_
          exact SG.ret2 rfl rfl rfl ((Imp.sels (by repeat (first | exact Sels.nil | apply Sels.cons | exact Sel.keep | exact Sel.here | apply Sel.there)))) (by rw [hA])
        · have hA : applyF rootD x l = ((Image.withF x (q.parts.map (undoW x))).1, 0) := by rw [hAF, if_neg (by omega)]
          rw [hA] at he
          exact absurd rfl he

set_option maxHeartbeats 2000000 in
theorem apply_yes (d g e : Nat) (cur : Array Value) (ps0 : List Nat) (x : List UInt8) (a : Option Addr) (n c : Nat) (l : List UInt8) (q : Pat) (w : World) (hd : DiskL w d g e cur ps0 x) (hb : Bs w a n l) (hc : n ≤ c) (hn : n ≤ 1000000) (hpf : parseF l = some q) (he : (applyF rootD x l).2 = 0) : Meets Try.prog 9 [.pointer (some ⟨d, 0, none⟩), .slice a n c] w (fun v w' => ∃ p : World → Prop, (∃ d2 g2 e2 cur2 ps2, v = .tuple #[.pointer (some ⟨d2, 0, none⟩), .int .i64 0] ∧ p = fun w => DiskL w d2 g2 e2 cur2 ps2 (applyF rootD x l).1) ∧ Ext [] w w' ∧ ∀ w'', Ext [] w' w'' → p w'') := by
  refine Meets.lawP (φ := fun v p => ∃ d2 g2 e2 cur2 ps2, v = .tuple #[.pointer (some ⟨d2, 0, none⟩), .int .i64 0] ∧ p = fun w => DiskL w d2 g2 e2 cur2 ps2 (applyF rootD x l).1) Try.func9 rfl 92 rfl (Nat.le_of_ble_eq_true rfl) (law_cons (p := fun w => DiskL w d g e cur ps0 x) (fun w9 he => hd.ext0 he) (law_bs (hb) (law_nil w))) ?_
  refine SG.fact (fun w9 F9 S9 s => (s.sh (p := fun w => DiskL w d g e cur ps0 x) (by repeat (first | exact Sel.keep | exact Sel.here | apply Sel.there))).pos) (fun hf9 => ?_)
  have hpos := hf9; clear hf9
  refine SG.fact (fun w9 F9 S9 s => (s.sh (p := fun w => DiskL w d g e cur ps0 x) (by repeat (first | exact Sel.keep | exact Sel.here | apply Sel.there))).le) (fun hf9 => ?_)
  have hle := hf9; clear hf9
  refine SG.fact (fun w9 F9 S9 s => (s.sh (p := fun w => DiskL w d g e cur ps0 x) (by repeat (first | exact Sel.keep | exact Sel.here | apply Sel.there))).len) (fun hf9 => ?_)
  have hxl := hf9; clear hf9
  have hdx : Image.dn x = x.length / 64 := rfl
  obtain ⟨hrt, hb1, hb64⟩ := parse_some hpf
  have hfew := parts_few hpf
  have hall := right_all hrt
  have hAF : applyF rootD x l = if 64 * q.blocks ≠ x.length then ([], 20) else if q.old ≠ rootD x then ([], 52) else if rootD (Image.withF x (q.parts.map (undoW x))).1 ≠ q.new then ([], 53) else ((Image.withF x (q.parts.map (undoW x))).1, 0) := by unfold applyF; rw [hpf]
  refine SG.seq ?_
  refine SG.region ?_
  refine SL.val rfl rfl (fun w9 F9 S9 s => R.as rfl) ?_
  refine SL.val rfl rfl (fun w9 F9 S9 s => R.as rfl) ?_
  refine SL.nil ?_
  refine SN.seq ?_
  refine SG.seq ?_
  refine SG.seq ?_
  refine SG.region ?_
  refine SL.val rfl rfl (fun w9 F9 S9 s => R.mv rfl) ?_
  refine SL.val rfl rfl (fun w9 F9 S9 s => R.eqNilP rfl rfl) ?_
  refine SL.nil ?_
  refine SN.seq ?_
  refine SG.condF rfl ?_
  refine SG.skip ?_
  refine SN.seq ?_
  refine SG.seq ?_
  refine SG.region ?_
  refine SL.val rfl rfl (fun w9 F9 S9 s => R.mv rfl) ?_
  refine SL.step rfl rfl (CS.call rfl go31 (parse_yes a n c l q hc hn hpf) (by repeat (first | exact Sels.nil | apply Sels.cons | exact Sel.keep | exact Sel.here | apply Sel.there))) ?_
  rintro _ _ ⟨_, ⟨xx, pa, pc, ps, rfl, hps, rfl, rfl⟩, rfl⟩
  refine SL.n2 ?_
  refine SL.val rfl rfl (fun w9 F9 S9 s => R.mv rfl) ?_
  refine SL.val rfl rfl (fun w9 F9 S9 s => R.ext rfl rfl) ?_
  refine SL.val rfl rfl (fun w9 F9 S9 s => R.ext rfl rfl) ?_
  refine SL.val rfl rfl (fun w9 F9 S9 s => R.as rfl) ?_
  refine SL.val rfl rfl (fun w9 F9 S9 s => R.as rfl) ?_
  refine SL.nil ?_
  have hpsl : ps.length = q.parts.length := by rw [← hps, List.length_map]
  refine SN.seq ?_
  refine SG.seq ?_
  refine SG.block ?_
  refine SG.seq ?_
  refine SG.draw [8] [0, 1, 2, 3, 4, 5, 6, 7, 8, 9, 10, 11] (by decide +kernel) rfl ?_
  refine SW.pure rfl rfl rfl rfl (fun w9 => R.mv rfl) ?_
  refine SW.pure rfl rfl rfl rfl (fun w9 => R.neI rfl rfl) ?_
  refine SW.pure rfl rfl rfl rfl (fun w9 => R.mv rfl) ?_
  refine SW.isF 26 rfl (decide_eq_false (by decide)) ?_
  refine SW.pure rfl rfl rfl rfl (fun w9 => R.mv rfl) ?_
  refine SW.pure rfl rfl rfl rfl (fun w9 => R.nilChk rfl) ?_
  refine SW.pure rfl rfl rfl rfl (fun w9 => R.fld rfl) ?_
  refine SW.read rfl rfl rfl rfl (fun w9 F9 S9 s => R.ldB (v := .int .i64 (q.blocks : Int)) rfl (s.fz (show Sel _ (fz xx [.int .i64 (q.blocks : Int), .int .u64 (q.old : Int), .int .u64 (q.new : Int), .slice pa ps.length pc] 75) _ from (by repeat (first | exact Sel.keep | exact Sel.here | apply Sel.there)))) (by rfl)) ?_
  refine SW.pure rfl rfl rfl rfl (fun w9 => R.mv rfl) ?_
  refine SW.step rfl rfl rfl rfl (CS.callR rfl go13 (fun w9 F9 S9 s => iblocksE (some ⟨d, 0, none⟩) x w9 (disk_o (s.sh (p := fun w => DiskL w d g e cur ps0 x) (by repeat (first | exact Sel.keep | exact Sel.here | apply Sel.there)))))) ?_
  rintro _ _ ⟨rfl, rfl⟩
  refine ⟨⟨.inr (fun w9 F9 S9 s => R.ldB (v := .int .i64 (q.blocks : Int)) rfl (s.fz (show Sel _ (fz xx [.int .i64 (q.blocks : Int), .int .u64 (q.old : Int), .int .u64 (q.new : Int), .slice pa ps.length pc] 75) _ from (by repeat (first | exact Sel.keep | exact Sel.here | apply Sel.there)))) (by rfl)), trivial⟩, ?_⟩
  refine SW.pure rfl rfl rfl rfl (fun w9 => R.neI rfl rfl) ?_
  first | refine SW.pure rfl rfl rfl rfl (fun w9 => R.pickT rfl rfl) ?_ | refine SW.pure rfl rfl rfl rfl (fun w9 => R.pickF rfl rfl) ?_
  refine SW.pure rfl rfl rfl rfl (fun w9 => R.as rfl) ?_
  refine SW.nil ?_
  refine SN.seq ?_
  refine SG.condP rfl (fun h1 => ?_) (fun h1 => ?_)
  · have hA : applyF rootD x l = ([], 20) := by rw [hAF, if_pos (by omega)]
    rw [hA] at he
    exact absurd he (by decide)
  · have hbx : q.blocks = Image.dn x := by omega
    rw [if_neg (by omega)] at hAF
    have hin := undo_in hpf hbx
    have hw0 := with_ok hxl hin
    have hwl := Image.withF_length (x := x) hw0
    refine SG.seq ?_
    refine SG.draw [5] [0, 1, 2, 3, 4, 5, 6, 7] (by decide +kernel) rfl ?_
    refine SW.pure rfl rfl rfl rfl (fun w9 => R.mv rfl) ?_
    refine SW.pure rfl rfl rfl rfl (fun w9 => R.nilChk rfl) ?_
    refine SW.pure rfl rfl rfl rfl (fun w9 => R.fld rfl) ?_
    refine SW.read rfl rfl rfl rfl (fun w9 F9 S9 s => R.ldB (v := .int .u64 (q.old : Int)) rfl (s.fz (show Sel _ (fz xx [.int .i64 (q.blocks : Int), .int .u64 (q.old : Int), .int .u64 (q.new : Int), .slice pa ps.length pc] 75) _ from (by repeat (first | exact Sel.keep | exact Sel.here | apply Sel.there)))) (by rfl)) ?_
    refine SW.pure rfl rfl rfl rfl (fun w9 => R.mv rfl) ?_
    refine SW.step rfl rfl rfl rfl (CS.call rfl go26 (droot_ok d g e cur ps0 x) (by repeat (first | exact Sels.nil | apply Sels.cons | exact Sel.keep | exact Sel.here | apply Sel.there))) ?_
    rintro _ _ ⟨_, ⟨rfl, rfl⟩, rfl⟩
    refine ⟨⟨.inr (fun w9 F9 S9 s => R.ldB (v := .int .u64 (q.old : Int)) rfl (s.fz (show Sel _ (fz xx [.int .i64 (q.blocks : Int), .int .u64 (q.old : Int), .int .u64 (q.new : Int), .slice pa ps.length pc] 75) _ from (by repeat (first | exact Sel.keep | exact Sel.here | apply Sel.there)))) (by rfl)), trivial⟩, ?_⟩
    refine SW.n0 ?_
    refine SW.pure rfl rfl rfl rfl (fun w9 => R.neI rfl rfl) ?_
    refine SW.pure rfl rfl rfl rfl (fun w9 => R.as rfl) ?_
    refine SW.nil ?_
    refine SN.seq ?_
    refine SG.condP rfl (fun h2 => ?_) (fun h2 => ?_)
    · have hA : applyF rootD x l = ([], 52) := by rw [hAF, if_pos (by omega)]
      rw [hA] at he
      exact absurd he (by decide)
    · rw [if_neg (by omega)] at hAF
      refine SG.skip ?_
      refine SN.block ?_
      refine SN.seq ?_
      refine SG.seq ?_
      refine SG.region ?_
      refine SL.val rfl rfl (fun w9 F9 S9 s => R.as rfl) ?_
      refine SL.nil ?_
      refine SN.seq ?_
      refine SG.seq ?_
      refine SG.seq ?_
      refine SG.region ?_
      refine SL.val rfl rfl (fun w9 F9 S9 s => R.mv rfl) ?_
      refine SL.val rfl rfl (fun w9 F9 S9 s => R.nilChk rfl) ?_
      refine SL.val rfl rfl (fun w9 F9 S9 s => R.fld rfl) ?_
      refine SL.val rfl rfl (fun w9 F9 S9 s => R.ldB (v := .slice pa ps.length pc) rfl (s.fz (show Sel _ (fz xx [.int .i64 (q.blocks : Int), .int .u64 (q.old : Int), .int .u64 (q.new : Int), .slice pa ps.length pc] 75) _ from (by repeat (first | exact Sel.keep | exact Sel.here | apply Sel.there)))) (by rfl)) ?_
      refine SL.val rfl rfl (fun w9 F9 S9 s => R.lenS rfl) ?_
      refine SL.val rfl rfl (fun w9 F9 S9 s => R.mv rfl) ?_
      refine SL.nil ?_
      refine SN.seq ?_
      refine SG.block ?_
      refine SG.imp (Imp.ownNil 56 2) ?_
      refine SG.imp (Imp.pure (p := fun w => ∀ o ∈ ([] : List WriteV), Bs w o.B'a o.B'n o.B') (fun w => by simp)) ?_
      refine SG.loop (X := ApS) (fun y => [(0, .pointer (some ⟨d, 0, none⟩)), (6, .pointer (some ⟨xx, 0, none⟩)), (8, .slice y.a y.ws.length y.c), (46, .slice pa ps.length pc), (47, .int .i64 (ps.length : Int)), (48, .int .i64 (y.i : Int))]) (fun y => [own 56 2 y.a (y.ws.length) y.c (cellsW y.ws), sh (fun w => ∀ o ∈ y.ws, Bs w o.B'a o.B'n o.B'), fz xx [.int .i64 (q.blocks : Int), .int .u64 (q.old : Int), .int .u64 (q.new : Int), .slice pa ps.length pc] 75, sh (fun w => Cells w pa (cellsP ps) ∧ ∀ k ∈ ps, PartV.ok w k), sh (fun w => DiskL w d g e cur ps0 x)]) (fun y => y.i ≤ ps.length ∧ y.ws.length = y.i ∧ y.ws.map wv = (q.parts.take y.i).map (undoW x)) (fun y => ps.length - y.i) (⟨0, [], none, 0⟩) (Sub.cons rfl (Sub.cons rfl (Sub.cons rfl (Sub.cons rfl (Sub.cons rfl (Sub.cons rfl (Sub.nil _))))))) ((Imp.sels (by repeat (first | exact Sels.nil | apply Sels.cons | exact Sel.keep | exact Sel.here | apply Sel.there)))) (⟨Nat.zero_le _, rfl, rfl⟩) ?_
      rintro ⟨i, ws, a8, c8⟩ ⟨hi, hwi, hws⟩
      dsimp only at hi hwi hws
      show SG _ _ _ _ _ [(0, .pointer (some ⟨d, 0, none⟩)), (6, .pointer (some ⟨xx, 0, none⟩)), (8, .slice a8 ws.length c8), (46, .slice pa ps.length pc), (47, .int .i64 (ps.length : Int)), (48, .int .i64 (i : Int))] [own 56 2 a8 (ws.length) c8 (cellsW ws), sh (fun w => ∀ o ∈ ws, Bs w o.B'a o.B'n o.B'), fz xx [.int .i64 (q.blocks : Int), .int .u64 (q.old : Int), .int .u64 (q.new : Int), .slice pa ps.length pc] 75, sh (fun w => Cells w pa (cellsP ps) ∧ ∀ k ∈ ps, PartV.ok w k), sh (fun w => DiskL w d g e cur ps0 x)] _
      refine SG.seq ?_
      refine SG.region ?_
      refine SL.val rfl rfl (fun w9 F9 S9 s => R.lss rfl rfl) ?_
      refine SL.nil ?_
      refine SN.seq ?_
      refine SG.seq ?_
      refine SG.condP rfl (fun h3 => ?_) (fun h3 => ?_)
      · obtain ⟨p, hp⟩ : ∃ p, ps[i]? = some p := ⟨_, List.getElem?_eq_getElem (by omega)⟩
        have hpm := List.mem_of_getElem? hp
        refine SG.fact (fun w9 F9 S9 s => parts_pt (s.sh (p := (fun w => Cells w pa (cellsP ps) ∧ ∀ k ∈ ps, PartV.ok w k)) (by repeat (first | exact Sel.keep | exact Sel.here | apply Sel.there))).1 hp) (fun hf9 => ?_)
        obtain ⟨q0, hq0⟩ := hf9
        refine SG.fact (fun w9 F9 S9 s => ((s.sh (p := (fun w => Cells w pa (cellsP ps) ∧ ∀ k ∈ ps, PartV.ok w k)) (by repeat (first | exact Sel.keep | exact Sel.here | apply Sel.there))).2 p hpm).1) (fun hf9 => ?_)
        have hpo := hf9; clear hf9
        refine SG.fact (fun w9 F9 S9 s => ((s.sh (p := (fun w => Cells w pa (cellsP ps) ∧ ∀ k ∈ ps, PartV.ok w k)) (by repeat (first | exact Sel.keep | exact Sel.here | apply Sel.there))).2 p hpm).2.len) (fun hf9 => ?_)
        have hpl := hf9; clear hf9
        have hqp : q.parts[i]? = some (p.k, p.d) := by rw [← hps, List.getElem?_map, hp]; rfl
        obtain ⟨hg1, hg2, hg3⟩ := hall _ (List.mem_of_getElem? hqp)
        dsimp only at hg1 hg2 hg3
        refine SG.imp (Imp.weak (p := (fun w => Cells w pa (cellsP ps) ∧ ∀ k ∈ ps, PartV.ok w k)) (q := fun w => Bs w p.a p.n p.d) (by repeat (first | exact Sel.keep | exact Sel.here | apply Sel.there)) (fun w h => (h.2 p hpm).2)) ?_
        refine SG.skip ?_
        refine SN.seq ?_
        refine SG.seq ?_
        refine SG.block ?_
        refine SG.seq ?_
        refine SG.region ?_
        refine SL.val rfl rfl (fun w9 F9 S9 s => R.idx rfl rfl (by omega) (by omega) q0 hq0) ?_
        refine SL.val rfl rfl (fun w9 F9 S9 s => R.ldN (vs := PartV.cells p) rfl (parts_ld (s.sh (p := (fun w => Cells w pa (cellsP ps) ∧ ∀ k ∈ ps, PartV.ok w k)) (by repeat (first | exact Sel.keep | exact Sel.here | apply Sel.there))).1 hq0 hp) rfl) ?_
        refine SL.step rfl rfl (CS.alloc [.int .i64 0, .slice none 0 0] rfl) ?_
        rintro _ _ ⟨b10, rfl, rfl⟩
        refine SL.step0 rfl (CS.stA (vs := PartV.cells p) rfl rfl (by repeat (first | exact Sel.keep | exact Sel.here | apply Sel.there)) (by rfl) (by rfl) (by intro u hu; simp only [PartV.cells, List.mem_cons, List.not_mem_nil, or_false] at hu; rcases hu with rfl | rfl <;> rfl)) ?_
        rintro _ _ rfl
        refine SL.nil ?_
        refine SN.seq ?_
        refine SG.seq ?_
        refine SG.region ?_
        refine SL.val rfl rfl (fun w9 F9 S9 s => R.mv rfl) ?_
        refine SL.val rfl rfl (fun w9 F9 S9 s => R.fld rfl) ?_
        refine SL.val rfl rfl (fun w9 F9 S9 s => R.ldB (v := .int .i64 (p.k : Int)) rfl (s.cel (by repeat (first | exact SelB.blk | exact SelB.fz | apply SelB.there))) (by rfl)) ?_
        refine SL.step rfl rfl (CS.call rfl go27 (igetS d g e cur ps0 x p.k (by omega)) (by repeat (first | exact Sels.nil | apply Sels.cons | exact Sel.keep | exact Sel.here | apply Sel.there))) ?_
        rintro _ _ ⟨_, ⟨a11, c11, rfl, rfl, rfl⟩, rfl⟩
        refine SL.n2 ?_
        refine SL.imp (Imp.ownBs (show Sel _ (own 5 1 a11 64 c11 (vbs (Image.blk x p.k))) _ from (by repeat (first | exact Sel.keep | exact Sel.here | apply Sel.there)))) ?_
        refine SL.val rfl rfl (fun w9 F9 S9 s => R.mv rfl) ?_
        refine SL.val rfl rfl (fun w9 F9 S9 s => R.ext rfl rfl) ?_
        refine SL.val rfl rfl (fun w9 F9 S9 s => R.ext rfl rfl) ?_
        refine SL.val rfl rfl (fun w9 F9 S9 s => R.as rfl) ?_
        refine SL.val rfl rfl (fun w9 F9 S9 s => R.as rfl) ?_
        refine SL.nil ?_
        refine SN.seq ?_
        refine SG.seq ?_
        refine SG.region ?_
        refine SL.val rfl rfl (fun w9 F9 S9 s => R.mv rfl) ?_
        refine SL.val rfl rfl (fun w9 F9 S9 s => R.fld rfl) ?_
        refine SL.val rfl rfl (fun w9 F9 S9 s => R.ldB (v := .slice p.a p.n p.c) rfl (s.cel (by repeat (first | exact SelB.blk | exact SelB.fz | apply SelB.there))) (by rfl)) ?_
        refine SL.step rfl rfl (CS.call rfl go32 (undoS a11 64 c11 (Image.blk x p.k) p.a p.n p.c p.d (by decide) hpo.1 (by omega) hg1 hg2) (by repeat (first | exact Sels.nil | apply Sels.cons | exact Sel.keep | exact Sel.here | apply Sel.there))) ?_
        rintro _ _ ⟨_, ⟨a13, c13, rfl, rfl, rfl⟩, rfl⟩
        refine SL.n1 ?_
        refine SL.imp (Imp.ownBs (show Sel _ (own 5 1 a13 64 c13 (vbs (laidF (Image.blk x p.k) (growF 64 p.d).1))) _ from (by repeat (first | exact Sel.keep | exact Sel.here | apply Sel.there)))) ?_
        refine SL.val rfl rfl (fun w9 F9 S9 s => R.mv rfl) ?_
        refine SL.val rfl rfl (fun w9 F9 S9 s => R.ext rfl rfl) ?_
        refine SL.val rfl rfl (fun w9 F9 S9 s => R.ext rfl rfl) ?_
        refine SL.val rfl rfl (fun w9 F9 S9 s => R.as rfl) ?_
        refine SL.val rfl rfl (fun w9 F9 S9 s => R.as rfl) ?_
        refine SL.nil ?_
        refine SN.seq ?_
        refine SG.region ?_
        refine SL.val rfl rfl (fun w9 F9 S9 s => R.mv rfl) ?_
        refine SL.val rfl rfl (fun w9 F9 S9 s => R.fld rfl) ?_
        refine SL.val rfl rfl (fun w9 F9 S9 s => R.ldB (v := .int .i64 (p.k : Int)) rfl (s.cel (by repeat (first | exact SelB.blk | exact SelB.fz | apply SelB.there))) (by rfl)) ?_
        refine SL.val rfl rfl (fun w9 F9 S9 s => R.mv rfl) ?_
        refine SL.val rfl rfl (fun w9 F9 S9 s => R.build (cs := (WriteV.cells (⟨(p.k : Int), a13, 64, c13, laidF (Image.blk x p.k) (growF 64 p.d).1⟩ : WriteV)).toArray) rfl rfl) ?_
        refine SL.step rfl rfl (CS.buildA rfl rfl rfl rfl rfl (cellsW [(⟨(p.k : Int), a13, 64, c13, laidF (Image.blk x p.k) (growF 64 p.d).1⟩ : WriteV)]) rfl) ?_
        rintro _ _ ⟨b71, rfl, rfl⟩
        refine SL.step rfl rfl (CS.app rfl rfl (show Sel _ (own 56 2 a8 (ws.length) c8 (cellsW ws)) _ from (by repeat (first | exact Sel.keep | exact Sel.here | apply Sel.there))) (fun w9 F9 S9 s => s.blkC (show Sel _ (blk b71 (cellsW [(⟨(p.k : Int), a13, 64, c13, laidF (Image.blk x p.k) (growF 64 p.d).1⟩ : WriteV)]) _) _ from (by repeat (first | exact Sel.keep | exact Sel.here | apply Sel.there)))) rfl (cellsW_one _) (by unfold maxLen; omega) (by omega)) ?_
        rintro _ _ ⟨a72, c72, rfl, rfl⟩
        refine SL.val rfl rfl (fun w9 F9 S9 s => R.as rfl) ?_
        refine SL.nil ?_
        refine SN.imp (Imp.both (p := (fun w => ∀ o ∈ ws, Bs w o.B'a o.B'n o.B')) (q := fun w => Bs w a13 64 (laidF (Image.blk x p.k) (growF 64 p.d).1)) (by repeat (first | exact Sel.keep | exact Sel.here | apply Sel.there)) (by repeat (first | exact Sel.keep | exact Sel.here | apply Sel.there))) ?_
        refine SN.imp (Imp.weak (p := fun w => (∀ o ∈ ws, Bs w o.B'a o.B'n o.B') ∧ Bs w a13 64 (laidF (Image.blk x p.k) (growF 64 p.d).1)) (q := (fun w => ∀ o ∈ (ws ++ [(⟨(p.k : Int), a13, 64, c13, laidF (Image.blk x p.k) (growF 64 p.d).1⟩ : WriteV)]), Bs w o.B'a o.B'n o.B')) (by repeat (first | exact Sel.keep | exact Sel.here | apply Sel.there)) (fun w hw k hk => (List.mem_append.1 hk).elim (hw.1 k) (fun h9 => by rw [List.mem_singleton.1 h9]; exact hw.2))) ?_
        refine SN.be 8 rfl (show Value.slice a72 (ws.length + 1) c72 = .slice a72 (ws ++ [(⟨(p.k : Int), a13, 64, c13, laidF (Image.blk x p.k) (growF 64 p.d).1⟩ : WriteV)]).length c72 by rw [List.length_append]; rfl) ?_
        refine SN.block ?_
        refine SN.seq ?_
        refine SG.region ?_
        refine SL.val rfl rfl (fun w9 F9 S9 s => R.add rfl rfl (by omega)) ?_
        refine SL.val rfl rfl (fun w9 F9 S9 s => R.mv rfl) ?_
        refine SL.nil ?_
        exact SN.again (⟨i + 1, ws ++ [(⟨(p.k : Int), a13, 64, c13, laidF (Image.blk x p.k) (growF 64 p.d).1⟩ : WriteV)], a72, c72⟩) (by show ps.length - (i + 1) < ps.length - i; omega) (Sub.cons rfl (Sub.cons rfl (Sub.cons rfl (Sub.cons rfl (Sub.cons rfl (Sub.cons rfl (Sub.nil _))))))) ((show Imp _ _ by dsimp only; rw [List.length_append, cellsW_append]; exact (Imp.sels (by repeat (first | exact Sels.nil | apply Sels.cons | exact Sel.keep | exact Sel.here | apply Sel.there))))) (⟨by show i + 1 ≤ ps.length; omega, by show (ws ++ [(⟨(p.k : Int), a13, 64, c13, laidF (Image.blk x p.k) (growF 64 p.d).1⟩ : WriteV)]).length = i + 1; rw [List.length_append, hwi]; rfl, by show (ws ++ [(⟨(p.k : Int), a13, 64, c13, laidF (Image.blk x p.k) (growF 64 p.d).1⟩ : WriteV)]).map wv = _; rw [List.map_append, hws, List.take_add_one, hqp, List.map_append]; rfl⟩)
      · obtain rfl : i = ps.length := by omega
        rw [hpsl, List.take_length] at hws
        refine SG.imp (Imp.ownSh (show Sel _ (own 56 2 a8 (ws.length) c8 (cellsW ws)) _ from (by repeat (first | exact Sel.keep | exact Sel.here | apply Sel.there))) (p := fun w => Cells w a8 (cellsW ws)) (fun w h => h)) ?_
        refine SG.exit _ rfl ?_
        refine SN.seq ?_
        refine SG.seq ?_
        refine SG.region ?_
        refine SL.val rfl rfl (fun w9 F9 S9 s => R.mv rfl) ?_
        refine SL.val rfl rfl (fun w9 F9 S9 s => R.mv rfl) ?_
        refine SL.step rfl rfl (CS.callP rfl go21 (fun w9 F9 S9 s => iwithP d x a8 ws.length c8 ws w9 ⟨g, e, cur, ps0, (s.sh (p := fun w => DiskL w d g e cur ps0 x) (by repeat (first | exact Sel.keep | exact Sel.here | apply Sel.there)))⟩ (tabW (s.sh (p := fun w => Cells w a8 (cellsW ws)) (by repeat (first | exact Sel.keep | exact Sel.here | apply Sel.there))) rfl) (s.sh (p := (fun w => ∀ o ∈ ws, Bs w o.B'a o.B'n o.B')) (by repeat (first | exact Sel.keep | exact Sel.here | apply Sel.there))) (by omega) (by rw [hws]; exact hw0))) ?_
        rintro _ _ ⟨_, ⟨d2, g2, e2, cur2, ps2, rfl, rfl⟩, rfl⟩
        rw [hws]
        refine SL.val rfl rfl (fun w9 F9 S9 s => R.mv rfl) ?_
        refine SL.val rfl rfl (fun w9 F9 S9 s => R.ext rfl rfl) ?_
        refine SL.val rfl rfl (fun w9 F9 S9 s => R.ext rfl rfl) ?_
        refine SL.val rfl rfl (fun w9 F9 S9 s => R.as rfl) ?_
        refine SL.val rfl rfl (fun w9 F9 S9 s => R.as rfl) ?_
        refine SL.nil ?_
        refine SN.seq ?_
        refine SG.seq ?_
        refine SG.seq ?_
        refine SG.draw [4] [0, 1, 2, 3, 5, 6, 7, 8, 4, 9, 10] (by decide +kernel) rfl ?_
        refine SW.pure rfl rfl rfl rfl (fun w9 => R.mv rfl) ?_
        refine SW.pure rfl rfl rfl rfl (fun w9 => R.neI rfl rfl) ?_
        refine SW.pure rfl rfl rfl rfl (fun w9 => R.mv rfl) ?_
        refine SW.isF 82 rfl (decide_eq_false (by decide)) ?_
        refine SW.pure rfl rfl rfl rfl (fun w9 => R.mv rfl) ?_
        refine SW.pure rfl rfl rfl rfl (fun w9 => R.mv rfl) ?_
        refine SW.pure rfl rfl rfl rfl (fun w9 => R.nilChk rfl) ?_
        refine SW.pure rfl rfl rfl rfl (fun w9 => R.fld rfl) ?_
        refine SW.read rfl rfl rfl rfl (fun w9 F9 S9 s => R.ldB (v := .int .u64 (q.new : Int)) rfl (s.fz (show Sel _ (fz xx [.int .i64 (q.blocks : Int), .int .u64 (q.old : Int), .int .u64 (q.new : Int), .slice pa ps.length pc] 75) _ from (by repeat (first | exact Sel.keep | exact Sel.here | apply Sel.there)))) (by rfl)) ?_
        refine SW.step rfl rfl rfl rfl (CS.call rfl go26 (droot_ok d2 g2 e2 cur2 ps2 (Image.withF x (q.parts.map (undoW x))).1) (by repeat (first | exact Sels.nil | apply Sels.cons | exact Sel.keep | exact Sel.here | apply Sel.there))) ?_
        rintro _ _ ⟨_, ⟨rfl, rfl⟩, rfl⟩
        refine ⟨⟨.inr (fun w9 F9 S9 s => R.ldB (v := .int .u64 (q.new : Int)) rfl (s.fz (show Sel _ (fz xx [.int .i64 (q.blocks : Int), .int .u64 (q.old : Int), .int .u64 (q.new : Int), .slice pa ps.length pc] 75) _ from (by repeat (first | exact Sel.keep | exact Sel.here | apply Sel.there)))) (by rfl)), trivial⟩, ?_⟩
        refine SW.n0 ?_
        refine SW.pure rfl rfl rfl rfl (fun w9 => R.neI rfl rfl) ?_
        first | refine SW.pure rfl rfl rfl rfl (fun w9 => R.pickT rfl rfl) ?_ | refine SW.pure rfl rfl rfl rfl (fun w9 => R.pickF rfl rfl) ?_
        refine SW.nil ?_
        refine SN.seq ?_
        refine SG.condP rfl (fun h4 => ?_) (fun h4 => ?_)
        · have hA : applyF rootD x l = ([], 53) := by rw [hAF, if_pos (by omega)]
          rw [hA] at he
          exact absurd he (by decide)
        · have hA : applyF rootD x l = ((Image.withF x (q.parts.map (undoW x))).1, 0) := by rw [hAF, if_neg (by omega)]
          refine SG.skip ?_
          refine SN.seq ?_
          refine SG.seq ?_
          refine SG.region ?_
          refine SL.val rfl rfl (fun w9 F9 S9 s => R.mv rfl) ?_
          refine SL.val rfl rfl (fun w9 F9 S9 s => R.as rfl) ?_
          refine SL.val rfl rfl (fun w9 F9 S9 s => R.as rfl) ?_
          refine SL.nil ?_
          refine SN.seq ?_
          exact SG.ret2 rfl rfl rfl ((show Imp _ [sh (fun w => DiskL w d2 g2 e2 cur2 ps2 (Image.withF x (q.parts.map (undoW x))).1)] from (Imp.sels (by repeat (first | exact Sels.nil | apply Sels.cons | exact Sel.keep | exact Sel.here | apply Sel.there))))) (⟨_, ⟨d2, g2, e2, cur2, ps2, rfl, rfl⟩, by rw [hA]⟩)

end Go.Proofs.Yteaihincmfbblaa
/-
  The walks of package patch.
-/
set_option linter.unusedVariables false
set_option linter.unusedSimpArgs false
set_option maxRecDepth 4000
namespace Go.Proofs.Yteaihincmfbblaa
open Go Brv Brv.Pack Brv.Shrink Brv.Patch
theorem applyY (d g e : Nat) (cur : Array Value) (ps0 : List Nat) (x : List UInt8) (a : Option Addr) (n c : Nat) (l : List UInt8) (w : World) (hd : DiskL w d g e cur ps0 x) (hb : Bs w a n l) (hc : n ≤ c) (hn : n ≤ 1000000) (he : (applyF rootD x l).2 = 0) : Meets Try.prog 9 [.pointer (some ⟨d, 0, none⟩), .slice a n c] w (fun v w' => ∃ p : World → Prop, (∃ d2 g2 e2 cur2 ps2, v = .tuple #[.pointer (some ⟨d2, 0, none⟩), .int .i64 0] ∧ p = fun w => DiskL w d2 g2 e2 cur2 ps2 (applyF rootD x l).1) ∧ Ext [] w w' ∧ ∀ w'', Ext [] w' w'' → p w'') := by
  cases hq : parseF l with
  | none => unfold applyF at he; rw [hq] at he; cases he
  | some q => exact apply_yes d g e cur ps0 x a n c l q w hd hb hc hn hq he
theorem applyN (d g e : Nat) (cur : Array Value) (ps0 : List Nat) (x : List UInt8) (a : Option Addr) (n c : Nat) (l : List UInt8) (w : World) (hd : DiskL w d g e cur ps0 x) (hb : Bs w a n l) (hc : n ≤ c) (hn : n ≤ 1000000) (he : (applyF rootD x l).2 ≠ 0) : Meets Try.prog 9 [.pointer (some ⟨d, 0, none⟩), .slice a n c] w (fun v w' => v = .tuple #[.pointer none, .int .i64 (applyF rootD x l).2] ∧ Ext [] w w') := by
  cases hq : parseF l with
  | none => exact apply_none d g e cur ps0 x a n c l w hd hb hc hn hq
  | some q => exact apply_no d g e cur ps0 x a n c l q w hd hb hc hn hq he
def root3 (a b c : Nat) : Nat := nodeN [nodeN [a, b], c]
theorem sums_three {x : List UInt8} (h : x.length / 64 = 3) : sumsT x (x.length / 64) = [sumN (Image.blk x 0), sumN (Image.blk x 1), sumN (Image.blk x 2)] := by
  have e : ∀ i, sumN ((x.drop (64 * i)).take 64) = sumN (Image.blk x i) := fun i => rfl
  have h0 : sumsT x 0 = [] := List.map_nil
  rw [h, sumsT_succ, sumsT_succ, sumsT_succ, e, e, e, h0]
  simp only [List.nil_append, List.cons_append]
theorem tree_three (a b c : Nat) : treeF [a, b, c] = [[a, b, c], [nodeN [a, b], c], [nodeN [nodeN [a, b], c]]] := by
  rw [treeF_more (by simp), treeF_more (by simp [nextR]), treeF_one (by simp [nextR])]
  simp only [nextR]
theorem rootD_top {x : List UInt8} {r : List (List Nat)} {a : Nat} (h : treeD x = r) (hl : r.getLast? = some [a]) : rootD x = a := by
  unfold rootD
  rw [h, hl]
  simp
theorem treeD_three {x : List UInt8} (h : x.length / 64 = 3) : treeD x = treeF [sumN (Image.blk x 0), sumN (Image.blk x 1), sumN (Image.blk x 2)] := by
  unfold treeD
  rw [if_neg (by rw [h]; decide), sums_three h]
theorem rootD_three {x : List UInt8} (h : x.length / 64 = 3) : rootD x = root3 (sumN (Image.blk x 0)) (sumN (Image.blk x 1)) (sumN (Image.blk x 2)) :=
  rootD_top (treeD_three h) (by rw [tree_three]; unfold root3; simp only [List.getLast?_cons_cons, List.getLast?_singleton])
def x3 : List UInt8 := (List.replicate (64 * 3) (0 : UInt8))
def w3 : List UInt8 := ((List.replicate 64 (0 : UInt8)).set 5 1)
def y3 : List UInt8 := Image.laid x3 1 w3
theorem y3_with : Image.withF x3 [((1 : Int), w3)] = (y3, 0) := by decide +kernel
theorem x3_ok : x3.length = 64 * Image.dn x3 ∧ 1 ≤ Image.dn x3 ∧ Image.dn x3 ≤ 64 := by decide +kernel
theorem y3_ok : y3.length = 64 * Image.dn y3 ∧ 1 ≤ Image.dn y3 ∧ Image.dn y3 ≤ 64 := by decide +kernel
theorem xy_dn : Image.dn x3 = Image.dn y3 := by decide +kernel
theorem xy_diff : Image.diffF x3 y3 = [1] := by decide +kernel
theorem xx_diff : Image.diffF x3 x3 = [] := by decide +kernel
theorem xy_root : rootD x3 ≠ rootD y3 := by
  rw [rootD_three (by decide +kernel), rootD_three (by decide +kernel)]
  decide +kernel
theorem xx_len : (makeF rootD x3 x3).length = 22 := by
  unfold makeF
  rw [List.length_append, head_len, xx_diff]; rfl
theorem rootD_all (x : List UInt8) : rootD x < 18446744073709551616 := by
  by_cases h : 1 ≤ x.length / 64
  · exact rootD_lt x h
  · unfold rootD treeD
    rw [if_pos (by omega)]; decide
theorem xy_apply : applyF rootD x3 (makeF rootD x3 y3) = (y3, 0) := apply_make rootD rootD_all x3_ok.1 y3_ok.1 xy_dn x3_ok.2.1 x3_ok.2.2
theorem xy_parse : parseF (makeF rootD x3 y3) = some ⟨Image.dn x3, rootD x3, rootD y3, (Image.diffF x3 y3).map fun k => (k, shrinkF (laidF (Image.blk x3 k) (Image.blk y3 k)))⟩ := parse_make rootD rootD_all x3_ok.1 y3_ok.1 xy_dn x3_ok.2.1 x3_ok.2.2
theorem yy_apply : applyF rootD y3 (makeF rootD x3 y3) = ([], 52) := by
  unfold applyF
  rw [xy_parse]
  simp only
  rw [if_neg (by have := y3_ok.1; have := xy_dn; omega), if_pos xy_root]

theorem setAt_set {v : Value} : ∀ {l : List Value} {k : Nat}, k < l.length → SetAt l k v (l.set k v)
  | x :: l, 0, _ => .here
  | x :: l, k + 1, h => .there (setAt_set (by simpa using h))
  | [], k, h => by simp at h

set_option maxHeartbeats 2000000 in
theorem first46_law  (w : World) : Meets Try.prog 6 [] w (fun v w' => v = .bool true ∧ Ext [] w w') := by
  refine Meets.law Try.func6 rfl 81 rfl (Nat.le_of_ble_eq_true rfl) (law_nil w) ?_
  refine SG.seq ?_
  refine SG.region ?_
  refine SL.val rfl rfl (fun w9 F9 S9 s => R.as rfl) ?_
  refine SL.nil ?_
  refine SN.seq ?_
  refine SG.seq ?_
  refine SG.region ?_
  refine SL.step rfl rfl (CS.callP rfl go20 (fun w9 F9 S9 s => inewP 3 w9 (by decide) (by decide))) ?_
  rintro _ _ ⟨_, ⟨d, g, e, cur, ps, rfl, rfl⟩, rfl⟩
  rw [show List.replicate (64 * 3) (0 : UInt8) = x3 from rfl]
  refine SL.val rfl rfl (fun w9 F9 S9 s => R.mv rfl) ?_
  refine SL.val rfl rfl (fun w9 F9 S9 s => R.ext rfl rfl) ?_
  refine SL.val rfl rfl (fun w9 F9 S9 s => R.ext rfl rfl) ?_
  refine SL.val rfl rfl (fun w9 F9 S9 s => R.as rfl) ?_
  refine SL.val rfl rfl (fun w9 F9 S9 s => R.as rfl) ?_
  refine SL.nil ?_
  refine SN.seq ?_
  refine SG.seq ?_
  refine SG.region ?_
  refine SL.step rfl rfl (CS.make rfl rfl (by decide) (by decide) (by decide) (by decide) (vbs (List.replicate 64 (0 : UInt8))) (madeCells_bytes 64)) ?_
  rintro _ _ ⟨b17, rfl, rfl⟩
  refine SL.val rfl rfl (fun w9 F9 S9 s => R.as rfl) ?_
  refine SL.nil ?_
  refine SN.seq ?_
  refine SG.seq ?_
  refine SG.region ?_
  refine SL.val rfl rfl (fun w9 F9 S9 s => R.mv rfl) ?_
  refine SL.val rfl rfl (fun w9 F9 S9 s => R.idxO (i := 5) rfl rfl (by decide) (by decide) rfl 5 (by decide)) ?_
  refine SL.step0 rfl (CS.st rfl rfl (show Sel _ (blk b17 (vbs (List.replicate 64 (0 : UInt8))) 5) _ from (by repeat (first | exact Sel.keep | exact Sel.here | apply Sel.there))) (cs' := vbs w3) (by rw [show vbs w3 = (vbs (List.replicate 64 (0 : UInt8))).set 5 (.int .u8 1) from rfl]; exact setAt_set (by rw [vbs_length, List.length_replicate]; decide)) rfl) ?_
  rintro _ _ rfl
  refine SL.nil ?_
  refine SN.imp (Imp.blkBs (l := w3) (show Sel _ (blk b17 (vbs w3) 5) _ from (by repeat (first | exact Sel.keep | exact Sel.here | apply Sel.there)))) ?_
  rw [show w3.length = 64 from rfl]
  refine SN.seq ?_
  refine SG.seq ?_
  refine SG.region ?_
  refine SL.val rfl rfl (fun w9 F9 S9 s => R.mv rfl) ?_
  refine SL.val rfl rfl (fun w9 F9 S9 s => R.mv rfl) ?_
  refine SL.val rfl rfl (fun w9 F9 S9 s => R.build (cs := (WriteV.cells (⟨1, some ⟨b17, 0, none⟩, 64, 64, w3⟩ : WriteV)).toArray) rfl rfl) ?_
  refine SL.step rfl rfl (CS.buildA rfl rfl rfl rfl rfl (cellsW [(⟨1, some ⟨b17, 0, none⟩, 64, 64, w3⟩ : WriteV)]) rfl) ?_
  rintro _ _ ⟨b24, rfl, rfl⟩
  refine SL.imp (Imp.blkSh (show Sel _ (blk b24 (cellsW [(⟨1, some ⟨b17, 0, none⟩, 64, 64, w3⟩ : WriteV)]) _) _ from (by repeat (first | exact Sel.keep | exact Sel.here | apply Sel.there))) (p := fun w => Cells w (some ⟨b24, 0, none⟩) (cellsW [(⟨1, some ⟨b17, 0, none⟩, 64, 64, w3⟩ : WriteV)])) (fun w h => Cells.of_blk h 0 _ (fun j v hj => by simpa using hj))) ?_
  refine SL.step rfl rfl (CS.callP rfl go21 (fun w9 F9 S9 s => iwithP d x3 (some ⟨b24, 0, none⟩) 1 1 [(⟨1, some ⟨b17, 0, none⟩, 64, 64, w3⟩ : WriteV)] w9 ⟨g, e, cur, ps, (s.sh (p := fun w => DiskL w d g e cur ps x3) (by repeat (first | exact Sel.keep | exact Sel.here | apply Sel.there)))⟩ (tabW (s.sh (p := fun w => Cells w (some ⟨b24, 0, none⟩) (cellsW [(⟨1, some ⟨b17, 0, none⟩, 64, 64, w3⟩ : WriteV)])) (by repeat (first | exact Sel.keep | exact Sel.here | apply Sel.there))) rfl) (fun o ho => by rw [List.mem_singleton.1 ho]; exact s.bs (a := some ⟨b17, 0, none⟩) (n := 64) (l := w3) (by repeat (first | exact Sel.keep | exact Sel.here | apply Sel.there))) (by decide) (by show (Image.withF x3 [((1 : Int), w3)]).2 = 0; rw [y3_with]))) ?_
  rintro _ _ ⟨_, ⟨d2, g2, e2, cur2, ps2, rfl, rfl⟩, rfl⟩
  rw [show (Image.withF x3 ([(⟨1, some ⟨b17, 0, none⟩, 64, 64, w3⟩ : WriteV)].map wv)).1 = y3 from congrArg Prod.fst y3_with]
  refine SL.val rfl rfl (fun w9 F9 S9 s => R.mv rfl) ?_
  refine SL.val rfl rfl (fun w9 F9 S9 s => R.ext rfl rfl) ?_
  refine SL.val rfl rfl (fun w9 F9 S9 s => R.ext rfl rfl) ?_
  refine SL.val rfl rfl (fun w9 F9 S9 s => R.as rfl) ?_
  refine SL.val rfl rfl (fun w9 F9 S9 s => R.as rfl) ?_
  refine SL.nil ?_
  refine SN.seq ?_
  refine SG.seq ?_
  refine SG.region ?_
  refine SL.val rfl rfl (fun w9 F9 S9 s => R.mv rfl) ?_
  refine SL.val rfl rfl (fun w9 F9 S9 s => R.mv rfl) ?_
  refine SL.step rfl rfl (CS.call rfl go8 (make_ok d g e cur ps x3 d2 g2 e2 cur2 ps2 y3 xy_dn) (by repeat (first | exact Sels.nil | apply Sels.cons | exact Sel.keep | exact Sel.here | apply Sel.there))) ?_
  rintro _ _ ⟨_, ⟨a6, c6, rfl, rfl, rfl⟩, rfl⟩
  refine SL.n1 ?_
  refine SL.val rfl rfl (fun w9 F9 S9 s => R.as rfl) ?_
  refine SL.nil ?_
  refine SN.fact (fun w9 F9 S9 s => s.ownL (show Sel _ (own 5 1 a6 (makeF rootD x3 y3).length c6 (vbs (makeF rootD x3 y3))) _ from (by repeat (first | exact Sel.keep | exact Sel.here | apply Sel.there)))) (fun hf9 => ?_)
  obtain ⟨_, hc6⟩ := hf9
  refine SN.imp (Imp.ownBs (show Sel _ (own 5 1 a6 (makeF rootD x3 y3).length c6 (vbs (makeF rootD x3 y3))) _ from (by repeat (first | exact Sel.keep | exact Sel.here | apply Sel.there)))) ?_
  have hml := make_len rootD x3 y3
  rw [xy_diff, show [1].length = 1 from rfl] at hml
  refine SN.seq ?_
  refine SG.seq ?_
  refine SG.region ?_
  refine SL.val rfl rfl (fun w9 F9 S9 s => R.mv rfl) ?_
  refine SL.val rfl rfl (fun w9 F9 S9 s => R.mv rfl) ?_
  refine SL.step rfl rfl (CS.callP rfl go9 (fun w9 F9 S9 s => applyY d g e cur ps x3 a6 (makeF rootD x3 y3).length c6 (makeF rootD x3 y3) w9 (s.sh (p := fun w => DiskL w d g e cur ps x3) (by repeat (first | exact Sel.keep | exact Sel.here | apply Sel.there))) (s.bs (a := a6) (l := makeF rootD x3 y3) (by repeat (first | exact Sel.keep | exact Sel.here | apply Sel.there))) hc6 (by omega) (by rw [xy_apply]))) ?_
  rintro _ _ ⟨_, ⟨d3, g3, e3, cur3, ps3, rfl, rfl⟩, rfl⟩
  rw [xy_apply]
  refine SL.val rfl rfl (fun w9 F9 S9 s => R.mv rfl) ?_
  refine SL.val rfl rfl (fun w9 F9 S9 s => R.ext rfl rfl) ?_
  refine SL.val rfl rfl (fun w9 F9 S9 s => R.ext rfl rfl) ?_
  refine SL.val rfl rfl (fun w9 F9 S9 s => R.as rfl) ?_
  refine SL.val rfl rfl (fun w9 F9 S9 s => R.as rfl) ?_
  refine SL.nil ?_
  refine SN.seq ?_
  refine SG.seq ?_
  refine SG.region ?_
  refine SL.val rfl rfl (fun w9 F9 S9 s => R.mv rfl) ?_
  refine SL.val rfl rfl (fun w9 F9 S9 s => R.mv rfl) ?_
  refine SL.step rfl rfl (CS.callR rfl go9 (fun w9 F9 S9 s => applyN d2 g2 e2 cur2 ps2 y3 a6 (makeF rootD x3 y3).length c6 (makeF rootD x3 y3) w9 (s.sh (p := fun w => DiskL w d2 g2 e2 cur2 ps2 y3) (by repeat (first | exact Sel.keep | exact Sel.here | apply Sel.there))) (s.bs (a := a6) (l := makeF rootD x3 y3) (by repeat (first | exact Sel.keep | exact Sel.here | apply Sel.there))) hc6 (by omega) (by rw [yy_apply]; decide))) ?_
  rintro _ _ ⟨rfl, rfl⟩
  rw [yy_apply]
  refine SL.val rfl rfl (fun w9 F9 S9 s => R.mv rfl) ?_
  refine SL.val rfl rfl (fun w9 F9 S9 s => R.ext rfl rfl) ?_
  refine SL.val rfl rfl (fun w9 F9 S9 s => R.ext rfl rfl) ?_
  refine SL.val rfl rfl (fun w9 F9 S9 s => R.as rfl) ?_
  refine SL.val rfl rfl (fun w9 F9 S9 s => R.as rfl) ?_
  refine SL.nil ?_
  refine SN.seq ?_
  refine SG.seq ?_
  refine SG.region ?_
  refine SL.val rfl rfl (fun w9 F9 S9 s => R.mv rfl) ?_
  refine SL.step rfl rfl (CS.call rfl go10 (blocks_yes a6 (makeF rootD x3 y3).length c6 (makeF rootD x3 y3) _ hc6 (by omega) xy_parse) (by repeat (first | exact Sels.nil | apply Sels.cons | exact Sel.keep | exact Sel.here | apply Sel.there))) ?_
  rintro _ _ ⟨_, ⟨a11, c11, rfl, rfl, rfl⟩, rfl⟩
  refine SL.n1 ?_
  refine SL.val rfl rfl (fun w9 F9 S9 s => R.mv rfl) ?_
  refine SL.val rfl rfl (fun w9 F9 S9 s => R.ext rfl rfl) ?_
  refine SL.val rfl rfl (fun w9 F9 S9 s => R.ext rfl rfl) ?_
  refine SL.val rfl rfl (fun w9 F9 S9 s => R.as rfl) ?_
  refine SL.val rfl rfl (fun w9 F9 S9 s => R.as rfl) ?_
  refine SL.nil ?_
  dsimp only
  rw [xy_diff]
  refine SN.fact (fun w9 F9 S9 s => numsP_pt (i := 0) (s.ownC (show Sel _ (own 3 1 a11 (1) c11 (nums ([1]))) _ from (by repeat (first | exact Sel.keep | exact Sel.here | apply Sel.there)))) (show [1][0]? = some 1 from rfl)) (fun hf9 => ?_)
  obtain ⟨q, hq⟩ := hf9
  refine SN.seq ?_
  refine SG.seq ?_
  refine SG.region ?_
  refine SL.val rfl rfl (fun w9 F9 S9 s => R.mv rfl) ?_
  refine SL.val rfl rfl (fun w9 F9 S9 s => R.mv rfl) ?_
  refine SL.step rfl rfl (CS.call rfl go8 (make_ok d g e cur ps x3 d g e cur ps x3 rfl) (by repeat (first | exact Sels.nil | apply Sels.cons | exact Sel.keep | exact Sel.here | apply Sel.there))) ?_
  rintro _ _ ⟨_, ⟨a50, c50, rfl, rfl, rfl⟩, rfl⟩
  refine SL.n1 ?_
  rw [xx_len]
  refine SL.val rfl rfl (fun w9 F9 S9 s => R.lenS rfl) ?_
  refine SL.val rfl rfl (fun w9 F9 S9 s => R.eqI rfl rfl) ?_
  refine SL.val rfl rfl (fun w9 F9 S9 s => R.mv rfl) ?_
  refine SL.isT 53 rfl (decide_eq_true rfl) ?_
  refine SL.val rfl rfl (fun w9 F9 S9 s => R.mv rfl) ?_
  refine SL.val rfl rfl (fun w9 F9 S9 s => R.eqI rfl rfl) ?_
  first | refine SL.val rfl rfl (fun w9 F9 S9 s => R.pickT rfl rfl) ?_ | refine SL.val rfl rfl (fun w9 F9 S9 s => R.pickF rfl rfl) ?_
  refine SL.val rfl rfl (fun w9 F9 S9 s => R.mv rfl) ?_
  refine SL.isT 57 rfl (decide_eq_true rfl) ?_
  refine SL.val rfl rfl (fun w9 F9 S9 s => R.mv rfl) ?_
  refine SL.val rfl rfl (fun w9 F9 S9 s => R.mv rfl) ?_
  refine SL.step rfl rfl (CS.callR rfl go12 (fun w9 F9 S9 s => isame_ok (some ⟨d3, 0, none⟩) (some ⟨d2, 0, none⟩) y3 y3 w9 (disk_o (s.sh (p := fun w => DiskL w d3 g3 e3 cur3 ps3 y3) (by repeat (first | exact Sel.keep | exact Sel.here | apply Sel.there)))) (disk_o (s.sh (p := fun w => DiskL w d2 g2 e2 cur2 ps2 y3) (by repeat (first | exact Sel.keep | exact Sel.here | apply Sel.there)))))) ?_
  rintro _ _ ⟨rfl, rfl⟩
  first | refine SL.val rfl rfl (fun w9 F9 S9 s => R.pickT rfl rfl) ?_ | refine SL.val rfl rfl (fun w9 F9 S9 s => R.pickF rfl rfl) ?_
  refine SL.val rfl rfl (fun w9 F9 S9 s => R.mv rfl) ?_
  refine SL.isT 62 rfl (decide_eq_true rfl) ?_
  refine SL.val rfl rfl (fun w9 F9 S9 s => R.mv rfl) ?_
  refine SL.val rfl rfl (fun w9 F9 S9 s => R.eqI rfl rfl) ?_
  first | refine SL.val rfl rfl (fun w9 F9 S9 s => R.pickT rfl rfl) ?_ | refine SL.val rfl rfl (fun w9 F9 S9 s => R.pickF rfl rfl) ?_
  refine SL.val rfl rfl (fun w9 F9 S9 s => R.mv rfl) ?_
  refine SL.isT 66 rfl (decide_eq_true rfl) ?_
  refine SL.val rfl rfl (fun w9 F9 S9 s => R.mv rfl) ?_
  refine SL.val rfl rfl (fun w9 F9 S9 s => R.lenS rfl) ?_
  refine SL.val rfl rfl (fun w9 F9 S9 s => R.eqI rfl rfl) ?_
  first | refine SL.val rfl rfl (fun w9 F9 S9 s => R.pickT rfl rfl) ?_ | refine SL.val rfl rfl (fun w9 F9 S9 s => R.pickF rfl rfl) ?_
  refine SL.val rfl rfl (fun w9 F9 S9 s => R.mv rfl) ?_
  refine SL.isT 71 rfl (decide_eq_true rfl) ?_
  refine SL.val rfl rfl (fun w9 F9 S9 s => R.mv rfl) ?_
  refine SL.val rfl rfl (fun w9 F9 S9 s => R.idx (i := 0) rfl rfl (by decide) (by decide) q hq) ?_
  refine SL.val rfl rfl (fun w9 F9 S9 s => R.ld (v := .int .i64 ((1 : Nat) : Int)) rfl (numsP_ld (i := 0) (s.ownC (show Sel _ (own 3 1 a11 (1) c11 (nums ([1]))) _ from (by repeat (first | exact Sel.keep | exact Sel.here | apply Sel.there)))) hq rfl)) ?_
  refine SL.val rfl rfl (fun w9 F9 S9 s => R.eqI rfl rfl) ?_
  first | refine SL.val rfl rfl (fun w9 F9 S9 s => R.pickT rfl rfl) ?_ | refine SL.val rfl rfl (fun w9 F9 S9 s => R.pickF rfl rfl) ?_
  refine SL.val rfl rfl (fun w9 F9 S9 s => R.mv rfl) ?_
  refine SL.isT 77 rfl (decide_eq_true rfl) ?_
  refine SL.val rfl rfl (fun w9 F9 S9 s => R.mv rfl) ?_
  refine SL.val rfl rfl (fun w9 F9 S9 s => R.eqI rfl rfl) ?_
  first | refine SL.val rfl rfl (fun w9 F9 S9 s => R.pickT rfl rfl) ?_ | refine SL.val rfl rfl (fun w9 F9 S9 s => R.pickF rfl rfl) ?_
  refine SL.val rfl rfl (fun w9 F9 S9 s => R.as rfl) ?_
  refine SL.nil ?_
  refine SN.seq ?_
  exact SG.ret1 rfl rfl ((Imp.sels (by repeat (first | exact Sels.nil | apply Sels.cons | exact Sel.keep | exact Sel.here | apply Sel.there)))) (congrArg Value.bool (decide_eq_true rfl))

end Go.Proofs.Yteaihincmfbblaa
/-
  Patches, as the document reads them.
-/
set_option linter.unusedVariables false
set_option linter.unusedSimpArgs false
namespace Brv.Patch
open Go Brv Brv.Pack Brv.Shrink Brv.Image
theorem unroot_long {l : List UInt8} (h : 8 ≤ l.length) : (unrootF l 0).2 = (l.drop 8, 0) ∧ rootP (unrootF l 0).1 = l.take 8 ∧ (unrootF l 0).1 < 18446744073709551616 := by
  have h1 : numF l 0 4 = (num (l.take 4), l.drop 4, 0) := numF_long (k := 4) (by decide) (by decide) (by omega)
  have h2 : numF (l.drop 4) 0 4 = (num ((l.drop 4).take 4), (l.drop 4).drop 4, 0) := numF_long (k := 4) (by decide) (by decide) (by rw [List.length_drop]; omega)
  have e : unrootF l 0 = (num (l.take 4) * 4294967296 + num ((l.drop 4).take 4), l.drop 8, 0) := by
    unfold unrootF
    rw [h1]
    simp only [h2, List.drop_drop]
  have l1 : (l.take 4).length = 4 := by rw [List.length_take]; omega
  have l2 : ((l.drop 4).take 4).length = 4 := by rw [List.length_take, List.length_drop]; omega
  have b1 := num_lt (l.take 4)
  have b2 := num_lt ((l.drop 4).take 4)
  rw [l1] at b1; rw [l2] at b2
  have p4 : (256 : Nat) ^ 4 = 4294967296 := rfl
  rw [p4] at b1 b2
  refine ⟨by rw [e], ?_, by rw [e]; show _ + _ < _; omega⟩
  rw [e]
  unfold rootP
  show be 4 ((num (l.take 4) * 4294967296 + num ((l.drop 4).take 4)) / 4294967296) ++ be 4 ((num (l.take 4) * 4294967296 + num ((l.drop 4).take 4)) % 4294967296) = _
  rw [show (num (l.take 4) * 4294967296 + num ((l.drop 4).take 4)) / 4294967296 = num (l.take 4) by omega, show (num (l.take 4) * 4294967296 + num ((l.drop 4).take 4)) % 4294967296 = num ((l.drop 4).take 4) by omega]
  have q1 := be_num (l.take 4)
  have q2 := be_num ((l.drop 4).take 4)
  rw [l1] at q1; rw [l2] at q2
  rw [q1, q2, ← List.take_add]
theorem root_inj {a b : Nat} (ha : a < 18446744073709551616) (hb : b < 18446744073709551616) (h : rootP a = rootP b) : a = b := by
  have h1 := unroot_root (v := a) [] ha
  have h2 := unroot_root (v := b) [] hb
  rw [h, h2] at h1
  exact (congrArg Prod.fst h1).symm
theorem qF_long {l : List UInt8} (h : 22 ≤ l.length) : qF l = ⟨(num ((l.drop 2).take 2), l.drop 4, 0), ((unrootF (l.drop 4) 0).1, l.drop 12, 0), ((unrootF (l.drop 12) 0).1, l.drop 20, 0), (num ((l.drop 20).take 2), l.drop 22, 0), partsF (num ((l.drop 20).take 2)) (l.drop 22) 0⟩ := by
  have h1 : numF l 0 2 = (num (l.take 2), l.drop 2, 0) := numF_long (k := 2) (by decide) (by decide) (by omega)
  have h2 : numF (l.drop 2) 0 2 = (num ((l.drop 2).take 2), (l.drop 2).drop 2, 0) := numF_long (k := 2) (by decide) (by decide) (by rw [List.length_drop]; omega)
  have h3 : numF (l.drop 20) 0 2 = (num ((l.drop 20).take 2), (l.drop 20).drop 2, 0) := numF_long (k := 2) (by decide) (by decide) (by rw [List.length_drop]; omega)
  have h4 := (unroot_long (l := l.drop 4) (by rw [List.length_drop]; omega)).1
  have h5 := (unroot_long (l := l.drop 12) (by rw [List.length_drop]; omega)).1
  rw [List.drop_drop] at h2 h3 h4 h5
  have e4 : unrootF (l.drop 4) 0 = ((unrootF (l.drop 4) 0).1, l.drop 12, 0) := Prod.ext rfl h4
  have e5 : unrootF (l.drop 12) 0 = ((unrootF (l.drop 12) 0).1, l.drop 20, 0) := Prod.ext rfl h5
  unfold qF
  simp only [h1, h2]
  rw [e4]
  simp only
  rw [e5]
  simp only [h3]
theorem unroot_short {l : List UInt8} {e : Int} (h : l.length < 8) : (unrootF l e).2.2 ≠ 0 := by
  unfold unrootF
  simp only
  by_cases he : e = 0
  · subst he
    by_cases h4 : 4 ≤ l.length
    · have h1 : numF l 0 4 = (num (l.take 4), l.drop 4, 0) := numF_long (k := 4) (by decide) (by decide) (by omega)
      rw [h1]
      exact numF_short (by simp only [List.length_drop]; omega)
    · exact numF_sticky (numF_short (by omega))
  · exact numF_sticky (numF_sticky he)
theorem parse_short {l : List UInt8} (h : l.length < 22) : parseF l = none := by
  unfold parseF
  refine if_neg (fun hk => ?_)
  have hq := hk.2.1
  have hst : ∀ (n : Nat) (l : List UInt8) (e : Int), e ≠ 0 → (partsF n l e).2.2 ≠ 0 := fun n l e he => by rw [partsF_sticky n he]; exact he
  have key : ∀ (x : Nat × List UInt8 × Int), x.2.2 ≠ 0 → (partsF (numF x.2.1 x.2.2 2).1 (numF x.2.1 x.2.2 2).2.1 (numF x.2.1 x.2.2 2).2.2).2.2 ≠ 0 := fun x hx => hst _ _ _ (numF_sticky hx)
  revert hq
  show (partsF (qF l).c.1 (qF l).c.2.1 (qF l).c.2.2).2.2 = 0 → False
  by_cases h2 : 2 ≤ l.length
  · have e1 : numF l 0 2 = (num (l.take 2), l.drop 2, 0) := numF_long (k := 2) (by decide) (by decide) (by omega)
    by_cases h4 : 4 ≤ l.length
    · have e2 : numF (l.drop 2) 0 2 = (num ((l.drop 2).take 2), (l.drop 2).drop 2, 0) := numF_long (k := 2) (by decide) (by decide) (by rw [List.length_drop]; omega)
      rw [List.drop_drop] at e2
      by_cases h12 : 12 ≤ l.length
      · have e3 : (unrootF (l.drop 4) 0).2 = (l.drop 12, 0) := by
          have := (unroot_long (l := l.drop 4) (by rw [List.length_drop]; omega)).1
          rw [List.drop_drop] at this
          exact this
        by_cases h20 : 20 ≤ l.length
        · have e4 : (unrootF (l.drop 12) 0).2 = (l.drop 20, 0) := by
            have := (unroot_long (l := l.drop 12) (by rw [List.length_drop]; omega)).1
            rw [List.drop_drop] at this
            exact this
          intro hq
          refine hst _ _ _ ?_ hq
          show (numF _ _ 2).2.2 ≠ 0
          simp only [e1, e2, e3, e4]
          exact numF_short (by rw [List.length_drop]; omega)
        · intro hq
          refine key (unrootF (l.drop 12) 0) (unroot_short (by rw [List.length_drop]; omega)) ?_
          have : qF l = qF l := rfl
          unfold qF at hq
          simp only [e1, e2, e3] at hq
          exact hq
      · intro hq
        refine key (unrootF (unrootF (l.drop 4) 0).2.1 (unrootF (l.drop 4) 0).2.2) (unroot_sticky (unroot_short (by rw [List.length_drop]; omega))) ?_
        unfold qF at hq
        simp only [e1, e2] at hq
        exact hq
    · intro hq
      have hs : (numF (l.drop 2) 0 2).2.2 ≠ 0 := numF_short (by rw [List.length_drop]; omega)
      refine key (unrootF (unrootF (numF (l.drop 2) 0 2).2.1 (numF (l.drop 2) 0 2).2.2).2.1 (unrootF (numF (l.drop 2) 0 2).2.1 (numF (l.drop 2) 0 2).2.2).2.2) (unroot_sticky (unroot_sticky hs)) ?_
      unfold qF at hq
      simp only [e1] at hq
      exact hq
  · intro hq
    have hs : (numF l 0 2).2.2 ≠ 0 := numF_short (by omega)
    have hk1 := hk.1
    rw [numF_no (fun hok => by have := hok.2.2.1; omega)] at hk1
    cases hk1
theorem magic_of {l : List UInt8} {a b : UInt8} (ha : l[0]? = some a) (hb : l[1]? = some b) : (numF l 0 2).1 = 256 * a.toNat + b.toNat := by
  have hl : 2 ≤ l.length := by have := (List.getElem?_eq_some_iff.1 hb).1; omega
  have h1 : numF l 0 2 = (num (l.take 2), l.drop 2, 0) := numF_long (k := 2) (by decide) (by decide) (by omega)
  match l, ha, hb with
  | x :: y :: r, ha, hb =>
    simp at ha hb
    subst ha; subst hb
    rw [h1]
    simp [num]
theorem right_app (bl : Nat) : ∀ (ps : List (Nat × List UInt8)) (last last' : Int) (k : Nat × List UInt8) (r : List (Nat × List UInt8)), (∀ r, rightF bl last (ps ++ r) = rightF bl last' r) → okP bl last' k → ∀ r, rightF bl last (ps ++ [k] ++ r) = rightF bl k.1 r := by
  intro ps last last' k r h hk r
  rw [List.append_assoc, h]
  show (decide (okP bl last' k) && rightF bl k.1 r) = _
  rw [decide_eq_true hk, Bool.true_and]
theorem partsF_step (n : Nat) (l : List UInt8) : partsF (n + 1) l 0 = (((numF l 0 2).1, (txtF (numF l 0 2).2.1 (numF l 0 2).2.2 65535).1) :: (partsF n (txtF (numF l 0 2).2.1 (numF l 0 2).2.2 65535).2.1 (txtF (numF l 0 2).2.1 (numF l 0 2).2.2 65535).2.2).1,
      (partsF n (txtF (numF l 0 2).2.1 (numF l 0 2).2.2 65535).2.1 (txtF (numF l 0 2).2.1 (numF l 0 2).2.2 65535).2.2).2) := by
  rw [partsF, if_neg (by decide), txt_most]
/-- The bytes of a root, as eight. -/
theorem rootP_be (v : Nat) : rootP v = [UInt8.ofNat (v / 256 ^ 7 % 256), UInt8.ofNat (v / 256 ^ 6 % 256), UInt8.ofNat (v / 256 ^ 5 % 256), UInt8.ofNat (v / 256 ^ 4 % 256), UInt8.ofNat (v / 256 ^ 3 % 256), UInt8.ofNat (v / 256 ^ 2 % 256), UInt8.ofNat (v / 256 ^ 1 % 256), UInt8.ofNat (v / 256 ^ 0 % 256)] := by
  unfold rootP
  simp only [be, List.nil_append, List.cons_append]
  have e : ∀ a b : Nat, a = b → UInt8.ofNat a = UInt8.ofNat b := fun a b h => by rw [h]
  simp only [List.cons.injEq, and_true]
  refine ⟨?_, ?_, ?_, ?_, ?_, ?_, ?_, ?_⟩ <;> first | trivial | (apply e; omega)
end Brv.Patch
/-
  The walks of package patch.
-/
set_option linter.unusedVariables false
set_option linter.unusedSimpArgs false
set_option maxRecDepth 4000
namespace Go.Proofs.Yteaihincmfbblaa
open Go Brv Brv.Pack Brv.Shrink Brv.Patch
theorem refNumS (s : Nat) (l : List UInt8) (e y : Int) (hl : l.length ≤ 70368744177664) : SpecS Try.prog 34 [.pointer (some ⟨s, 0, none⟩), .int .i64 y] [blk s [.string (str (l)), .int .i64 (e)] 87] (fun v H' => v = .int .i64 ((numF l e y).1 : Int) ∧ H' = [blk s [.string (str ((numF l e y).2.1)), .int .i64 ((numF l e y).2.2)] 87]) :=
  SpecS.ofBlk fun w hB => refnum_ok s l e y w hB hl
theorem refTxtS (s : Nat) (l : List UInt8) (e y : Int) (hl : l.length ≤ 70368744177664) : SpecS Try.prog 35 [.pointer (some ⟨s, 0, none⟩), .int .i64 y] [blk s [.string (str (l)), .int .i64 (e)] 87] (fun v H' => v = .string (str (txtF l e y).1) ∧ H' = [blk s [.string (str ((txtF l e y).2.1)), .int .i64 ((txtF l e y).2.2)] 87]) :=
  SpecS.ofBlk fun w hB => reftxt_ok s l e y w hB hl
theorem reflaidP (ao : Option Addr) (no co : Nat) (lo l : List UInt8) (w : World) (hbo : Bs w ao no lo) (hn : l.length ≤ 1000000) : Meets Try.prog 39 [.slice ao no co, .string (str l)] w (fun v w' => ∃ p : World → Prop, (∃ a1 c1, v = .slice a1 l.length c1 ∧ l.length ≤ c1 ∧ p = fun w => Bs w a1 l.length (laidF lo l)) ∧ Ext [] w w' ∧ ∀ w'', Ext [] w' w'' → p w'') :=
  (reflaid_ok ao no co lo l w hbo hn).mono fun v w' ⟨a1, c1, h1, h2, h3, h4⟩ => ⟨_, ⟨a1, c1, h1, h4, rfl⟩, h2, fun w'' h => h3.ext0 h⟩
theorem dgs_root (v : Nat) : dgs v 8 = rootP v := by rw [rootP_be]; rfl
theorem sub_blk (x : List UInt8) (k : Nat) : (x.drop (64 * (k : Int)).toNat).take ((64 * (k : Int) + 64).toNat - (64 * (k : Int)).toNat) = Image.blk x k := by
  rw [show (64 * (k : Int)).toNat = 64 * k by omega, show (64 * (k : Int) + 64).toNat = 64 * k + 64 by omega, Nat.add_sub_cancel_left]; rfl
theorem sub_blk2 (x : List UInt8) (k : Nat) : (x.take (64 * (k : Int) + 64).toNat).drop (64 * (k : Int)).toNat = Image.blk x k := by
  rw [show (64 * (k : Int)).toNat = 64 * k by omega, show (64 * (k : Int) + 64).toNat = 64 * k + 64 by omega, List.drop_take, Nat.add_sub_cancel_left]; rfl

theorem refroot_ok (x : List UInt8) (hx1 : 1 ≤ x.length / 64) (hx : x.length ≤ 100000) : SpecS Try.prog 38 [.string (str x)] [] (fun v9 H' => v9 = .string (str (rootP (rootD x))) ∧ H' = []) := by
  refine SpecS.enter Try.func38 rfl 15 rfl (Nat.le_of_ble_eq_true rfl) (fun o => ?_)
  obtain ⟨v, hv, hrt⟩ := treeD_top (x := x) hx1
  have hvl := rootD_lt x hx1
  rw [hrt] at hvl
  refine SG.seq ?_
  refine SG.region ?_
  refine SL.val rfl rfl (fun w9 F9 S9 s => R.as rfl) ?_
  refine SL.nil ?_
  refine SN.seq ?_
  refine SG.seq ?_
  refine SG.region ?_
  refine SL.val rfl rfl (fun w9 F9 S9 s => R.mv rfl) ?_
  refine SL.step rfl rfl (CS.call rfl go60 (rtree_ok x (by omega)) (by repeat (first | exact Sels.nil | apply Sels.cons | exact Sel.keep | exact Sel.here | apply Sel.there))) ?_
  rintro _ _ ⟨_, ⟨a3, n3, c3, Rr, rfl, rfl, hRr, rfl⟩, rfl⟩
  refine SL.n1 ?_
  obtain ⟨hRl, r9, hr9, hrl9⟩ := row_topp hRr hv
  refine SL.val rfl rfl (fun w9 F9 S9 s => R.as rfl) ?_
  refine SL.nil ?_
  have htl := treeD_len x
  rw [← hRr, List.length_map] at htl
  have hrm := List.mem_of_getElem? hr9
  refine SN.fact (fun w9 F9 S9 s => rows_pt (s.sh (p := (fun w => Cells w a3 (Rr.map URow.val) ∧ ∀ r ∈ Rr, URow.ok w r)) (by repeat (first | exact Sel.keep | exact Sel.here | apply Sel.there))).1 hr9) (fun hf9 => ?_)
  obtain ⟨q, hq⟩ := hf9
  refine SN.fact (fun w9 F9 S9 s => ((s.sh (p := (fun w => Cells w a3 (Rr.map URow.val) ∧ ∀ r ∈ Rr, URow.ok w r)) (by repeat (first | exact Sel.keep | exact Sel.here | apply Sel.there))).2 r9 hrm).len) (fun hf9 => ?_)
  have hn9 := hf9; clear hf9
  have hl1 : r9.l.length = 1 := by rw [hrl9]; rfl
  have hr0 : r9.l[0]? = some v := by rw [hrl9]; rfl
  refine SN.fact (fun w9 F9 S9 s => us_pt ((s.sh (p := (fun w => Cells w a3 (Rr.map URow.val) ∧ ∀ r ∈ Rr, URow.ok w r)) (by repeat (first | exact Sel.keep | exact Sel.here | apply Sel.there))).2 r9 hrm).cells hr0) (fun hf9 => ?_)
  obtain ⟨q2, hq2⟩ := hf9
  refine SN.seq ?_
  refine SG.seq ?_
  refine SG.region ?_
  refine SL.val rfl rfl (fun w9 F9 S9 s => R.mv rfl) ?_
  refine SL.val rfl rfl (fun w9 F9 S9 s => R.mv rfl) ?_
  refine SL.val rfl rfl (fun w9 F9 S9 s => R.lenS rfl) ?_
  refine SL.val rfl rfl (fun w9 F9 S9 s => R.sub' rfl rfl (by omega)) ?_
  refine SL.be 9 rfl (congrArg (Value.int .i64) (show (Rr.length : Int) - 1 = ((Rr.length - 1 : Nat) : Int) by omega)) ?_
  refine SL.val rfl rfl (fun w9 F9 S9 s => R.idx rfl rfl (by omega) (by omega) q hq) ?_
  refine SL.val rfl rfl (fun w9 F9 S9 s => R.ld (v := .slice r9.a r9.n r9.c) rfl (rows_ld (s.sh (p := (fun w => Cells w a3 (Rr.map URow.val) ∧ ∀ r ∈ Rr, URow.ok w r)) (by repeat (first | exact Sel.keep | exact Sel.here | apply Sel.there))).1 hq hr9)) ?_
  refine SL.val rfl rfl (fun w9 F9 S9 s => R.idx (i := 0) rfl rfl (by omega) (by omega) q2 hq2) ?_
  refine SL.val rfl rfl (fun w9 F9 S9 s => R.ld (v := .int .u64 (v : Int)) rfl (us_ld (i := 0) ((s.sh (p := (fun w => Cells w a3 (Rr.map URow.val) ∧ ∀ r ∈ Rr, URow.ok w r)) (by repeat (first | exact Sel.keep | exact Sel.here | apply Sel.there))).2 r9 hrm).cells hq2 hr0)) ?_
  refine SL.step rfl rfl (CS.call rfl go61 (eight_ok v (by omega)) (by repeat (first | exact Sels.nil | apply Sels.cons | exact Sel.keep | exact Sel.here | apply Sel.there))) ?_
  rintro _ _ ⟨_, ⟨rfl, rfl⟩, rfl⟩
  refine SL.n0 ?_
  refine SL.val rfl rfl (fun w9 F9 S9 s => R.as rfl) ?_
  refine SL.nil ?_
  refine SN.seq ?_
  exact SG.ret1 rfl rfl (Imp.sels Sels.nil) (⟨by rw [hrt, dgs_root], rfl⟩)

set_option maxHeartbeats 1000000 in
theorem refmake_ok (x y : List UInt8) (w : World) (hx : x.length = 64 * Image.dn x) (hy : y.length = 64 * Image.dn y) (he : Image.dn x = Image.dn y) (h1 : 1 ≤ Image.dn x) (h64 : Image.dn x ≤ 64) : Meets Try.prog 16 [.string (str x), .string (str y)] w (fun v w' => v = .string (str (makeF rootD x y)) ∧ Ext [] w w') := by
  refine Meets.law Try.func16 rfl 61 rfl (Nat.le_of_ble_eq_true rfl) (law_nil w) ?_
  have hdx : Image.dn x = x.length / 64 := rfl
  have hdy : Image.dn y = y.length / 64 := rfl
  have hfl : (Image.diffF x y).length ≤ Image.dn x := by have := Image.diffN_length x y (max (Image.dn x) (Image.dn y)); show (Image.diffN x y _).length ≤ _; omega
  have hhl := head_len rootD x y
  have hpl := parts_len x y
  refine SG.seq ?_
  refine SG.region ?_
  refine SL.val rfl rfl (fun w9 F9 S9 s => R.as rfl) ?_
  refine SL.nil ?_
  refine SN.seq ?_
  refine SG.seq ?_
  refine SG.region ?_
  refine SL.val rfl rfl (fun w9 F9 S9 s => R.mv rfl) ?_
  refine SL.val rfl rfl (fun w9 F9 S9 s => R.mv rfl) ?_
  refine SL.step rfl rfl (CS.callC rfl go11 (fun w9 F9 S9 s => rdiff_ok x y w9 (by omega) (by omega) hx hy)) ?_
  rintro _ _ ⟨a5, c5, rfl, rfl, rfl⟩
  refine SL.val rfl rfl (fun w9 F9 S9 s => R.as rfl) ?_
  refine SL.nil ?_
  refine SN.imp (Imp.ownSh (show Sel _ (own 3 1 a5 ((Image.diffF x y).length) c5 (nums ((Image.diffF x y)))) _ from (by repeat (first | exact Sel.keep | exact Sel.here | apply Sel.there))) (p := fun w => Cells w a5 (nums (Image.diffF x y))) (fun w h => h)) ?_
  refine SN.seq ?_
  refine SG.seq ?_
  refine SG.region ?_
  refine SL.val rfl rfl (fun w9 F9 S9 s => R.mv rfl) ?_
  refine SL.val rfl rfl (fun w9 F9 S9 s => R.lenT rfl) ?_
  refine SL.val rfl rfl (fun w9 F9 S9 s => R.quo rfl rfl (by omega) (by omega)) ?_
  refine SL.be 15 rfl (congrArg (Value.int .i64) (show (x.length : Int) / 64 = ((Image.dn x : Nat) : Int) by omega)) ?_
  refine SL.step rfl rfl (CS.callR rfl go37 (fun w9 F9 S9 s => refnumber_ok 2 (Image.dn x) w9 (by decide) (by omega))) ?_
  rintro _ _ ⟨rfl, rfl⟩
  refine SL.val rfl rfl (fun w9 F9 S9 s => R.addStr (show ev _ _ = some (.string (str (be 2 45229))) from rfl) rfl (by simp only [List.length_append, be_length, rootP_len]; omega)) ?_
  refine SL.val rfl rfl (fun w9 F9 S9 s => R.mv rfl) ?_
  refine SL.step rfl rfl (CS.call rfl go38 (refroot_ok x (by omega) (by omega)) (by repeat (first | exact Sels.nil | apply Sels.cons | exact Sel.keep | exact Sel.here | apply Sel.there))) ?_
  rintro _ _ ⟨_, ⟨rfl, rfl⟩, rfl⟩
  refine SL.n0 ?_
  refine SL.val rfl rfl (fun w9 F9 S9 s => R.addStr rfl rfl (by simp only [List.length_append, be_length, rootP_len]; omega)) ?_
  refine SL.val rfl rfl (fun w9 F9 S9 s => R.mv rfl) ?_
  refine SL.step rfl rfl (CS.call rfl go38 (refroot_ok y (by omega) (by omega)) (by repeat (first | exact Sels.nil | apply Sels.cons | exact Sel.keep | exact Sel.here | apply Sel.there))) ?_
  rintro _ _ ⟨_, ⟨rfl, rfl⟩, rfl⟩
  refine SL.n0 ?_
  refine SL.val rfl rfl (fun w9 F9 S9 s => R.addStr rfl rfl (by simp only [List.length_append, be_length, rootP_len]; omega)) ?_
  refine SL.val rfl rfl (fun w9 F9 S9 s => R.mv rfl) ?_
  refine SL.val rfl rfl (fun w9 F9 S9 s => R.lenS rfl) ?_
  refine SL.step rfl rfl (CS.callR rfl go37 (fun w9 F9 S9 s => refnumber_ok 2 (Image.diffF x y).length w9 (by decide) (by omega))) ?_
  rintro _ _ ⟨rfl, rfl⟩
  refine SL.val rfl rfl (fun w9 F9 S9 s => R.addStr rfl rfl (by simp only [List.length_append, be_length, rootP_len]; omega)) ?_
  refine SL.val rfl rfl (fun w9 F9 S9 s => R.as rfl) ?_
  refine SL.nil ?_
  refine SN.be 6 rfl (show _ = Value.string (str (headP rootD x y)) from rfl) ?_
  refine SN.seq ?_
  refine SG.seq ?_
  refine SG.seq ?_
  refine SG.region ?_
  refine SL.val rfl rfl (fun w9 F9 S9 s => R.mv rfl) ?_
  refine SL.val rfl rfl (fun w9 F9 S9 s => R.lenS rfl) ?_
  refine SL.val rfl rfl (fun w9 F9 S9 s => R.mv rfl) ?_
  refine SL.nil ?_
  refine SN.seq ?_
  refine SG.block ?_
  refine SG.be 6 rfl (show _ = Value.string (str (headP rootD x y ++ (([] : List Nat).map (partP x y)).flatten)) by rw [List.map_nil, List.flatten_nil, List.append_nil]) ?_
  refine SG.loop (X := Nat) (fun i => [(0, .string (str x)), (1, .string (str y)), (6, .string (str (headP rootD x y ++ (((Image.diffF x y).take i).map (partP x y)).flatten))), (28, .slice a5 (Image.diffF x y).length c5), (29, .int .i64 ((Image.diffF x y).length : Int)), (30, .int .i64 (i : Int))]) (fun i => [sh (fun w => Cells w a5 (nums (Image.diffF x y)))]) (fun i => i ≤ (Image.diffF x y).length) (fun i => (Image.diffF x y).length - i) (0) (Sub.cons rfl (Sub.cons rfl (Sub.cons rfl (Sub.cons rfl (Sub.cons rfl (Sub.cons rfl (Sub.nil _))))))) ((Imp.sels (by repeat (first | exact Sels.nil | apply Sels.cons | exact Sel.keep | exact Sel.here | apply Sel.there)))) (Nat.zero_le _) ?_
  intro i hi
  show SG _ _ _ _ _ [(0, .string (str x)), (1, .string (str y)), (6, .string (str (headP rootD x y ++ (((Image.diffF x y).take i).map (partP x y)).flatten))), (28, .slice a5 (Image.diffF x y).length c5), (29, .int .i64 ((Image.diffF x y).length : Int)), (30, .int .i64 (i : Int))] [sh (fun w => Cells w a5 (nums (Image.diffF x y)))] _
  refine SG.seq ?_
  refine SG.region ?_
  refine SL.val rfl rfl (fun w9 F9 S9 s => R.lss rfl rfl) ?_
  refine SL.nil ?_
  refine SN.seq ?_
  refine SG.seq ?_
  refine SG.condP rfl (fun h0 => ?_) (fun h0 => ?_)
  · obtain ⟨k, hk⟩ : ∃ k, (Image.diffF x y)[i]? = some k := ⟨_, List.getElem?_eq_getElem (by omega)⟩
    have hkm := Image.mem_diff (List.mem_of_getElem? hk)
    refine SG.fact (fun w9 F9 S9 s => numsP_pt (s.sh (p := fun w => Cells w a5 (nums (Image.diffF x y))) (by repeat (first | exact Sel.keep | exact Sel.here | apply Sel.there))) hk) (fun hf9 => ?_)
    obtain ⟨q, hq⟩ := hf9
    have hbx := Image.blk_length (x := x) (show k < Image.dn x by omega)
    have hby := Image.blk_length (x := y) (show k < Image.dn y by omega)
    have hpt := hpl ((Image.diffF x y).take i)
    rw [List.length_take] at hpt
    have hw := shrink_worst _ (laidF (Image.blk x k) (Image.blk y k)) (Nat.le_refl _)
    have hll : (laidF (Image.blk x k) (Image.blk y k)).length = 64 := by rw [laidF_length, hby]
    rw [hll] at hw
    unfold worstF at hw
    refine SG.skip ?_
    refine SN.seq ?_
    refine SG.seq ?_
    refine SG.block ?_
    refine SG.seq ?_
    refine SG.region ?_
    refine SL.val rfl rfl (fun w9 F9 S9 s => R.idx rfl rfl (by omega) (by omega) q hq) ?_
    refine SL.val rfl rfl (fun w9 F9 S9 s => R.ld (v := .int .i64 (k : Int)) rfl (numsP_ld (s.sh (p := fun w => Cells w a5 (nums (Image.diffF x y))) (by repeat (first | exact Sel.keep | exact Sel.here | apply Sel.there))) hq hk)) ?_
    refine SL.val rfl rfl (fun w9 F9 S9 s => R.as rfl) ?_
    refine SL.nil ?_
    refine SN.seq ?_
    refine SG.seq ?_
    refine SG.draw [7, 15] [0, 1, 2, 3, 4, 5, 6, 8, 9, 10, 11, 12, 13, 14, 7, 15, 16] (by decide +kernel) rfl ?_
    refine SW.pure rfl rfl rfl rfl (fun w9 => R.mv rfl) ?_
    refine SW.pure rfl rfl rfl rfl (fun w9 => R.mv rfl) ?_
    refine SW.pure rfl rfl rfl rfl (fun w9 => R.mul rfl rfl (by omega)) ?_
    refine SW.pure rfl rfl rfl rfl (fun w9 => R.mv rfl) ?_
    refine SW.pure rfl rfl rfl rfl (fun w9 => R.mul rfl rfl (by omega)) ?_
    refine SW.pure rfl rfl rfl rfl (fun w9 => R.add rfl rfl (by omega)) ?_
    refine SW.pure rfl rfl rfl rfl (fun w9 => R.slStr rfl rfl rfl (by omega) (by omega) (by omega)) ?_
    refine SW.be 40 rfl (congrArg (fun q => Value.string (str q)) (show _ = Image.blk x k by first | exact sub_blk x k | exact sub_blk2 x k)) ?_
    refine SW.pure rfl rfl rfl rfl (fun w9 => R.mv rfl) ?_
    refine SW.pure rfl rfl rfl rfl (fun w9 => R.mv rfl) ?_
    refine SW.pure rfl rfl rfl rfl (fun w9 => R.mul rfl rfl (by omega)) ?_
    refine SW.pure rfl rfl rfl rfl (fun w9 => R.mv rfl) ?_
    refine SW.pure rfl rfl rfl rfl (fun w9 => R.mul rfl rfl (by omega)) ?_
    refine SW.pure rfl rfl rfl rfl (fun w9 => R.add rfl rfl (by omega)) ?_
    refine SW.pure rfl rfl rfl rfl (fun w9 => R.slStr rfl rfl rfl (by omega) (by omega) (by omega)) ?_
    refine SW.be 48 rfl (congrArg (fun q => Value.string (str q)) (show _ = Image.blk y k by first | exact sub_blk y k | exact sub_blk2 y k)) ?_
    refine SW.step rfl rfl rfl rfl (CS.strBytes rfl) ?_
    rintro _ _ ⟨a41, c41, rfl, hc41, rfl⟩
    refine ⟨trivial, ?_⟩
    refine SW.step rfl rfl rfl rfl (CS.callP rfl go39 (fun w9 F9 S9 s => reflaidP a41 (Image.blk x k).length c41 (Image.blk x k) (Image.blk y k) w9 (s.bs (a := a41) (l := Image.blk x k) (by repeat (first | exact Sel.keep | exact Sel.here | apply Sel.there))) (by omega))) ?_
    rintro _ _ ⟨_, ⟨a9, c9, rfl, hc9, rfl, rfl⟩, rfl⟩
    refine ⟨trivial, ?_⟩
    refine SW.pure rfl rfl rfl rfl (fun w9 => R.as rfl) ?_
    refine SW.nil ?_
    refine SN.seq ?_
    refine SG.region ?_
    refine SL.val rfl rfl (fun w9 F9 S9 s => R.mv rfl) ?_
    refine SL.val rfl rfl (fun w9 F9 S9 s => R.mv rfl) ?_
    refine SL.step rfl rfl (CS.callR rfl go37 (fun w9 F9 S9 s => refnumber_ok 2 k w9 (by decide) (by omega))) ?_
    rintro _ _ ⟨rfl, rfl⟩
    refine SL.val rfl rfl (fun w9 F9 S9 s => R.mv rfl) ?_
    refine SL.step rfl rfl (CS.callR rfl go41 (fun w9 F9 S9 s => refshrink_ok a9 (Image.blk y k).length c9 (laidF (Image.blk x k) (Image.blk y k)) w9 (s.bs (a := a9) (n := (Image.blk y k).length) (l := (laidF (Image.blk x k) (Image.blk y k))) (by repeat (first | exact Sel.keep | exact Sel.here | apply Sel.there))) hc9 (by omega))) ?_
    rintro _ _ ⟨rfl, rfl⟩
    refine SL.step rfl rfl (CS.strBytes rfl) ?_
    rintro _ _ ⟨a55, c55, rfl, hc55, rfl⟩
    refine SL.step rfl rfl (CS.callR rfl go40 (fun w9 F9 S9 s => reftext_ok a55 (shrinkF (laidF (Image.blk x k) (Image.blk y k))).length c55 (shrinkF (laidF (Image.blk x k) (Image.blk y k))) w9 (s.bs (a := a55) (l := shrinkF (laidF (Image.blk x k) (Image.blk y k))) (by repeat (first | exact Sel.keep | exact Sel.here | apply Sel.there))) (by omega))) ?_
    rintro _ _ ⟨rfl, rfl⟩
    refine SL.val rfl rfl (fun w9 F9 S9 s => R.addStr rfl rfl (by simp only [List.length_append, be_length, textF]; omega)) ?_
    refine SL.val rfl rfl (fun w9 F9 S9 s => R.addStr rfl rfl (by simp only [List.length_append, be_length, textF]; omega)) ?_
    refine SL.val rfl rfl (fun w9 F9 S9 s => R.as rfl) ?_
    refine SL.nil ?_
    refine SN.be 6 rfl (congrArg (fun q => Value.string (str q)) (show _ = headP rootD x y ++ (((Image.diffF x y).take (i + 1)).map (partP x y)).flatten by rw [flat_succ (partP x y) hk]; simp only [List.append_assoc]; rfl)) ?_
    refine SN.block ?_
    refine SN.seq ?_
    refine SG.region ?_
    refine SL.val rfl rfl (fun w9 F9 S9 s => R.add rfl rfl (by omega)) ?_
    refine SL.val rfl rfl (fun w9 F9 S9 s => R.mv rfl) ?_
    refine SL.nil ?_
    exact SN.again (i + 1) (by show (Image.diffF x y).length - (i + 1) < (Image.diffF x y).length - i; omega) (Sub.cons rfl (Sub.cons rfl (Sub.cons rfl (Sub.cons rfl (Sub.cons rfl (Sub.cons rfl (Sub.nil _))))))) ((Imp.sels (by repeat (first | exact Sels.nil | apply Sels.cons | exact Sel.keep | exact Sel.here | apply Sel.there)))) (by show i + 1 ≤ (Image.diffF x y).length; omega)
  · obtain rfl : i = (Image.diffF x y).length := by omega
    refine SG.exit _ rfl ?_
    refine SN.seq ?_
    refine SG.seq ?_
    refine SG.region ?_
    refine SL.val rfl rfl (fun w9 F9 S9 s => R.mv rfl) ?_
    refine SL.val rfl rfl (fun w9 F9 S9 s => R.as rfl) ?_
    refine SL.nil ?_
    refine SN.seq ?_
    exact SG.ret1 rfl rfl ((Imp.sels (by repeat (first | exact Sels.nil | apply Sels.cons | exact Sel.keep | exact Sel.here | apply Sel.there)))) (by rw [List.take_length]; rfl)

end Go.Proofs.Yteaihincmfbblaa
/-
  The walks of the laws on shrink.
-/
set_option linter.unusedVariables false
set_option linter.unusedSimpArgs false
namespace Go.Proofs.Yteaihincmfbblaa
open Go Brv Brv.Crc Brv.Shrink
theorem refgrow_ok (a : Option Addr) (n c : Nat) (l : List UInt8) (most : Int) (w : World) (hb : Bs w a n l) (hc : n ≤ c) (hn : n ≤ 1000000) : Meets Try.prog 36 [.slice a n c, .int .i64 most] w (fun v w' => v = .tuple #[.string (str (growF most l).1), .int .i64 (growF most l).2] ∧ Ext [] w w') := by
  refine Meets.enter Try.func36 rfl 77 rfl (Nat.le_of_ble_eq_true rfl) ?_
  have E := Ext.refl [] w
  have hl := hb.len
  refine G.seq ?_
  refine G.region ?_
  refine L.val rfl rfl (R.as rfl) ?_
  refine L.val rfl rfl (R.as rfl) ?_
  refine L.nil ?_
  refine N.seq ?_
  refine G.seq ?_
  refine G.seq ?_
  refine G.region ?_
  refine L.val rfl rfl (R.mv rfl) ?_
  refine L.val rfl rfl (R.lss rfl rfl) ?_
  refine L.nil ?_
  refine N.seq ?_
  refine G.cut (X := Unit) (fun _ => [(0, .slice a n c), (1, .int .i64 ((most.toNat : Nat) : Int))]) (fun _ w' => Ext [] w w') ?_ ?_
  · refine G.condP rfl (fun h0 => ?_) (fun h0 => ?_)
    · refine G.region ?_
      refine L.val rfl rfl (R.as rfl) ?_
      refine L.be 1 rfl (show Value.int .i64 0 = .int .i64 ((most.toNat : Nat) : Int) by congr 1; omega) ?_
      refine L.nil ?_
      exact N.handX () (Sub.cons rfl (Sub.cons rfl (Sub.nil _))) E
    · refine G.be 1 rfl (show Value.int .i64 most = .int .i64 ((most.toNat : Nat) : Int) by congr 1; omega) ?_
      refine G.skip ?_
      exact N.handX () (Sub.cons rfl (Sub.cons rfl (Sub.nil _))) E
  · rintro _ w1 E
    refine N.seq ?_
    refine G.seq ?_
    refine G.region ?_
    refine L.val rfl rfl (R.as rfl) ?_
    refine L.nil ?_
    refine N.seq ?_
    refine G.seq ?_
    refine G.seq ?_
    refine G.region ?_
    refine L.val rfl rfl (R.as rfl) ?_
    refine L.nil ?_
    refine N.seq ?_
    refine G.block ?_
    refine G.loop (X := Nat × List UInt8) (fun x => [(0, .slice a n c), (1, .int .i64 ((most.toNat : Nat) : Int)), (6, .string (str x.2)), (7, .int .i64 (x.1 : Int))]) (fun x w' => x.1 ≤ n ∧ growN most.toNat (l.drop x.1).length x.2 (l.drop x.1) = growF most l ∧ x.2.length ≤ 130 * x.1 ∧ Ext [] w w') (fun x => n - x.1) ((0, [])) (Sub.cons rfl (Sub.cons rfl (Sub.cons rfl (Sub.cons rfl (Sub.nil _))))) ⟨Nat.zero_le _, rfl, by simp, E⟩ ?_
    rintro ⟨i, acc⟩ w1 ⟨hi, hacc, hal, E⟩
    dsimp only at hi hacc hal
    refine G.sub [(0, .slice a n c), (1, .int .i64 ((most.toNat : Nat) : Int)), (6, .string (str acc)), (7, .int .i64 (i : Int))] (Sub.cons rfl (Sub.cons rfl (Sub.cons rfl (Sub.cons rfl (Sub.nil _))))) ?_
    refine G.seq ?_
    refine G.seq ?_
    refine G.region ?_
    refine L.val rfl rfl (R.mv rfl) ?_
    refine L.val rfl rfl (R.mv rfl) ?_
    refine L.val rfl rfl (R.lenS rfl) ?_
    refine L.val rfl rfl (R.lss rfl rfl) ?_
    refine L.nil ?_
    refine N.seq ?_
    refine G.condP rfl (fun h1 => ?_) (fun h1 => ?_)
    · have hil : i < l.length := by omega
      have hdr := List.drop_eq_getElem_cons hil
      obtain ⟨p, hp, hcl⟩ := hb.at i hil
      have hnb := l[i].toNat_lt
      refine G.skip ?_
      refine N.seq ?_
      refine G.block ?_
      refine G.seq ?_
      refine G.region ?_
      refine L.val rfl rfl (R.mv rfl) ?_
      refine L.val rfl rfl (R.mv rfl) ?_
      refine L.val rfl rfl (R.idx rfl rfl (by omega) (by omega) p hp) ?_
      refine L.val rfl rfl (R.ld rfl (cell?_ext0' hcl E)) ?_
      refine L.val rfl rfl (R.conv rfl _ (wrap_i64 (by omega))) ?_
      refine L.val rfl rfl (R.as rfl) ?_
      refine L.nil ?_
      refine N.seq ?_
      refine G.seq ?_
      refine G.region ?_
      refine L.val rfl rfl (R.as rfl) ?_
      refine L.nil ?_
      refine N.seq ?_
      refine G.seq ?_
      refine G.seq ?_
      refine G.region ?_
      refine L.val rfl rfl (R.mv rfl) ?_
      refine L.val rfl rfl (R.gtr rfl rfl) ?_
      refine L.nil ?_
      refine N.seq ?_
      refine G.condP rfl (fun h2 => ?_) (fun h2 => ?_)
      · refine G.seq ?_
        refine G.seq ?_
        refine G.region ?_
        refine L.val rfl rfl (R.mv rfl) ?_
        refine L.val rfl rfl (R.add rfl rfl (by omega)) ?_
        refine L.val rfl rfl (R.mv rfl) ?_
        refine L.val rfl rfl (R.lenS rfl) ?_
        refine L.val rfl rfl (R.geq rfl rfl) ?_
        refine L.nil ?_
        refine N.seq ?_
        refine G.condP rfl (fun h3 => ?_) (fun h3 => ?_)
        · have hpc : pieceF (l.drop i) = none := by rw [hdr, List.drop_of_length_le (by omega)]; exact pieceF_hi0 _ (by omega)
          rw [growN_bad _ _ _ _ (by intro e; rw [e] at hdr; cases hdr) (Nat.le_refl _) hpc] at hacc
          refine G.seq ?_
          refine G.region ?_
          refine L.val rfl rfl (R.as rfl) ?_
          refine L.val rfl rfl (R.as rfl) ?_
          refine L.nil ?_
          refine N.seq ?_
          refine G.ret2 rfl rfl rfl ?_
          rw [← hacc]; exact ⟨rfl, E⟩
        · have hi1 : i + 1 < l.length := by omega
          have hdr1 := List.drop_eq_getElem_cons hi1
          have hpc : pieceF (l.drop i) = some (List.replicate (l[i].toNat - 125) l[i + 1], l.drop (i + 2)) := by rw [hdr, hdr1]; exact pieceF_hi _ (by omega) _ _
          have hone : (l.drop (i + 1)).take 1 = [l[i + 1]] := by rw [hdr1, List.take_succ_cons, List.take_zero]
          have hb1 := hb.sub (i + 1) c 1 (by omega) (by omega)
          refine G.skip ?_
          refine N.seq ?_
          refine G.seq ?_
          refine G.seq ?_
          refine G.region ?_
          refine L.val rfl rfl (R.as rfl) ?_
          refine L.nil ?_
          refine N.seq ?_
          refine G.block ?_
          refine G.loop (X := Nat) (fun k => [(0, .slice a n c), (1, .int .i64 ((most.toNat : Nat) : Int)), (6, .string (str acc)), (7, .int .i64 (i : Int)), (8, .int .i64 (l[i].toNat : Int)), (9, .string (str (List.replicate k l[i + 1]))), (10, .int .i64 (k : Int))]) (fun k w' => k ≤ l[i].toNat - 125 ∧ Ext [] w w') (fun k => l[i].toNat - k) (0) (Sub.cons rfl (Sub.cons rfl (Sub.cons rfl (Sub.cons rfl (Sub.cons rfl (Sub.cons rfl (Sub.cons rfl (Sub.nil _)))))))) ⟨Nat.zero_le _, E⟩ ?_
          rintro k w2 ⟨hk, E⟩
          refine G.seq ?_
          refine G.seq ?_
          refine G.region ?_
          refine L.val rfl rfl (R.mv rfl) ?_
          refine L.val rfl rfl (R.mv rfl) ?_
          refine L.val rfl rfl (R.sub' rfl rfl (by omega)) ?_
          refine L.val rfl rfl (R.lss rfl rfl) ?_
          refine L.nil ?_
          refine N.seq ?_
          refine G.condP rfl (fun h4 => ?_) (fun h4 => ?_)
          · refine G.skip ?_
            refine N.seq ?_
            refine G.seq ?_
            refine G.block ?_
            refine G.region ?_
            refine L.val rfl rfl (R.mv rfl) ?_
            refine L.val rfl rfl (R.mv rfl) ?_
            refine L.val rfl rfl (R.mv rfl) ?_
            refine L.val rfl rfl (R.add rfl rfl (by omega)) ?_
            refine L.val rfl rfl (R.mv rfl) ?_
            refine L.val rfl rfl (R.add rfl rfl (by omega)) ?_
            refine L.val rfl rfl (R.slLH rfl rfl rfl (by omega) (by omega) (by omega)) ?_
            refine L.val rfl rfl (R.bytesStr rfl (hb1.ext0 E).cells (by rw [hone]; simp; omega)) ?_
            refine L.val rfl rfl (R.addStr rfl rfl (by rw [hone]; simp; omega)) ?_
            refine L.be 43 rfl (show Value.string (str (List.replicate k l[i + 1] ++ (l.drop (i + 1)).take 1)) = .string (str (List.replicate (k + 1) l[i + 1])) by rw [hone, ← List.replicate_succ']) ?_
            refine L.val rfl rfl (R.as rfl) ?_
            refine L.nil ?_
            refine N.block ?_
            refine N.seq ?_
            refine G.region ?_
            refine L.val rfl rfl (R.mv rfl) ?_
            refine L.val rfl rfl (R.add rfl rfl (by omega)) ?_
            refine L.val rfl rfl (R.as rfl) ?_
            refine L.nil ?_
            exact N.again (k + 1) (by omega) (Sub.cons rfl (Sub.cons rfl (Sub.cons rfl (Sub.cons rfl (Sub.cons rfl (Sub.cons rfl (Sub.cons rfl (Sub.nil _)))))))) ⟨by omega, E⟩
          · have hk2 : k = l[i].toNat - 125 := by omega
            rw [← hk2] at hpc
            have hlen : (List.replicate k l[i + 1]).length = k := List.length_replicate
            generalize List.replicate k l[i + 1] = pp at *
            refine G.exit _ rfl ?_
            refine N.seq ?_
            refine G.region ?_
            refine L.val rfl rfl (R.mv rfl) ?_
            refine L.val rfl rfl (R.add rfl rfl (by omega)) ?_
            refine L.val rfl rfl (R.as rfl) ?_
            refine L.nil ?_
            refine N.seq ?_
            refine G.seq ?_
            refine G.seq ?_
            refine G.region ?_
            refine L.val rfl rfl (R.mv rfl) ?_
            refine L.val rfl rfl (R.lenStr rfl) ?_
            refine L.val rfl rfl (R.mv rfl) ?_
            refine L.val rfl rfl (R.lenStr rfl) ?_
            have hs1 : (str acc).size = acc.length := str_size _
            have hs2 := str_size
            refine L.val rfl rfl (R.add rfl rfl (by rw [str_size, str_size]; omega)) ?_
            refine L.val rfl rfl (R.mv rfl) ?_
            refine L.val rfl rfl (R.gtr rfl rfl) ?_
            refine L.nil ?_
            refine N.seq ?_
            refine G.condP rfl (fun h6 => ?_) (fun h6 => ?_)
            · rw [str_size, str_size] at h6
              rw [growN_step _ _ _ _ _ _ (Nat.le_refl _) hpc, if_pos (by simp at hlen h6 ⊢; omega)] at hacc
              refine G.seq ?_
              refine G.region ?_
              refine L.val rfl rfl (R.as rfl) ?_
              refine L.val rfl rfl (R.as rfl) ?_
              refine L.nil ?_
              refine N.seq ?_
              refine G.ret2 rfl rfl rfl ?_
              rw [← hacc]; exact ⟨rfl, E⟩
            · rw [str_size, str_size] at h6
              refine G.skip ?_
              refine N.seq ?_
              refine G.region ?_
              refine L.val rfl rfl (R.mv rfl) ?_
              refine L.val rfl rfl (R.mv rfl) ?_
              refine L.val rfl rfl (R.addStr rfl rfl (by omega)) ?_
              refine L.val rfl rfl (R.as rfl) ?_
              refine L.nil ?_
              refine N.block ?_
              exact N.again (X := Nat × List UInt8) (i + 2, acc ++ pp) (by show n - (i + 2) < n - i; omega) (Sub.cons rfl (Sub.cons rfl (Sub.cons rfl (Sub.cons rfl (Sub.nil _))))) ⟨by show i + 2 ≤ n; omega, by show growN _ (l.drop (i + 2)).length (acc ++ _) (l.drop (i + 2)) = _; rw [← hacc, growN_step _ _ _ _ _ _ (Nat.le_refl _) hpc, if_neg (by simp at hlen h6 ⊢; omega)], by show (acc ++ _).length ≤ 130 * (i + 2); rw [List.length_append]; omega, E⟩
      · refine G.seq ?_
        refine G.seq ?_
        refine G.region ?_
        refine L.val rfl rfl (R.mv rfl) ?_
        refine L.val rfl rfl (R.mv rfl) ?_
        refine L.val rfl rfl (R.add rfl rfl (by omega)) ?_
        refine L.val rfl rfl (R.add rfl rfl (by omega)) ?_
        refine L.val rfl rfl (R.mv rfl) ?_
        refine L.val rfl rfl (R.lenS rfl) ?_
        refine L.val rfl rfl (R.geq rfl rfl) ?_
        refine L.nil ?_
        refine N.seq ?_
        refine G.condP rfl (fun h5 => ?_) (fun h5 => ?_)
        · have hpc : pieceF (l.drop i) = none := by rw [hdr, pieceF_lo _ (by omega), if_neg (by rw [List.length_drop]; omega)]
          rw [growN_bad _ _ _ _ (by intro e; rw [e] at hdr; cases hdr) (Nat.le_refl _) hpc] at hacc
          refine G.seq ?_
          refine G.region ?_
          refine L.val rfl rfl (R.as rfl) ?_
          refine L.val rfl rfl (R.as rfl) ?_
          refine L.nil ?_
          refine N.seq ?_
          refine G.ret2 rfl rfl rfl ?_
          rw [← hacc]; exact ⟨rfl, E⟩
        · have hpc : pieceF (l.drop i) = some ((l.drop (i + 1)).take (l[i].toNat + 1), l.drop (i + (l[i].toNat + 2))) := by rw [hdr, pieceF_lo _ (by omega), if_pos (by rw [List.length_drop]; omega), List.drop_drop, show i + 1 + (l[i].toNat + 1) = i + (l[i].toNat + 2) by omega]
          have hb1 := hb.sub (i + 1) c (l[i].toNat + 1) (by omega) (by omega)
          have hlen : ((l.drop (i + 1)).take (l[i].toNat + 1)).length = l[i].toNat + 1 := by rw [List.length_take, List.length_drop]; omega
          refine G.skip ?_
          refine N.seq ?_
          refine G.seq ?_
          refine G.region ?_
          refine L.val rfl rfl (R.mv rfl) ?_
          refine L.val rfl rfl (R.mv rfl) ?_
          refine L.val rfl rfl (R.add rfl rfl (by omega)) ?_
          refine L.val rfl rfl (R.mv rfl) ?_
          refine L.val rfl rfl (R.mv rfl) ?_
          refine L.val rfl rfl (R.add rfl rfl (by omega)) ?_
          refine L.val rfl rfl (R.add rfl rfl (by omega)) ?_
          refine L.val rfl rfl (R.slLH rfl rfl rfl (by omega) (by omega) (by omega)) ?_
          refine L.val rfl rfl (R.bytesStr rfl (hb1.ext0 E).cells (by rw [hlen]; omega)) ?_
          refine L.val rfl rfl (R.as rfl) ?_
          refine L.nil ?_
          refine N.seq ?_
          refine G.region ?_
          refine L.val rfl rfl (R.mv rfl) ?_
          refine L.val rfl rfl (R.mv rfl) ?_
          refine L.val rfl rfl (R.add rfl rfl (by omega)) ?_
          refine L.val rfl rfl (R.add rfl rfl (by omega)) ?_
          refine L.val rfl rfl (R.as rfl) ?_
          refine L.nil ?_
          refine N.seq ?_
          refine G.seq ?_
          refine G.seq ?_
          refine G.region ?_
          refine L.val rfl rfl (R.mv rfl) ?_
          refine L.val rfl rfl (R.lenStr rfl) ?_
          refine L.val rfl rfl (R.mv rfl) ?_
          refine L.val rfl rfl (R.lenStr rfl) ?_
          have hs1 : (str acc).size = acc.length := str_size _
          have hs2 := str_size
          refine L.val rfl rfl (R.add rfl rfl (by rw [str_size, str_size]; omega)) ?_
          refine L.val rfl rfl (R.mv rfl) ?_
          refine L.val rfl rfl (R.gtr rfl rfl) ?_
          refine L.nil ?_
          refine N.seq ?_
          refine G.condP rfl (fun h6 => ?_) (fun h6 => ?_)
          · rw [str_size, str_size] at h6
            rw [growN_step _ _ _ _ _ _ (Nat.le_refl _) hpc, if_pos (by simp at hlen h6 ⊢; omega)] at hacc
            refine G.seq ?_
            refine G.region ?_
            refine L.val rfl rfl (R.as rfl) ?_
            refine L.val rfl rfl (R.as rfl) ?_
            refine L.nil ?_
            refine N.seq ?_
            refine G.ret2 rfl rfl rfl ?_
            rw [← hacc]; exact ⟨rfl, E⟩
          · rw [str_size, str_size] at h6
            refine G.skip ?_
            refine N.seq ?_
            refine G.region ?_
            refine L.val rfl rfl (R.mv rfl) ?_
            refine L.val rfl rfl (R.mv rfl) ?_
            refine L.val rfl rfl (R.addStr rfl rfl (by omega)) ?_
            refine L.val rfl rfl (R.as rfl) ?_
            refine L.nil ?_
            refine N.block ?_
            exact N.again (X := Nat × List UInt8) (i + (l[i].toNat + 2), acc ++ (l.drop (i + 1)).take (l[i].toNat + 1)) (by show n - (i + (l[i].toNat + 2)) < n - i; omega) (Sub.cons rfl (Sub.cons rfl (Sub.cons rfl (Sub.cons rfl (Sub.nil _))))) ⟨by show i + (l[i].toNat + 2) ≤ n; omega, by show growN _ (l.drop (i + (l[i].toNat + 2))).length (acc ++ _) (l.drop (i + (l[i].toNat + 2))) = _; rw [← hacc, growN_step _ _ _ _ _ _ (Nat.le_refl _) hpc, if_neg (by simp at hlen h6 ⊢; omega)], by show (acc ++ _).length ≤ 130 * (i + (l[i].toNat + 2)); rw [List.length_append]; omega, E⟩
    · have hin : i = l.length := by omega
      rw [hin, List.drop_length, growN_nil] at hacc
      refine G.exit _ rfl ?_
      refine N.seq ?_
      refine G.seq ?_
      refine G.region ?_
      refine L.val rfl rfl (R.mv rfl) ?_
      refine L.val rfl rfl (R.as rfl) ?_
      refine L.val rfl rfl (R.as rfl) ?_
      refine L.nil ?_
      refine N.seq ?_
      refine G.ret2 rfl rfl rfl ?_
      rw [← hacc]; exact ⟨rfl, E⟩

end Go.Proofs.Yteaihincmfbblaa
/-
  The walks of package patch.
-/
set_option linter.unusedVariables false
set_option linter.unusedSimpArgs false
set_option maxRecDepth 4000
namespace Go.Proofs.Yteaihincmfbblaa
open Go Brv Brv.Pack Brv.Shrink Brv.Patch
theorem strs_one (x : List (List UInt8)) : ∀ u ∈ x.map (fun d => Value.string (str d)), u.oneCell' = true := fun u hu => by obtain ⟨v, _, rfl⟩ := List.mem_map.1 hu; rfl
structure RpS where
  i : Nat
  l : List UInt8
  last : Int
  ps : List (Nat × List UInt8)
  ka : Option Addr
  kc : Nat
  da : Option Addr
  dc : Nat
def grown (ps : List (Nat × List UInt8)) : List (List UInt8) := ps.map fun k => (growF 64 k.2).1
theorem grown_app (a b : List (Nat × List UInt8)) : grown (a ++ b) = grown a ++ grown b := by simp [grown]

set_option maxHeartbeats 2000000 in
theorem refparse_no (a : Option Addr) (n c : Nat) (l : List UInt8) (hc : n ≤ c) (hn : n ≤ 1000000) (hpf : parseF l = none) : SpecS Try.prog 15 [.slice a n c] [bs a n l] (fun v H' => ∃ vs : List Value, vs.length = 5 ∧ (∀ u ∈ vs, u.oneCell' = true) ∧ v = .tuple #[.agg vs.toArray, .bool false] ∧ H' = []) := by
  refine SpecS.enter Try.func15 rfl 135 rfl (Nat.le_of_ble_eq_true rfl) (fun o => ?_)
  refine SG.fact (fun w9 F9 S9 s => (s.bs (a := a) (n := n) (l := l) (by repeat (first | exact Sel.keep | exact Sel.here | apply Sel.there))).len) (fun hf9 => ?_)
  have hln := hf9; clear hf9
  refine SG.seq ?_
  refine SG.region ?_
  refine SL.step rfl rfl (CS.alloc [.int .i64 0, .string ByteArray.empty, .string ByteArray.empty, .slice none 0 0, .slice none 0 0] rfl) ?_
  rintro _ _ ⟨b2, rfl, rfl⟩
  refine SL.val rfl rfl (fun w9 F9 S9 s => R.as rfl) ?_
  refine SL.nil ?_
  refine SN.seq ?_
  refine SG.seq ?_
  refine SG.seq ?_
  refine SG.region ?_
  refine SL.val rfl rfl (fun w9 F9 S9 s => R.mv rfl) ?_
  refine SL.val rfl rfl (fun w9 F9 S9 s => R.lenS rfl) ?_
  refine SL.val rfl rfl (fun w9 F9 S9 s => R.lss rfl rfl) ?_
  refine SL.val rfl rfl (fun w9 F9 S9 s => R.mv rfl) ?_
  refine SL.caseP 16 rfl (fun hg1_3 => ?_) (fun hg1_3 => ?_)
  · refine SL.pass rfl rfl ?_
    refine SL.pass rfl rfl ?_
    refine SL.pass rfl rfl ?_
    refine SL.pass rfl rfl ?_
    first | refine SL.val rfl rfl (fun w9 F9 S9 s => R.pickT rfl rfl) ?_ | refine SL.val rfl rfl (fun w9 F9 S9 s => R.pickF rfl rfl) ?_
    refine SL.val rfl rfl (fun w9 F9 S9 s => R.mv rfl) ?_
    refine SL.pass rfl rfl ?_
    refine SL.pass rfl rfl ?_
    refine SL.pass rfl rfl ?_
    refine SL.pass rfl rfl ?_
    first | refine SL.val rfl rfl (fun w9 F9 S9 s => R.pickT rfl rfl) ?_ | refine SL.val rfl rfl (fun w9 F9 S9 s => R.pickF rfl rfl) ?_
    refine SL.nil ?_
    refine SN.seq ?_
    refine SG.condT rfl ?_
    refine SG.seq ?_
    refine SG.region ?_
    refine SL.val rfl rfl (fun w9 F9 S9 s => R.build (cs := [.int .i64 0, .string ByteArray.empty, .string ByteArray.empty, .slice none 0 0, .slice none 0 0].toArray) rfl rfl) ?_
    refine SL.step0 rfl (CS.stA rfl rfl (by repeat (first | exact Sel.keep | exact Sel.here | apply Sel.there)) (by rfl) (by rfl) (by intro u hu; simp only [List.mem_cons, List.not_mem_nil, or_false] at hu; rcases hu with rfl | rfl | rfl | rfl | rfl <;> rfl)) ?_
    rintro _ _ rfl
    refine SL.val rfl rfl (fun w9 F9 S9 s => R.as rfl) ?_
    refine SL.nil ?_
    refine SN.seq ?_
    exact SG.retCT rfl rfl rfl (by repeat (first | exact Sel.keep | exact Sel.here | apply Sel.there)) (by rfl) (Imp.sels Sels.nil) (⟨_, rfl, by intro u hu; simp only [List.mem_cons, List.not_mem_nil, or_false] at hu; rcases hu with rfl | rfl | rfl | rfl | rfl <;> rfl, rfl, rfl⟩)
  · have h22 : 22 ≤ l.length := by omega
    obtain ⟨x0, hx0⟩ : ∃ x, l[0]? = some x := ⟨_, List.getElem?_eq_getElem (by omega)⟩
    obtain ⟨x1, hx1⟩ : ∃ x, l[1]? = some x := ⟨_, List.getElem?_eq_getElem (by omega)⟩
    refine SL.fact (fun w9 F9 S9 s => bs_pt (s.bs (a := a) (l := l) (by repeat (first | exact Sel.keep | exact Sel.here | apply Sel.there))) hx0) (fun hf9 => ?_)
    obtain ⟨q0, hq0⟩ := hf9
    have hmg := magic_of hx0 hx1
    have hu0 := x0.toNat_lt
    have hu1 := x1.toNat_lt
    refine SL.val rfl rfl (fun w9 F9 S9 s => R.mv rfl) ?_
    refine SL.val rfl rfl (fun w9 F9 S9 s => R.idx (i := 0) rfl rfl (by omega) (by omega) q0 hq0) ?_
    refine SL.val rfl rfl (fun w9 F9 S9 s => R.ld (v := .int .u8 (x0.toNat : Int)) rfl (bs_ld (i := 0) (s.bs (a := a) (l := l) (by repeat (first | exact Sel.keep | exact Sel.here | apply Sel.there))) hq0 hx0)) ?_
    refine SL.val rfl rfl (fun w9 F9 S9 s => R.neI rfl rfl) ?_
    first | refine SL.val rfl rfl (fun w9 F9 S9 s => R.pickT rfl rfl) ?_ | refine SL.val rfl rfl (fun w9 F9 S9 s => R.pickF rfl rfl) ?_
    refine SL.val rfl rfl (fun w9 F9 S9 s => R.mv rfl) ?_
    refine SL.caseP 22 rfl (fun hg1_9 => ?_) (fun hg1_9 => ?_)
    · refine SL.pass rfl rfl ?_
      refine SL.pass rfl rfl ?_
      refine SL.pass rfl rfl ?_
      refine SL.pass rfl rfl ?_
      first | refine SL.val rfl rfl (fun w9 F9 S9 s => R.pickT rfl rfl) ?_ | refine SL.val rfl rfl (fun w9 F9 S9 s => R.pickF rfl rfl) ?_
      refine SL.nil ?_
      refine SN.seq ?_
      refine SG.condT rfl ?_
      refine SG.seq ?_
      refine SG.region ?_
      refine SL.val rfl rfl (fun w9 F9 S9 s => R.build (cs := [.int .i64 0, .string ByteArray.empty, .string ByteArray.empty, .slice none 0 0, .slice none 0 0].toArray) rfl rfl) ?_
      refine SL.step0 rfl (CS.stA rfl rfl (by repeat (first | exact Sel.keep | exact Sel.here | apply Sel.there)) (by rfl) (by rfl) (by intro u hu; simp only [List.mem_cons, List.not_mem_nil, or_false] at hu; rcases hu with rfl | rfl | rfl | rfl | rfl <;> rfl)) ?_
      rintro _ _ rfl
      refine SL.val rfl rfl (fun w9 F9 S9 s => R.as rfl) ?_
      refine SL.nil ?_
      refine SN.seq ?_
      exact SG.retCT rfl rfl rfl (by repeat (first | exact Sel.keep | exact Sel.here | apply Sel.there)) (by rfl) (Imp.sels Sels.nil) (⟨_, rfl, by intro u hu; simp only [List.mem_cons, List.not_mem_nil, or_false] at hu; rcases hu with rfl | rfl | rfl | rfl | rfl <;> rfl, rfl, rfl⟩)
    · refine SL.val rfl rfl (fun w9 F9 S9 s => R.mv rfl) ?_
      refine SL.val rfl rfl (fun w9 F9 S9 s => R.idx (i := 1) rfl rfl (by omega) (by omega) q0 hq0) ?_
      refine SL.val rfl rfl (fun w9 F9 S9 s => R.ld (v := .int .u8 (x1.toNat : Int)) rfl (bs_ld (i := 1) (s.bs (a := a) (l := l) (by repeat (first | exact Sel.keep | exact Sel.here | apply Sel.there))) hq0 hx1)) ?_
      refine SL.val rfl rfl (fun w9 F9 S9 s => R.neI rfl rfl) ?_
      first | refine SL.val rfl rfl (fun w9 F9 S9 s => R.pickT rfl rfl) ?_ | refine SL.val rfl rfl (fun w9 F9 S9 s => R.pickF rfl rfl) ?_
      refine SL.nil ?_
      refine SN.seq ?_
      refine SG.condP rfl (fun h0 => ?_) (fun h0 => ?_)
      · refine SG.seq ?_
        refine SG.region ?_
        refine SL.val rfl rfl (fun w9 F9 S9 s => R.build (cs := [.int .i64 0, .string ByteArray.empty, .string ByteArray.empty, .slice none 0 0, .slice none 0 0].toArray) rfl rfl) ?_
        refine SL.step0 rfl (CS.stA rfl rfl (by repeat (first | exact Sel.keep | exact Sel.here | apply Sel.there)) (by rfl) (by rfl) (by intro u hu; simp only [List.mem_cons, List.not_mem_nil, or_false] at hu; rcases hu with rfl | rfl | rfl | rfl | rfl <;> rfl)) ?_
        rintro _ _ rfl
        refine SL.val rfl rfl (fun w9 F9 S9 s => R.as rfl) ?_
        refine SL.nil ?_
        refine SN.seq ?_
        exact SG.retCT rfl rfl rfl (by repeat (first | exact Sel.keep | exact Sel.here | apply Sel.there)) (by rfl) (Imp.sels Sels.nil) (⟨_, rfl, by intro u hu; simp only [List.mem_cons, List.not_mem_nil, or_false] at hu; rcases hu with rfl | rfl | rfl | rfl | rfl <;> rfl, rfl, rfl⟩)
      · have hm1 : (numF l 0 2).1 = 45229 := by omega
        have hQ := qF_long h22
        have hu4 := unroot_long (l := l.drop 4) (by rw [List.length_drop]; omega)
        have hu12 := unroot_long (l := l.drop 12) (by rw [List.length_drop]; omega)
        have l2 : (l.drop 2).length = l.length - 2 := List.length_drop
        have l4 : (l.drop 4).length = l.length - 4 := List.length_drop
        have l20 : (l.drop 20).length = l.length - 20 := List.length_drop
        have e2 : numF (l.drop 2) 0 2 = ((Pack.num ((l.drop 2).take 2)), l.drop 4, 0) := by have := numF_long (l := l.drop 2) (k := 2) (by decide) (by decide) (by omega); rw [List.drop_drop] at this; exact this
        have e20 : numF (l.drop 20) 0 2 = ((Pack.num ((l.drop 20).take 2)), l.drop 22, 0) := by have := numF_long (l := l.drop 20) (k := 2) (by decide) (by decide) (by omega); rw [List.drop_drop] at this; exact this
        have hc6 : (Pack.num ((l.drop 20).take 2)) < 65536 := by have := numF_lt (l.drop 20) 0 2 (by decide); rw [show ((2 : Nat) : Int) = 2 from rfl, e20] at this; exact this
        refine SG.skip ?_
        refine SN.seq ?_
        refine SG.seq ?_
        refine SG.region ?_
        refine SL.val rfl rfl (fun w9 F9 S9 s => R.mv rfl) ?_
        refine SL.val rfl rfl (fun w9 F9 S9 s => R.slL rfl rfl (by decide) (by omega)) ?_
        refine SL.val rfl rfl (fun w9 F9 S9 s => R.strB (l := l.drop 2) rfl ((s.bs (a := a) (l := l) (by repeat (first | exact Sel.keep | exact Sel.here | apply Sel.there))).drop 2 c (by omega) (by omega))) ?_
        refine SL.val rfl rfl (fun w9 F9 S9 s => R.build (cs := #[.string (str (l.drop 2)), .int .i64 0]) rfl rfl) ?_
        refine SL.step rfl rfl (CS.boxA rfl) ?_
        rintro _ _ ⟨b33, rfl, rfl⟩
        refine SL.val rfl rfl (fun w9 F9 S9 s => R.as rfl) ?_
        refine SL.nil ?_
        refine SN.seq ?_
        refine SG.seq ?_
        refine SG.region ?_
        refine SL.step rfl rfl (CS.alloc [.int .i64 0, .string ByteArray.empty, .string ByteArray.empty, .slice none 0 0, .slice none 0 0] rfl) ?_
        rintro _ _ ⟨b5, rfl, rfl⟩
        refine SL.nil ?_
        refine SN.seq ?_
        refine SG.seq ?_
        refine SG.region ?_
        refine SL.val rfl rfl (fun w9 F9 S9 s => R.mv rfl) ?_
        refine SL.step rfl rfl (CS.call rfl go34 (refNumS b33 (l.drop 2) 0 2 (by omega)) (by repeat (first | exact Sels.nil | apply Sels.cons | exact Sel.keep | exact Sel.here | apply Sel.there))) ?_
        rintro _ _ ⟨_, ⟨rfl, rfl⟩, rfl⟩
        refine SL.n1 ?_
        rw [e2]
        dsimp only
        refine SL.val rfl rfl (fun w9 F9 S9 s => R.fld rfl) ?_
        refine SL.step0 rfl (CS.st rfl rfl (show Sel _ (blk b5 _ _) _ from (by repeat (first | exact Sel.keep | exact Sel.here | apply Sel.there))) (by repeat (first | exact SetAt.here | apply SetAt.there)) rfl) ?_
        rintro _ _ rfl
        refine SL.nil ?_
        refine SN.seq ?_
        refine SG.seq ?_
        refine SG.region ?_
        refine SL.val rfl rfl (fun w9 F9 S9 s => R.mv rfl) ?_
        refine SL.val rfl rfl (fun w9 F9 S9 s => R.nilChk rfl) ?_
        refine SL.val rfl rfl (fun w9 F9 S9 s => R.fld rfl) ?_
        refine SL.val rfl rfl (fun w9 F9 S9 s => R.ldB rfl (s.cel (by repeat (first | exact SelB.blk | exact SelB.fz | apply SelB.there))) (by rfl)) ?_
        refine SL.val rfl rfl (fun w9 F9 S9 s => R.slStrH rfl rfl (by decide) (by omega)) ?_
        refine SL.be 41 rfl (congrArg (fun q => Value.string (str q)) (show _ = ((l.drop 4).take 8) from rfl)) ?_
        refine SL.val rfl rfl (fun w9 F9 S9 s => R.fld rfl) ?_
        refine SL.step0 rfl (CS.st rfl rfl (show Sel _ (blk b5 _ _) _ from (by repeat (first | exact Sel.keep | exact Sel.here | apply Sel.there))) (by repeat (first | exact SetAt.here | apply SetAt.there)) rfl) ?_
        rintro _ _ rfl
        refine SL.nil ?_
        refine SN.seq ?_
        refine SG.seq ?_
        refine SG.region ?_
        refine SL.val rfl rfl (fun w9 F9 S9 s => R.mv rfl) ?_
        refine SL.val rfl rfl (fun w9 F9 S9 s => R.nilChk rfl) ?_
        refine SL.val rfl rfl (fun w9 F9 S9 s => R.fld rfl) ?_
        refine SL.val rfl rfl (fun w9 F9 S9 s => R.ldB rfl (s.cel (by repeat (first | exact SelB.blk | exact SelB.fz | apply SelB.there))) (by rfl)) ?_
        refine SL.val rfl rfl (fun w9 F9 S9 s => R.slStr rfl rfl rfl (by decide) (by decide) (by omega)) ?_
        refine SL.be 47 rfl (congrArg (fun q => Value.string (str q)) (show _ = ((l.drop 12).take 8) by first | (rw [show (8 : Int).toNat = 8 from rfl, show (16 : Int).toNat = 16 from rfl, List.drop_drop]; done) | (rw [show (8 : Int).toNat = 8 from rfl, show (16 : Int).toNat = 16 from rfl, List.drop_take, List.drop_drop]))) ?_
        refine SL.val rfl rfl (fun w9 F9 S9 s => R.fld rfl) ?_
        refine SL.step0 rfl (CS.st rfl rfl (show Sel _ (blk b5 _ _) _ from (by repeat (first | exact Sel.keep | exact Sel.here | apply Sel.there))) (by repeat (first | exact SetAt.here | apply SetAt.there)) rfl) ?_
        rintro _ _ rfl
        refine SL.nil ?_
        refine SN.seq ?_
        refine SG.seq ?_
        refine SG.region ?_
        refine SL.val rfl rfl (fun w9 F9 S9 s => R.mv rfl) ?_
        refine SL.val rfl rfl (fun w9 F9 S9 s => R.mv rfl) ?_
        refine SL.val rfl rfl (fun w9 F9 S9 s => R.nilChk rfl) ?_
        refine SL.val rfl rfl (fun w9 F9 S9 s => R.fld rfl) ?_
        refine SL.val rfl rfl (fun w9 F9 S9 s => R.ldB rfl (s.cel (by repeat (first | exact SelB.blk | exact SelB.fz | apply SelB.there))) (by rfl)) ?_
        refine SL.val rfl rfl (fun w9 F9 S9 s => R.slStrL rfl rfl (by decide) (by omega)) ?_
        refine SL.be 54 rfl (congrArg (fun q => Value.string (str q)) (show _ = l.drop 20 by rw [show (16 : Int).toNat = 16 from rfl, List.drop_drop])) ?_
        refine SL.val rfl rfl (fun w9 F9 S9 s => R.nilChk rfl) ?_
        refine SL.val rfl rfl (fun w9 F9 S9 s => R.fld rfl) ?_
        refine SL.step0 rfl (CS.st rfl rfl (show Sel _ (blk b33 _ _) _ from (by repeat (first | exact Sel.keep | exact Sel.here | apply Sel.there))) (by repeat (first | exact SetAt.here | apply SetAt.there)) rfl) ?_
        rintro _ _ rfl
        refine SL.nil ?_
        refine SN.seq ?_
        refine SG.seq ?_
        refine SG.region ?_
        refine SL.val rfl rfl (fun w9 F9 S9 s => R.mv rfl) ?_
        refine SL.step rfl rfl (CS.call rfl go34 (refNumS b33 (l.drop 20) 0 2 (by omega)) (by repeat (first | exact Sels.nil | apply Sels.cons | exact Sel.keep | exact Sel.here | apply Sel.there))) ?_
        rintro _ _ ⟨_, ⟨rfl, rfl⟩, rfl⟩
        refine SL.n1 ?_
        rw [e20]
        dsimp only
        refine SL.val rfl rfl (fun w9 F9 S9 s => R.as rfl) ?_
        refine SL.nil ?_
        refine SN.seq ?_
        refine SG.seq ?_
        refine SG.region ?_
        refine SL.val rfl rfl (fun w9 F9 S9 s => R.as rfl) ?_
        refine SL.nil ?_
        refine SN.seq ?_
        refine SG.seq ?_
        refine SG.seq ?_
        refine SG.region ?_
        refine SL.val rfl rfl (fun w9 F9 S9 s => R.as rfl) ?_
        refine SL.nil ?_
        refine SN.seq ?_
        refine SG.block ?_
        refine SG.imp (Imp.ownNil 9 1) ?_
        refine SG.imp (Imp.ownNil 3 1) ?_
        refine SG.loop (X := RpS) (fun y => [(2, .pointer (some ⟨b2, 0, none⟩)), (4, .pointer (some ⟨b33, 0, none⟩)), (5, .pointer (some ⟨b5, 0, none⟩)), (6, .int .i64 ((Pack.num ((l.drop 20).take 2)) : Int)), (7, .int .i64 y.last), (8, .int .i64 (y.i : Int))]) (fun y => [blk b33 [.string (str (y.l)), .int .i64 (0)] 87, blk b5 [.int .i64 ((Pack.num ((l.drop 2).take 2)) : Int), .string (str (((l.drop 4).take 8))), .string (str (((l.drop 12).take 8))), .slice y.ka y.ps.length y.kc, .slice y.da y.ps.length y.dc] 41, own 3 1 y.ka (y.ps.length) y.kc (nums ((y.ps).map Prod.fst)), own 9 1 y.da (y.ps.length) y.dc ((grown (y.ps)).map (fun d => Value.string (str d))), blk b2 [.int .i64 0, .string ByteArray.empty, .string ByteArray.empty, .slice none 0 0, .slice none 0 0] 41]) (fun y => y.i ≤ (Pack.num ((l.drop 20).take 2)) ∧ y.ps.length ≤ y.i ∧ y.l.length ≤ l.length ∧ partsF (Pack.num ((l.drop 20).take 2)) (l.drop 22) 0 = (y.ps ++ (partsF ((Pack.num ((l.drop 20).take 2)) - y.i) y.l 0).1, (partsF ((Pack.num ((l.drop 20).take 2)) - y.i) y.l 0).2) ∧ ∀ r, rightF (Pack.num ((l.drop 2).take 2)) (-1) (y.ps ++ r) = rightF (Pack.num ((l.drop 2).take 2)) y.last r) (fun y => (Pack.num ((l.drop 20).take 2)) - y.i) (⟨0, l.drop 22, -1, [], none, 0, none, 0⟩) (Sub.cons rfl (Sub.cons rfl (Sub.cons rfl (Sub.cons rfl (Sub.cons rfl (Sub.cons rfl (Sub.nil _))))))) ((Imp.sels (by repeat (first | exact Sels.nil | apply Sels.cons | exact Sel.keep | exact Sel.here | apply Sel.there)))) (⟨Nat.zero_le _, Nat.le_refl _, by show (l.drop 22).length ≤ _; rw [List.length_drop]; omega, rfl, fun r => rfl⟩) ?_
        rintro ⟨i, ll, last, ps, ka, kc, da, dc⟩ ⟨hi, hpi, hll, hinv, hrt⟩
        dsimp only at hi hpi hll hinv hrt
        show SG _ _ _ _ _ [(2, .pointer (some ⟨b2, 0, none⟩)), (4, .pointer (some ⟨b33, 0, none⟩)), (5, .pointer (some ⟨b5, 0, none⟩)), (6, .int .i64 ((Pack.num ((l.drop 20).take 2)) : Int)), (7, .int .i64 last), (8, .int .i64 (i : Int))] [blk b33 [.string (str (ll)), .int .i64 (0)] 87, blk b5 [.int .i64 ((Pack.num ((l.drop 2).take 2)) : Int), .string (str (((l.drop 4).take 8))), .string (str (((l.drop 12).take 8))), .slice ka ps.length kc, .slice da ps.length dc] 41, own 3 1 ka (ps.length) kc (nums ((ps).map Prod.fst)), own 9 1 da (ps.length) dc ((grown (ps)).map (fun d => Value.string (str d))), blk b2 [.int .i64 0, .string ByteArray.empty, .string ByteArray.empty, .slice none 0 0, .slice none 0 0] 41] _
        refine SG.seq ?_
        refine SG.seq ?_
        refine SG.region ?_
        refine SL.val rfl rfl (fun w9 F9 S9 s => R.mv rfl) ?_
        refine SL.val rfl rfl (fun w9 F9 S9 s => R.mv rfl) ?_
        refine SL.val rfl rfl (fun w9 F9 S9 s => R.lss rfl rfl) ?_
        refine SL.nil ?_
        refine SN.seq ?_
        refine SG.condP rfl (fun h1 => ?_) (fun h1 => ?_)
        · have hcs : (Pack.num ((l.drop 20).take 2)) - i = ((Pack.num ((l.drop 20).take 2)) - (i + 1)) + 1 := by omega
          refine SG.skip ?_
          refine SN.seq ?_
          refine SG.seq ?_
          refine SG.block ?_
          refine SG.seq ?_
          refine SG.region ?_
          refine SL.val rfl rfl (fun w9 F9 S9 s => R.mv rfl) ?_
          refine SL.step rfl rfl (CS.call rfl go34 (refNumS b33 ll 0 2 (by omega)) (by repeat (first | exact Sels.nil | apply Sels.cons | exact Sel.keep | exact Sel.here | apply Sel.there))) ?_
          rintro _ _ ⟨_, ⟨rfl, rfl⟩, rfl⟩
          refine SL.n1 ?_
          obtain ⟨k0, hk0⟩ : ∃ z, z = numF ll 0 2 := ⟨_, rfl⟩
          rw [← hk0]
          have hkl : k0.2.1.length ≤ ll.length := by rw [hk0]; exact numF_length _ _ _
          refine SL.val rfl rfl (fun w9 F9 S9 s => R.as rfl) ?_
          refine SL.nil ?_
          refine SN.seq ?_
          refine SG.seq ?_
          refine SG.region ?_
          refine SL.val rfl rfl (fun w9 F9 S9 s => R.mv rfl) ?_
          refine SL.step rfl rfl (CS.call rfl go35 (refTxtS b33 k0.2.1 k0.2.2 65535 (by omega)) (by repeat (first | exact Sels.nil | apply Sels.cons | exact Sel.keep | exact Sel.here | apply Sel.there))) ?_
          rintro _ _ ⟨_, ⟨rfl, rfl⟩, rfl⟩
          refine SL.n1 ?_
          obtain ⟨t0, ht0⟩ : ∃ z, z = txtF k0.2.1 k0.2.2 65535 := ⟨_, rfl⟩
          rw [← ht0]
          have htl : t0.2.1.length ≤ k0.2.1.length := by rw [ht0]; exact txtF_length _ _ _
          have htx : t0.1.length ≤ 65535 := by rw [ht0]; exact txtF_le _ _ _
          have hst : partsF (Pack.num ((l.drop 20).take 2)) (l.drop 22) 0 = ((ps ++ [(k0.1, t0.1)]) ++ (partsF ((Pack.num ((l.drop 20).take 2)) - (i + 1)) t0.2.1 t0.2.2).1, (partsF ((Pack.num ((l.drop 20).take 2)) - (i + 1)) t0.2.1 t0.2.2).2) := by rw [hinv, hcs, partsF_step, ← hk0, ← ht0, List.append_assoc]; rfl
          refine SL.val rfl rfl (fun w9 F9 S9 s => R.as rfl) ?_
          refine SL.nil ?_
          refine SN.seq ?_
          refine SG.seq ?_
          refine SG.seq ?_
          refine SG.region ?_
          refine SL.val rfl rfl (fun w9 F9 S9 s => R.mv rfl) ?_
          refine SL.val rfl rfl (fun w9 F9 S9 s => R.nilChk rfl) ?_
          refine SL.val rfl rfl (fun w9 F9 S9 s => R.fld rfl) ?_
          refine SL.val rfl rfl (fun w9 F9 S9 s => R.ldB rfl (s.cel (by repeat (first | exact SelB.blk | exact SelB.fz | apply SelB.there))) (by rfl)) ?_
          refine SL.val rfl rfl (fun w9 F9 S9 s => R.neI rfl rfl) ?_
          refine SL.nil ?_
          refine SN.seq ?_
          refine SG.condP rfl (fun h2 => ?_) (fun h2 => ?_)
          · have hno : ¬ okQ (qF l) := fun h9 => by
              have h8 := h9.1
              rw [hQ] at h8
              have h7 : (partsF (Pack.num ((l.drop 20).take 2)) (l.drop 22) 0).2.2 = 0 := h8
              rw [hst, partsF_sticky _ h2] at h7
              exact h2 h7
            refine SG.seq ?_
            refine SG.region ?_
            refine SL.val rfl rfl (fun w9 F9 S9 s => R.build (cs := [.int .i64 0, .string ByteArray.empty, .string ByteArray.empty, .slice none 0 0, .slice none 0 0].toArray) rfl rfl) ?_
            refine SL.step0 rfl (CS.stA rfl rfl (by repeat (first | exact Sel.keep | exact Sel.here | apply Sel.there)) (by rfl) (by rfl) (by intro u hu; simp only [List.mem_cons, List.not_mem_nil, or_false] at hu; rcases hu with rfl | rfl | rfl | rfl | rfl <;> rfl)) ?_
            rintro _ _ rfl
            refine SL.val rfl rfl (fun w9 F9 S9 s => R.as rfl) ?_
            refine SL.nil ?_
            refine SN.seq ?_
            exact SG.retCT rfl rfl rfl (by repeat (first | exact Sel.keep | exact Sel.here | apply Sel.there)) (by rfl) (Imp.sels Sels.nil) (⟨_, rfl, by intro u hu; simp only [List.mem_cons, List.not_mem_nil, or_false] at hu; rcases hu with rfl | rfl | rfl | rfl | rfl <;> rfl, rfl, rfl⟩)
          · have ht0e : t0.2.2 = 0 := by omega
            rw [ht0e] at hst ⊢
            refine SG.skip ?_
            refine SN.seq ?_
            refine SG.seq ?_
            refine SG.region ?_
            refine SL.val rfl rfl (fun w9 F9 S9 s => R.mv rfl) ?_
            refine SL.step rfl rfl (CS.strBytes rfl) ?_
            rintro _ _ ⟨a76, c76, rfl, hc76, rfl⟩
            refine SL.step rfl rfl (CS.callR (φ := fun v => v = .tuple #[.string (str (growF 64 t0.1).1), .int .i64 (growF 64 t0.1).2]) rfl go36 (fun w9 F9 S9 s => refgrow_ok a76 t0.1.length c76 t0.1 64 w9 (s.bs (a := a76) (l := t0.1) (by repeat (first | exact Sel.keep | exact Sel.here | apply Sel.there))) hc76 (by omega))) ?_
            rintro _ _ ⟨rfl, rfl⟩
            refine SL.val rfl rfl (fun w9 F9 S9 s => R.mv rfl) ?_
            refine SL.val rfl rfl (fun w9 F9 S9 s => R.ext rfl rfl) ?_
            refine SL.val rfl rfl (fun w9 F9 S9 s => R.ext rfl rfl) ?_
            refine SL.val rfl rfl (fun w9 F9 S9 s => R.as rfl) ?_
            refine SL.val rfl rfl (fun w9 F9 S9 s => R.as rfl) ?_
            refine SL.nil ?_
            refine SN.seq ?_
            refine SG.seq ?_
            refine SG.seq ?_
            refine SG.region ?_
            refine SL.val rfl rfl (fun w9 F9 S9 s => R.mv rfl) ?_
            refine SL.val rfl rfl (fun w9 F9 S9 s => R.neI rfl rfl) ?_
            refine SL.val rfl rfl (fun w9 F9 S9 s => R.mv rfl) ?_
            refine SL.caseP 82 rfl (fun hg19_2 => ?_) (fun hg19_2 => ?_)
            · have hnk : ¬ okP (Pack.num ((l.drop 2).take 2)) last (k0.1, t0.1) := fun h9 => by have h8 : ((growF 64 t0.1).2 = 0 ∧ (growF 64 t0.1).1.length = 64) ∧ last < (k0.1 : Int) ∧ k0.1 < (Pack.num ((l.drop 2).take 2)) := h9; omega
              have hno : ¬ okQ (qF l) := fun h9 => by
                have h8 := h9.2.2.1
                rw [hQ] at h8
                have h7 : rightF (Pack.num ((l.drop 2).take 2)) (-1) (partsF (Pack.num ((l.drop 20).take 2)) (l.drop 22) 0).1 = true := h8
                rw [hst, List.append_assoc, hrt] at h7
                have h6 : (decide (okP (Pack.num ((l.drop 2).take 2)) last (k0.1, t0.1)) && _) = true := h7
                rw [Bool.and_eq_true, decide_eq_true_eq] at h6
                exact hnk h6.1
              refine SL.pass rfl rfl ?_
              refine SL.pass rfl rfl ?_
              refine SL.pass rfl rfl ?_
              first | refine SL.val rfl rfl (fun w9 F9 S9 s => R.pickT rfl rfl) ?_ | refine SL.val rfl rfl (fun w9 F9 S9 s => R.pickF rfl rfl) ?_
              refine SL.val rfl rfl (fun w9 F9 S9 s => R.mv rfl) ?_
              refine SL.pass rfl rfl ?_
              refine SL.pass rfl rfl ?_
              refine SL.pass rfl rfl ?_
              first | refine SL.val rfl rfl (fun w9 F9 S9 s => R.pickT rfl rfl) ?_ | refine SL.val rfl rfl (fun w9 F9 S9 s => R.pickF rfl rfl) ?_
              refine SL.val rfl rfl (fun w9 F9 S9 s => R.mv rfl) ?_
              refine SL.pass rfl rfl ?_
              refine SL.pass rfl rfl ?_
              refine SL.pass rfl rfl ?_
              refine SL.pass rfl rfl ?_
              first | refine SL.val rfl rfl (fun w9 F9 S9 s => R.pickT rfl rfl) ?_ | refine SL.val rfl rfl (fun w9 F9 S9 s => R.pickF rfl rfl) ?_
              refine SL.nil ?_
              refine SN.seq ?_
              refine SG.condT rfl ?_
              refine SG.seq ?_
              refine SG.region ?_
              refine SL.val rfl rfl (fun w9 F9 S9 s => R.build (cs := [.int .i64 0, .string ByteArray.empty, .string ByteArray.empty, .slice none 0 0, .slice none 0 0].toArray) rfl rfl) ?_
              refine SL.step0 rfl (CS.stA rfl rfl (by repeat (first | exact Sel.keep | exact Sel.here | apply Sel.there)) (by rfl) (by rfl) (by intro u hu; simp only [List.mem_cons, List.not_mem_nil, or_false] at hu; rcases hu with rfl | rfl | rfl | rfl | rfl <;> rfl)) ?_
              rintro _ _ rfl
              refine SL.val rfl rfl (fun w9 F9 S9 s => R.as rfl) ?_
              refine SL.nil ?_
              refine SN.seq ?_
              exact SG.retCT rfl rfl rfl (by repeat (first | exact Sel.keep | exact Sel.here | apply Sel.there)) (by rfl) (Imp.sels Sels.nil) (⟨_, rfl, by intro u hu; simp only [List.mem_cons, List.not_mem_nil, or_false] at hu; rcases hu with rfl | rfl | rfl | rfl | rfl <;> rfl, rfl, rfl⟩)
            · refine SL.val rfl rfl (fun w9 F9 S9 s => R.mv rfl) ?_
              refine SL.val rfl rfl (fun w9 F9 S9 s => R.lenT rfl) ?_
              refine SL.val rfl rfl (fun w9 F9 S9 s => R.neI rfl rfl) ?_
              first | refine SL.val rfl rfl (fun w9 F9 S9 s => R.pickT rfl rfl) ?_ | refine SL.val rfl rfl (fun w9 F9 S9 s => R.pickF rfl rfl) ?_
              refine SL.val rfl rfl (fun w9 F9 S9 s => R.mv rfl) ?_
              refine SL.caseP 87 rfl (fun hg19_7 => ?_) (fun hg19_7 => ?_)
              · have hnk : ¬ okP (Pack.num ((l.drop 2).take 2)) last (k0.1, t0.1) := fun h9 => by have h8 : ((growF 64 t0.1).2 = 0 ∧ (growF 64 t0.1).1.length = 64) ∧ last < (k0.1 : Int) ∧ k0.1 < (Pack.num ((l.drop 2).take 2)) := h9; omega
                have hno : ¬ okQ (qF l) := fun h9 => by
                  have h8 := h9.2.2.1
                  rw [hQ] at h8
                  have h7 : rightF (Pack.num ((l.drop 2).take 2)) (-1) (partsF (Pack.num ((l.drop 20).take 2)) (l.drop 22) 0).1 = true := h8
                  rw [hst, List.append_assoc, hrt] at h7
                  have h6 : (decide (okP (Pack.num ((l.drop 2).take 2)) last (k0.1, t0.1)) && _) = true := h7
                  rw [Bool.and_eq_true, decide_eq_true_eq] at h6
                  exact hnk h6.1
                refine SL.pass rfl rfl ?_
                refine SL.pass rfl rfl ?_
                refine SL.pass rfl rfl ?_
                first | refine SL.val rfl rfl (fun w9 F9 S9 s => R.pickT rfl rfl) ?_ | refine SL.val rfl rfl (fun w9 F9 S9 s => R.pickF rfl rfl) ?_
                refine SL.val rfl rfl (fun w9 F9 S9 s => R.mv rfl) ?_
                refine SL.pass rfl rfl ?_
                refine SL.pass rfl rfl ?_
                refine SL.pass rfl rfl ?_
                refine SL.pass rfl rfl ?_
                first | refine SL.val rfl rfl (fun w9 F9 S9 s => R.pickT rfl rfl) ?_ | refine SL.val rfl rfl (fun w9 F9 S9 s => R.pickF rfl rfl) ?_
                refine SL.nil ?_
                refine SN.seq ?_
                refine SG.condT rfl ?_
                refine SG.seq ?_
                refine SG.region ?_
                refine SL.val rfl rfl (fun w9 F9 S9 s => R.build (cs := [.int .i64 0, .string ByteArray.empty, .string ByteArray.empty, .slice none 0 0, .slice none 0 0].toArray) rfl rfl) ?_
                refine SL.step0 rfl (CS.stA rfl rfl (by repeat (first | exact Sel.keep | exact Sel.here | apply Sel.there)) (by rfl) (by rfl) (by intro u hu; simp only [List.mem_cons, List.not_mem_nil, or_false] at hu; rcases hu with rfl | rfl | rfl | rfl | rfl <;> rfl)) ?_
                rintro _ _ rfl
                refine SL.val rfl rfl (fun w9 F9 S9 s => R.as rfl) ?_
                refine SL.nil ?_
                refine SN.seq ?_
                exact SG.retCT rfl rfl rfl (by repeat (first | exact Sel.keep | exact Sel.here | apply Sel.there)) (by rfl) (Imp.sels Sels.nil) (⟨_, rfl, by intro u hu; simp only [List.mem_cons, List.not_mem_nil, or_false] at hu; rcases hu with rfl | rfl | rfl | rfl | rfl <;> rfl, rfl, rfl⟩)
              · refine SL.val rfl rfl (fun w9 F9 S9 s => R.mv rfl) ?_
                refine SL.val rfl rfl (fun w9 F9 S9 s => R.mv rfl) ?_
                refine SL.val rfl rfl (fun w9 F9 S9 s => R.leq rfl rfl) ?_
                first | refine SL.val rfl rfl (fun w9 F9 S9 s => R.pickT rfl rfl) ?_ | refine SL.val rfl rfl (fun w9 F9 S9 s => R.pickF rfl rfl) ?_
                refine SL.val rfl rfl (fun w9 F9 S9 s => R.mv rfl) ?_
                refine SL.caseP 92 rfl (fun hg19_12 => ?_) (fun hg19_12 => ?_)
                · have hnk : ¬ okP (Pack.num ((l.drop 2).take 2)) last (k0.1, t0.1) := fun h9 => by have h8 : ((growF 64 t0.1).2 = 0 ∧ (growF 64 t0.1).1.length = 64) ∧ last < (k0.1 : Int) ∧ k0.1 < (Pack.num ((l.drop 2).take 2)) := h9; omega
                  have hno : ¬ okQ (qF l) := fun h9 => by
                    have h8 := h9.2.2.1
                    rw [hQ] at h8
                    have h7 : rightF (Pack.num ((l.drop 2).take 2)) (-1) (partsF (Pack.num ((l.drop 20).take 2)) (l.drop 22) 0).1 = true := h8
                    rw [hst, List.append_assoc, hrt] at h7
                    have h6 : (decide (okP (Pack.num ((l.drop 2).take 2)) last (k0.1, t0.1)) && _) = true := h7
                    rw [Bool.and_eq_true, decide_eq_true_eq] at h6
                    exact hnk h6.1
                  refine SL.pass rfl rfl ?_
                  refine SL.pass rfl rfl ?_
                  refine SL.pass rfl rfl ?_
                  refine SL.pass rfl rfl ?_
                  first | refine SL.val rfl rfl (fun w9 F9 S9 s => R.pickT rfl rfl) ?_ | refine SL.val rfl rfl (fun w9 F9 S9 s => R.pickF rfl rfl) ?_
                  refine SL.nil ?_
                  refine SN.seq ?_
                  refine SG.condT rfl ?_
                  refine SG.seq ?_
                  refine SG.region ?_
                  refine SL.val rfl rfl (fun w9 F9 S9 s => R.build (cs := [.int .i64 0, .string ByteArray.empty, .string ByteArray.empty, .slice none 0 0, .slice none 0 0].toArray) rfl rfl) ?_
                  refine SL.step0 rfl (CS.stA rfl rfl (by repeat (first | exact Sel.keep | exact Sel.here | apply Sel.there)) (by rfl) (by rfl) (by intro u hu; simp only [List.mem_cons, List.not_mem_nil, or_false] at hu; rcases hu with rfl | rfl | rfl | rfl | rfl <;> rfl)) ?_
                  rintro _ _ rfl
                  refine SL.val rfl rfl (fun w9 F9 S9 s => R.as rfl) ?_
                  refine SL.nil ?_
                  refine SN.seq ?_
                  exact SG.retCT rfl rfl rfl (by repeat (first | exact Sel.keep | exact Sel.here | apply Sel.there)) (by rfl) (Imp.sels Sels.nil) (⟨_, rfl, by intro u hu; simp only [List.mem_cons, List.not_mem_nil, or_false] at hu; rcases hu with rfl | rfl | rfl | rfl | rfl <;> rfl, rfl, rfl⟩)
                · refine SL.val rfl rfl (fun w9 F9 S9 s => R.mv rfl) ?_
                  refine SL.val rfl rfl (fun w9 F9 S9 s => R.fld rfl) ?_
                  refine SL.val rfl rfl (fun w9 F9 S9 s => R.ldB (v := .int .i64 ((Pack.num ((l.drop 2).take 2)) : Int)) rfl (s.cel (by repeat (first | exact SelB.blk | exact SelB.fz | apply SelB.there))) (by rfl)) ?_
                  refine SL.val rfl rfl (fun w9 F9 S9 s => R.geq rfl rfl) ?_
                  first | refine SL.val rfl rfl (fun w9 F9 S9 s => R.pickT rfl rfl) ?_ | refine SL.val rfl rfl (fun w9 F9 S9 s => R.pickF rfl rfl) ?_
                  refine SL.nil ?_
                  refine SN.seq ?_
                  refine SG.condP rfl (fun h3 => ?_) (fun h3 => ?_)
                  · have hnk : ¬ okP (Pack.num ((l.drop 2).take 2)) last (k0.1, t0.1) := fun h9 => by have h8 : ((growF 64 t0.1).2 = 0 ∧ (growF 64 t0.1).1.length = 64) ∧ last < (k0.1 : Int) ∧ k0.1 < (Pack.num ((l.drop 2).take 2)) := h9; omega
                    have hno : ¬ okQ (qF l) := fun h9 => by
                      have h8 := h9.2.2.1
                      rw [hQ] at h8
                      have h7 : rightF (Pack.num ((l.drop 2).take 2)) (-1) (partsF (Pack.num ((l.drop 20).take 2)) (l.drop 22) 0).1 = true := h8
                      rw [hst, List.append_assoc, hrt] at h7
                      have h6 : (decide (okP (Pack.num ((l.drop 2).take 2)) last (k0.1, t0.1)) && _) = true := h7
                      rw [Bool.and_eq_true, decide_eq_true_eq] at h6
                      exact hnk h6.1
                    refine SG.seq ?_
                    refine SG.region ?_
                    refine SL.val rfl rfl (fun w9 F9 S9 s => R.build (cs := [.int .i64 0, .string ByteArray.empty, .string ByteArray.empty, .slice none 0 0, .slice none 0 0].toArray) rfl rfl) ?_
                    refine SL.step0 rfl (CS.stA rfl rfl (by repeat (first | exact Sel.keep | exact Sel.here | apply Sel.there)) (by rfl) (by rfl) (by intro u hu; simp only [List.mem_cons, List.not_mem_nil, or_false] at hu; rcases hu with rfl | rfl | rfl | rfl | rfl <;> rfl)) ?_
                    rintro _ _ rfl
                    refine SL.val rfl rfl (fun w9 F9 S9 s => R.as rfl) ?_
                    refine SL.nil ?_
                    refine SN.seq ?_
                    exact SG.retCT rfl rfl rfl (by repeat (first | exact Sel.keep | exact Sel.here | apply Sel.there)) (by rfl) (Imp.sels Sels.nil) (⟨_, rfl, by intro u hu; simp only [List.mem_cons, List.not_mem_nil, or_false] at hu; rcases hu with rfl | rfl | rfl | rfl | rfl <;> rfl, rfl, rfl⟩)
                  · have hok : okP (Pack.num ((l.drop 2).take 2)) last (k0.1, t0.1) := by show ((growF 64 t0.1).2 = 0 ∧ (growF 64 t0.1).1.length = 64) ∧ last < (k0.1 : Int) ∧ k0.1 < (Pack.num ((l.drop 2).take 2)); omega
                    refine SG.skip ?_
                    refine SN.seq ?_
                    refine SG.seq ?_
                    refine SG.region ?_
                    refine SL.val rfl rfl (fun w9 F9 S9 s => R.mv rfl) ?_
                    refine SL.val rfl rfl (fun w9 F9 S9 s => R.as rfl) ?_
                    refine SL.nil ?_
                    refine SN.seq ?_
                    refine SG.seq ?_
                    refine SG.region ?_
                    refine SL.val rfl rfl (fun w9 F9 S9 s => R.fld rfl) ?_
                    refine SL.val rfl rfl (fun w9 F9 S9 s => R.ldB (v := .slice ka ps.length kc) rfl (s.cel (by repeat (first | exact SelB.blk | exact SelB.fz | apply SelB.there))) (by rfl)) ?_
                    refine SL.val rfl rfl (fun w9 F9 S9 s => R.mv rfl) ?_
                    refine SL.step rfl rfl (CS.buildA rfl rfl rfl rfl rfl (nums [k0.1]) rfl) ?_
                    rintro _ _ ⟨b103, rfl, rfl⟩
                    refine SL.step rfl rfl (CS.app rfl rfl (show Sel _ (own 3 1 ka (ps.length) kc (nums (ps.map Prod.fst))) _ from (by repeat (first | exact Sel.keep | exact Sel.here | apply Sel.there))) (fun w9 F9 S9 s => s.blkC (show Sel _ (blk b103 (nums [k0.1]) _) _ from (by repeat (first | exact Sel.keep | exact Sel.here | apply Sel.there)))) rfl (numsP_one _) (by unfold maxLen; omega) (by omega)) ?_
                    rintro _ _ ⟨a104, c104, rfl, rfl⟩
                    refine SL.val rfl rfl (fun w9 F9 S9 s => R.fld rfl) ?_
                    refine SL.step0 rfl (CS.st rfl rfl (show Sel _ (blk b5 _ _) _ from (by repeat (first | exact Sel.keep | exact Sel.here | apply Sel.there))) (by repeat (first | exact SetAt.here | apply SetAt.there)) rfl) ?_
                    rintro _ _ rfl
                    refine SL.nil ?_
                    refine SN.seq ?_
                    refine SG.region ?_
                    refine SL.val rfl rfl (fun w9 F9 S9 s => R.fld rfl) ?_
                    refine SL.val rfl rfl (fun w9 F9 S9 s => R.ldB (v := .slice da ps.length dc) rfl (s.cel (by repeat (first | exact SelB.blk | exact SelB.fz | apply SelB.there))) (by rfl)) ?_
                    refine SL.val rfl rfl (fun w9 F9 S9 s => R.mv rfl) ?_
                    refine SL.step rfl rfl (CS.buildA rfl rfl rfl rfl rfl ((grown [(k0.1, t0.1)]).map (fun d => Value.string (str d))) rfl) ?_
                    rintro _ _ ⟨b109, rfl, rfl⟩
                    refine SL.step rfl rfl (CS.app rfl rfl (show Sel _ (own 9 1 da (ps.length) dc ((grown ps).map (fun d => Value.string (str d)))) _ from (by repeat (first | exact Sel.keep | exact Sel.here | apply Sel.there))) (fun w9 F9 S9 s => s.blkC (show Sel _ (blk b109 ((grown [(k0.1, t0.1)]).map (fun d => Value.string (str d))) _) _ from (by repeat (first | exact Sel.keep | exact Sel.here | apply Sel.there)))) rfl (strs_one _) (by unfold maxLen; omega) (by omega)) ?_
                    rintro _ _ ⟨a110, c110, rfl, rfl⟩
                    refine SL.val rfl rfl (fun w9 F9 S9 s => R.fld rfl) ?_
                    refine SL.step0 rfl (CS.st rfl rfl (show Sel _ (blk b5 _ _) _ from (by repeat (first | exact Sel.keep | exact Sel.here | apply Sel.there))) (by repeat (first | exact SetAt.here | apply SetAt.there)) rfl) ?_
                    rintro _ _ rfl
                    refine SL.nil ?_
                    have hinv2 : partsF (Pack.num ((l.drop 20).take 2)) (l.drop 22) 0 = ((ps ++ [(k0.1, t0.1)]) ++ (partsF ((Pack.num ((l.drop 20).take 2)) - (i + 1)) t0.2.1 0).1, (partsF ((Pack.num ((l.drop 20).take 2)) - (i + 1)) t0.2.1 0).2) := hst
                    refine SN.block ?_
                    refine SN.seq ?_
                    refine SG.region ?_
                    refine SL.val rfl rfl (fun w9 F9 S9 s => R.mv rfl) ?_
                    refine SL.val rfl rfl (fun w9 F9 S9 s => R.add rfl rfl (by omega)) ?_
                    refine SL.val rfl rfl (fun w9 F9 S9 s => R.as rfl) ?_
                    refine SL.nil ?_
                    exact SN.again (⟨i + 1, t0.2.1, (k0.1 : Int), ps ++ [(k0.1, t0.1)], a104, c104, a110, c110⟩) (by show (Pack.num ((l.drop 20).take 2)) - (i + 1) < (Pack.num ((l.drop 20).take 2)) - i; omega) (Sub.cons rfl (Sub.cons rfl (Sub.cons rfl (Sub.cons rfl (Sub.cons rfl (Sub.cons rfl (Sub.nil _))))))) ((show Imp _ _ by dsimp only; rw [List.length_append, List.map_append, grown_app, nums_append, List.map_append]; exact (Imp.sels (by repeat (first | exact Sels.nil | apply Sels.cons | exact Sel.keep | exact Sel.here | apply Sel.there))))) (⟨by show i + 1 ≤ (Pack.num ((l.drop 20).take 2)); omega, by show (ps ++ [(k0.1, t0.1)]).length ≤ i + 1; rw [List.length_append]; show ps.length + 1 ≤ i + 1; omega, by show t0.2.1.length ≤ _; omega, hinv2, right_app _ ps _ _ _ [] hrt hok⟩)
        · obtain rfl : i = (Pack.num ((l.drop 20).take 2)) := by omega
          have hP : partsF (Pack.num ((l.drop 20).take 2)) (l.drop 22) 0 = (ps, ll, 0) := by rw [hinv, show partsF ((Pack.num ((l.drop 20).take 2)) - (Pack.num ((l.drop 20).take 2))) ll 0 = ([], ll, 0) by rw [Nat.sub_self]; rfl, List.append_nil]
          have hrr : rightF (Pack.num ((l.drop 2).take 2)) (-1) ps = true := by have := hrt []; rw [List.append_nil] at this; rw [this]; rfl
          rw [hP] at hQ
          have hok : okQ (qF l) ↔ (ll = [] ∧ 1 ≤ (Pack.num ((l.drop 2).take 2)) ∧ (Pack.num ((l.drop 2).take 2)) ≤ 64) := by rw [hQ]; exact ⟨fun h9 => ⟨h9.2.1, h9.2.2.2⟩, fun h9 => ⟨rfl, h9.1, hrr, h9.2⟩⟩
          have hnok : ¬ okQ (qF l) := fun h9 => by
            rw [show parseF l = some (patQ (qF l)) from if_pos ⟨hm1, h9⟩] at hpf; cases hpf
          rw [hok] at hnok
          refine SG.exit _ rfl ?_
          refine SN.seq ?_
          refine SG.seq ?_
          refine SG.draw [23] [0, 1, 2, 3, 4, 5, 6, 7, 8, 9, 10, 11, 12, 13, 14, 15, 16, 17, 18, 19, 20, 21, 22, 23, 24] (by decide +kernel) rfl ?_
          refine SW.read rfl rfl rfl rfl (fun w9 F9 S9 s => R.ldBN rfl (s.cel (by repeat (first | exact SelB.blk | exact SelB.fz | apply SelB.there))) (by rfl)) ?_
          refine SW.pure rfl rfl rfl rfl (fun w9 => R.mv rfl) ?_
          refine SW.pure rfl rfl rfl rfl (fun w9 => R.nilChk rfl) ?_
          refine SW.pure rfl rfl rfl rfl (fun w9 => R.fld rfl) ?_
          refine SW.read rfl rfl rfl rfl (fun w9 F9 S9 s => R.ldB rfl (s.cel (by repeat (first | exact SelB.blk | exact SelB.fz | apply SelB.there))) (by rfl)) ?_
          refine SW.pure rfl rfl rfl rfl (fun w9 => R.eqI rfl rfl) ?_
          refine SW.pure rfl rfl rfl rfl (fun w9 => R.mv rfl) ?_
          refine SW.isT 118 rfl (decide_eq_true rfl) ?_
          refine SW.pure rfl rfl rfl rfl (fun w9 => R.mv rfl) ?_
          refine SW.pure rfl rfl rfl rfl (fun w9 => R.nilChk rfl) ?_
          refine SW.pure rfl rfl rfl rfl (fun w9 => R.fld rfl) ?_
          refine SW.read rfl rfl rfl rfl (fun w9 F9 S9 s => R.ldB rfl (s.cel (by repeat (first | exact SelB.blk | exact SelB.fz | apply SelB.there))) (by rfl)) ?_
          refine SW.pure rfl rfl rfl rfl (fun w9 => R.eqStr rfl rfl) ?_
          first | refine SW.pure rfl rfl rfl rfl (fun w9 => R.pickT rfl rfl) ?_ | refine SW.pure rfl rfl rfl rfl (fun w9 => R.pickF rfl rfl) ?_
          refine SW.pure rfl rfl rfl rfl (fun w9 => R.mv rfl) ?_
          refine SW.caseP 125 rfl (fun hg24_13 => ?_) (fun hg24_13 => ?_)
          · refine SW.pure rfl rfl rfl rfl (fun w9 => R.fld rfl) ?_
            refine SW.read rfl rfl rfl rfl (fun w9 F9 S9 s => R.ldB rfl (s.cel (by repeat (first | exact SelB.blk | exact SelB.fz | apply SelB.there))) (by rfl)) ?_
            refine SW.pure rfl rfl rfl rfl (fun w9 => R.geq rfl rfl) ?_
            first | refine SW.pure rfl rfl rfl rfl (fun w9 => R.pickT rfl rfl) ?_ | refine SW.pure rfl rfl rfl rfl (fun w9 => R.pickF rfl rfl) ?_
            refine SW.pure rfl rfl rfl rfl (fun w9 => R.mv rfl) ?_
            refine SW.caseP 130 rfl (fun hg24_18 => ?_) (fun hg24_18 => ?_)
            · refine SW.pure rfl rfl rfl rfl (fun w9 => R.fld rfl) ?_
              refine SW.read rfl rfl rfl rfl (fun w9 F9 S9 s => R.ldB rfl (s.cel (by repeat (first | exact SelB.blk | exact SelB.fz | apply SelB.there))) (by rfl)) ?_
              refine SW.pure rfl rfl rfl rfl (fun w9 => R.leq rfl rfl) ?_
              first | refine SW.pure rfl rfl rfl rfl (fun w9 => R.pickT rfl rfl) ?_ | refine SW.pure rfl rfl rfl rfl (fun w9 => R.pickF rfl rfl) ?_
              refine SW.step0 rfl rfl rfl (CS.stA rfl rfl (by repeat (first | exact Sel.keep | exact Sel.here | apply Sel.there)) (by rfl) (by rfl) (by intro u hu; simp only [List.mem_cons, List.not_mem_nil, or_false] at hu; rcases hu with rfl | rfl | rfl | rfl | rfl <;> rfl)) ?_
              rintro _ _ rfl
              refine ⟨⟨.inr (fun w9 F9 S9 s => R.ldB rfl (s.cel (by repeat (first | exact SelB.blk | exact SelB.fz | apply SelB.there))) (by rfl)), ⟨.inl (by decide +kernel), ⟨.inl (by decide +kernel), ⟨.inl (by decide +kernel), ⟨.inl (by decide +kernel), trivial⟩⟩⟩⟩⟩, ?_⟩
              refine SW.pure rfl rfl rfl rfl (fun w9 => R.as rfl) ?_
              refine SW.nil ?_
              refine SN.seq ?_
              exact SG.retCT rfl rfl rfl (by repeat (first | exact Sel.keep | exact Sel.here | apply Sel.there)) (by rfl) (Imp.sels Sels.nil) (⟨_, rfl, by intro u hu; simp only [List.mem_cons, List.not_mem_nil, or_false] at hu; rcases hu with rfl | rfl | rfl | rfl | rfl <;> rfl, congrArg (fun q9 => Value.tuple #[Value.agg _, Value.bool q9]) (decide_eq_false (show ¬ (((Pack.num ((l.drop 2).take 2)) : Int) ≤ 64) from fun h9 => hnok ⟨hg24_13, by omega, by omega⟩)), rfl⟩)
            · refine SW.pass (hd := rfl) rfl rfl rfl ?_
              refine SW.pass (hd := rfl) rfl rfl rfl ?_
              refine SW.pass (hd := rfl) rfl rfl rfl ?_
              first | refine SW.pure rfl rfl rfl rfl (fun w9 => R.pickT rfl rfl) ?_ | refine SW.pure rfl rfl rfl rfl (fun w9 => R.pickF rfl rfl) ?_
              refine SW.step0 rfl rfl rfl (CS.stA rfl rfl (by repeat (first | exact Sel.keep | exact Sel.here | apply Sel.there)) (by rfl) (by rfl) (by intro u hu; simp only [List.mem_cons, List.not_mem_nil, or_false] at hu; rcases hu with rfl | rfl | rfl | rfl | rfl <;> rfl)) ?_
              rintro _ _ rfl
              refine ⟨⟨.inl (by decide +kernel), ⟨.inl (by decide +kernel), ⟨.inl (by decide +kernel), ⟨.inl (by decide +kernel), trivial⟩⟩⟩⟩, ?_⟩
              refine SW.pure rfl rfl rfl rfl (fun w9 => R.as rfl) ?_
              refine SW.nil ?_
              refine SN.seq ?_
              exact SG.retCT rfl rfl rfl (by repeat (first | exact Sel.keep | exact Sel.here | apply Sel.there)) (by rfl) (Imp.sels Sels.nil) (⟨_, rfl, by intro u hu; simp only [List.mem_cons, List.not_mem_nil, or_false] at hu; rcases hu with rfl | rfl | rfl | rfl | rfl <;> rfl, rfl, rfl⟩)
          · refine SW.pass (hd := rfl) rfl rfl rfl ?_
            refine SW.pass (hd := rfl) rfl rfl rfl ?_
            refine SW.pass (hd := rfl) rfl rfl rfl ?_
            first | refine SW.pure rfl rfl rfl rfl (fun w9 => R.pickT rfl rfl) ?_ | refine SW.pure rfl rfl rfl rfl (fun w9 => R.pickF rfl rfl) ?_
            refine SW.pure rfl rfl rfl rfl (fun w9 => R.mv rfl) ?_
            refine SW.pass (hd := rfl) rfl rfl rfl ?_
            refine SW.pass (hd := rfl) rfl rfl rfl ?_
            refine SW.pass (hd := rfl) rfl rfl rfl ?_
            first | refine SW.pure rfl rfl rfl rfl (fun w9 => R.pickT rfl rfl) ?_ | refine SW.pure rfl rfl rfl rfl (fun w9 => R.pickF rfl rfl) ?_
            refine SW.step0 rfl rfl rfl (CS.stA rfl rfl (by repeat (first | exact Sel.keep | exact Sel.here | apply Sel.there)) (by rfl) (by rfl) (by intro u hu; simp only [List.mem_cons, List.not_mem_nil, or_false] at hu; rcases hu with rfl | rfl | rfl | rfl | rfl <;> rfl)) ?_
            rintro _ _ rfl
            refine ⟨⟨.inl (by decide +kernel), ⟨.inl (by decide +kernel), ⟨.inl (by decide +kernel), trivial⟩⟩⟩, ?_⟩
            refine SW.pure rfl rfl rfl rfl (fun w9 => R.as rfl) ?_
            refine SW.nil ?_
            refine SN.seq ?_
            exact SG.retCT rfl rfl rfl (by repeat (first | exact Sel.keep | exact Sel.here | apply Sel.there)) (by rfl) (Imp.sels Sels.nil) (⟨_, rfl, by intro u hu; simp only [List.mem_cons, List.not_mem_nil, or_false] at hu; rcases hu with rfl | rfl | rfl | rfl | rfl <;> rfl, rfl, rfl⟩)

set_option maxHeartbeats 2000000 in
theorem refparse_yes (a : Option Addr) (n c : Nat) (l : List UInt8) (q : Pat) (hc : n ≤ c) (hn : n ≤ 1000000) (hpf : parseF l = some q) : SpecS Try.prog 15 [.slice a n c] [bs a n l] (fun v H' => ∃ ka kc da dc, v = .tuple #[.agg ([.int .i64 (q.blocks : Int), .string (str (rootP q.old)), .string (str (rootP q.new)), .slice ka q.parts.length kc, .slice da q.parts.length dc]).toArray, .bool true] ∧ H' = [own 3 1 ka (q.parts.length) kc (nums (q.parts.map Prod.fst)), own 9 1 da (q.parts.length) dc ((grown q.parts).map (fun d => Value.string (str d)))]) := by
  refine SpecS.enter Try.func15 rfl 135 rfl (Nat.le_of_ble_eq_true rfl) (fun o => ?_)
  refine SG.fact (fun w9 F9 S9 s => (s.bs (a := a) (n := n) (l := l) (by repeat (first | exact Sel.keep | exact Sel.here | apply Sel.there))).len) (fun hf9 => ?_)
  have hln := hf9; clear hf9
  refine SG.seq ?_
  refine SG.region ?_
  refine SL.step rfl rfl (CS.alloc [.int .i64 0, .string ByteArray.empty, .string ByteArray.empty, .slice none 0 0, .slice none 0 0] rfl) ?_
  rintro _ _ ⟨b2, rfl, rfl⟩
  refine SL.val rfl rfl (fun w9 F9 S9 s => R.as rfl) ?_
  refine SL.nil ?_
  refine SN.seq ?_
  refine SG.seq ?_
  refine SG.seq ?_
  refine SG.region ?_
  refine SL.val rfl rfl (fun w9 F9 S9 s => R.mv rfl) ?_
  refine SL.val rfl rfl (fun w9 F9 S9 s => R.lenS rfl) ?_
  refine SL.val rfl rfl (fun w9 F9 S9 s => R.lss rfl rfl) ?_
  refine SL.val rfl rfl (fun w9 F9 S9 s => R.mv rfl) ?_
  refine SL.caseP 16 rfl (fun hg1_3 => ?_) (fun hg1_3 => ?_)
  · exact absurd (hpf.symm.trans (parse_short (by omega))) (by simp)
  · have h22 : 22 ≤ l.length := by omega
    obtain ⟨x0, hx0⟩ : ∃ x, l[0]? = some x := ⟨_, List.getElem?_eq_getElem (by omega)⟩
    obtain ⟨x1, hx1⟩ : ∃ x, l[1]? = some x := ⟨_, List.getElem?_eq_getElem (by omega)⟩
    refine SL.fact (fun w9 F9 S9 s => bs_pt (s.bs (a := a) (l := l) (by repeat (first | exact Sel.keep | exact Sel.here | apply Sel.there))) hx0) (fun hf9 => ?_)
    obtain ⟨q0, hq0⟩ := hf9
    have hmg := magic_of hx0 hx1
    have hu0 := x0.toNat_lt
    have hu1 := x1.toNat_lt
    refine SL.val rfl rfl (fun w9 F9 S9 s => R.mv rfl) ?_
    refine SL.val rfl rfl (fun w9 F9 S9 s => R.idx (i := 0) rfl rfl (by omega) (by omega) q0 hq0) ?_
    refine SL.val rfl rfl (fun w9 F9 S9 s => R.ld (v := .int .u8 (x0.toNat : Int)) rfl (bs_ld (i := 0) (s.bs (a := a) (l := l) (by repeat (first | exact Sel.keep | exact Sel.here | apply Sel.there))) hq0 hx0)) ?_
    refine SL.val rfl rfl (fun w9 F9 S9 s => R.neI rfl rfl) ?_
    first | refine SL.val rfl rfl (fun w9 F9 S9 s => R.pickT rfl rfl) ?_ | refine SL.val rfl rfl (fun w9 F9 S9 s => R.pickF rfl rfl) ?_
    refine SL.val rfl rfl (fun w9 F9 S9 s => R.mv rfl) ?_
    refine SL.caseP 22 rfl (fun hg1_9 => ?_) (fun hg1_9 => ?_)
    · exact absurd (hpf.symm.trans (if_neg (fun h9 => by have := h9.1; omega))) (by simp)
    · refine SL.val rfl rfl (fun w9 F9 S9 s => R.mv rfl) ?_
      refine SL.val rfl rfl (fun w9 F9 S9 s => R.idx (i := 1) rfl rfl (by omega) (by omega) q0 hq0) ?_
      refine SL.val rfl rfl (fun w9 F9 S9 s => R.ld (v := .int .u8 (x1.toNat : Int)) rfl (bs_ld (i := 1) (s.bs (a := a) (l := l) (by repeat (first | exact Sel.keep | exact Sel.here | apply Sel.there))) hq0 hx1)) ?_
      refine SL.val rfl rfl (fun w9 F9 S9 s => R.neI rfl rfl) ?_
      first | refine SL.val rfl rfl (fun w9 F9 S9 s => R.pickT rfl rfl) ?_ | refine SL.val rfl rfl (fun w9 F9 S9 s => R.pickF rfl rfl) ?_
      refine SL.nil ?_
      refine SN.seq ?_
      refine SG.condP rfl (fun h0 => ?_) (fun h0 => ?_)
      · exact absurd (hpf.symm.trans (if_neg (fun h9 => by have := h9.1; omega))) (by simp)
      · have hm1 : (numF l 0 2).1 = 45229 := by omega
        have hQ := qF_long h22
        have hu4 := unroot_long (l := l.drop 4) (by rw [List.length_drop]; omega)
        have hu12 := unroot_long (l := l.drop 12) (by rw [List.length_drop]; omega)
        have l2 : (l.drop 2).length = l.length - 2 := List.length_drop
        have l4 : (l.drop 4).length = l.length - 4 := List.length_drop
        have l20 : (l.drop 20).length = l.length - 20 := List.length_drop
        have e2 : numF (l.drop 2) 0 2 = ((Pack.num ((l.drop 2).take 2)), l.drop 4, 0) := by have := numF_long (l := l.drop 2) (k := 2) (by decide) (by decide) (by omega); rw [List.drop_drop] at this; exact this
        have e20 : numF (l.drop 20) 0 2 = ((Pack.num ((l.drop 20).take 2)), l.drop 22, 0) := by have := numF_long (l := l.drop 20) (k := 2) (by decide) (by decide) (by omega); rw [List.drop_drop] at this; exact this
        have hc6 : (Pack.num ((l.drop 20).take 2)) < 65536 := by have := numF_lt (l.drop 20) 0 2 (by decide); rw [show ((2 : Nat) : Int) = 2 from rfl, e20] at this; exact this
        refine SG.skip ?_
        refine SN.seq ?_
        refine SG.seq ?_
        refine SG.region ?_
        refine SL.val rfl rfl (fun w9 F9 S9 s => R.mv rfl) ?_
        refine SL.val rfl rfl (fun w9 F9 S9 s => R.slL rfl rfl (by decide) (by omega)) ?_
        refine SL.val rfl rfl (fun w9 F9 S9 s => R.strB (l := l.drop 2) rfl ((s.bs (a := a) (l := l) (by repeat (first | exact Sel.keep | exact Sel.here | apply Sel.there))).drop 2 c (by omega) (by omega))) ?_
        refine SL.val rfl rfl (fun w9 F9 S9 s => R.build (cs := #[.string (str (l.drop 2)), .int .i64 0]) rfl rfl) ?_
        refine SL.step rfl rfl (CS.boxA rfl) ?_
        rintro _ _ ⟨b33, rfl, rfl⟩
        refine SL.val rfl rfl (fun w9 F9 S9 s => R.as rfl) ?_
        refine SL.nil ?_
        refine SN.seq ?_
        refine SG.seq ?_
        refine SG.region ?_
        refine SL.step rfl rfl (CS.alloc [.int .i64 0, .string ByteArray.empty, .string ByteArray.empty, .slice none 0 0, .slice none 0 0] rfl) ?_
        rintro _ _ ⟨b5, rfl, rfl⟩
        refine SL.nil ?_
        refine SN.seq ?_
        refine SG.seq ?_
        refine SG.region ?_
        refine SL.val rfl rfl (fun w9 F9 S9 s => R.mv rfl) ?_
        refine SL.step rfl rfl (CS.call rfl go34 (refNumS b33 (l.drop 2) 0 2 (by omega)) (by repeat (first | exact Sels.nil | apply Sels.cons | exact Sel.keep | exact Sel.here | apply Sel.there))) ?_
        rintro _ _ ⟨_, ⟨rfl, rfl⟩, rfl⟩
        refine SL.n1 ?_
        rw [e2]
        dsimp only
        refine SL.val rfl rfl (fun w9 F9 S9 s => R.fld rfl) ?_
        refine SL.step0 rfl (CS.st rfl rfl (show Sel _ (blk b5 _ _) _ from (by repeat (first | exact Sel.keep | exact Sel.here | apply Sel.there))) (by repeat (first | exact SetAt.here | apply SetAt.there)) rfl) ?_
        rintro _ _ rfl
        refine SL.nil ?_
        refine SN.seq ?_
        refine SG.seq ?_
        refine SG.region ?_
        refine SL.val rfl rfl (fun w9 F9 S9 s => R.mv rfl) ?_
        refine SL.val rfl rfl (fun w9 F9 S9 s => R.nilChk rfl) ?_
        refine SL.val rfl rfl (fun w9 F9 S9 s => R.fld rfl) ?_
        refine SL.val rfl rfl (fun w9 F9 S9 s => R.ldB rfl (s.cel (by repeat (first | exact SelB.blk | exact SelB.fz | apply SelB.there))) (by rfl)) ?_
        refine SL.val rfl rfl (fun w9 F9 S9 s => R.slStrH rfl rfl (by decide) (by omega)) ?_
        refine SL.be 41 rfl (congrArg (fun q => Value.string (str q)) (show _ = ((l.drop 4).take 8) from rfl)) ?_
        refine SL.val rfl rfl (fun w9 F9 S9 s => R.fld rfl) ?_
        refine SL.step0 rfl (CS.st rfl rfl (show Sel _ (blk b5 _ _) _ from (by repeat (first | exact Sel.keep | exact Sel.here | apply Sel.there))) (by repeat (first | exact SetAt.here | apply SetAt.there)) rfl) ?_
        rintro _ _ rfl
        refine SL.nil ?_
        refine SN.seq ?_
        refine SG.seq ?_
        refine SG.region ?_
        refine SL.val rfl rfl (fun w9 F9 S9 s => R.mv rfl) ?_
        refine SL.val rfl rfl (fun w9 F9 S9 s => R.nilChk rfl) ?_
        refine SL.val rfl rfl (fun w9 F9 S9 s => R.fld rfl) ?_
        refine SL.val rfl rfl (fun w9 F9 S9 s => R.ldB rfl (s.cel (by repeat (first | exact SelB.blk | exact SelB.fz | apply SelB.there))) (by rfl)) ?_
        refine SL.val rfl rfl (fun w9 F9 S9 s => R.slStr rfl rfl rfl (by decide) (by decide) (by omega)) ?_
        refine SL.be 47 rfl (congrArg (fun q => Value.string (str q)) (show _ = ((l.drop 12).take 8) by first | (rw [show (8 : Int).toNat = 8 from rfl, show (16 : Int).toNat = 16 from rfl, List.drop_drop]; done) | (rw [show (8 : Int).toNat = 8 from rfl, show (16 : Int).toNat = 16 from rfl, List.drop_take, List.drop_drop]))) ?_
        refine SL.val rfl rfl (fun w9 F9 S9 s => R.fld rfl) ?_
        refine SL.step0 rfl (CS.st rfl rfl (show Sel _ (blk b5 _ _) _ from (by repeat (first | exact Sel.keep | exact Sel.here | apply Sel.there))) (by repeat (first | exact SetAt.here | apply SetAt.there)) rfl) ?_
        rintro _ _ rfl
        refine SL.nil ?_
        refine SN.seq ?_
        refine SG.seq ?_
        refine SG.region ?_
        refine SL.val rfl rfl (fun w9 F9 S9 s => R.mv rfl) ?_
        refine SL.val rfl rfl (fun w9 F9 S9 s => R.mv rfl) ?_
        refine SL.val rfl rfl (fun w9 F9 S9 s => R.nilChk rfl) ?_
        refine SL.val rfl rfl (fun w9 F9 S9 s => R.fld rfl) ?_
        refine SL.val rfl rfl (fun w9 F9 S9 s => R.ldB rfl (s.cel (by repeat (first | exact SelB.blk | exact SelB.fz | apply SelB.there))) (by rfl)) ?_
        refine SL.val rfl rfl (fun w9 F9 S9 s => R.slStrL rfl rfl (by decide) (by omega)) ?_
        refine SL.be 54 rfl (congrArg (fun q => Value.string (str q)) (show _ = l.drop 20 by rw [show (16 : Int).toNat = 16 from rfl, List.drop_drop])) ?_
        refine SL.val rfl rfl (fun w9 F9 S9 s => R.nilChk rfl) ?_
        refine SL.val rfl rfl (fun w9 F9 S9 s => R.fld rfl) ?_
        refine SL.step0 rfl (CS.st rfl rfl (show Sel _ (blk b33 _ _) _ from (by repeat (first | exact Sel.keep | exact Sel.here | apply Sel.there))) (by repeat (first | exact SetAt.here | apply SetAt.there)) rfl) ?_
        rintro _ _ rfl
        refine SL.nil ?_
        refine SN.seq ?_
        refine SG.seq ?_
        refine SG.region ?_
        refine SL.val rfl rfl (fun w9 F9 S9 s => R.mv rfl) ?_
        refine SL.step rfl rfl (CS.call rfl go34 (refNumS b33 (l.drop 20) 0 2 (by omega)) (by repeat (first | exact Sels.nil | apply Sels.cons | exact Sel.keep | exact Sel.here | apply Sel.there))) ?_
        rintro _ _ ⟨_, ⟨rfl, rfl⟩, rfl⟩
        refine SL.n1 ?_
        rw [e20]
        dsimp only
        refine SL.val rfl rfl (fun w9 F9 S9 s => R.as rfl) ?_
        refine SL.nil ?_
        refine SN.seq ?_
        refine SG.seq ?_
        refine SG.region ?_
        refine SL.val rfl rfl (fun w9 F9 S9 s => R.as rfl) ?_
        refine SL.nil ?_
        refine SN.seq ?_
        refine SG.seq ?_
        refine SG.seq ?_
        refine SG.region ?_
        refine SL.val rfl rfl (fun w9 F9 S9 s => R.as rfl) ?_
        refine SL.nil ?_
        refine SN.seq ?_
        refine SG.block ?_
        refine SG.imp (Imp.ownNil 9 1) ?_
        refine SG.imp (Imp.ownNil 3 1) ?_
        refine SG.loop (X := RpS) (fun y => [(2, .pointer (some ⟨b2, 0, none⟩)), (4, .pointer (some ⟨b33, 0, none⟩)), (5, .pointer (some ⟨b5, 0, none⟩)), (6, .int .i64 ((Pack.num ((l.drop 20).take 2)) : Int)), (7, .int .i64 y.last), (8, .int .i64 (y.i : Int))]) (fun y => [blk b33 [.string (str (y.l)), .int .i64 (0)] 87, blk b5 [.int .i64 ((Pack.num ((l.drop 2).take 2)) : Int), .string (str (((l.drop 4).take 8))), .string (str (((l.drop 12).take 8))), .slice y.ka y.ps.length y.kc, .slice y.da y.ps.length y.dc] 41, own 3 1 y.ka (y.ps.length) y.kc (nums ((y.ps).map Prod.fst)), own 9 1 y.da (y.ps.length) y.dc ((grown (y.ps)).map (fun d => Value.string (str d))), blk b2 [.int .i64 0, .string ByteArray.empty, .string ByteArray.empty, .slice none 0 0, .slice none 0 0] 41]) (fun y => y.i ≤ (Pack.num ((l.drop 20).take 2)) ∧ y.ps.length ≤ y.i ∧ y.l.length ≤ l.length ∧ partsF (Pack.num ((l.drop 20).take 2)) (l.drop 22) 0 = (y.ps ++ (partsF ((Pack.num ((l.drop 20).take 2)) - y.i) y.l 0).1, (partsF ((Pack.num ((l.drop 20).take 2)) - y.i) y.l 0).2) ∧ ∀ r, rightF (Pack.num ((l.drop 2).take 2)) (-1) (y.ps ++ r) = rightF (Pack.num ((l.drop 2).take 2)) y.last r) (fun y => (Pack.num ((l.drop 20).take 2)) - y.i) (⟨0, l.drop 22, -1, [], none, 0, none, 0⟩) (Sub.cons rfl (Sub.cons rfl (Sub.cons rfl (Sub.cons rfl (Sub.cons rfl (Sub.cons rfl (Sub.nil _))))))) ((Imp.sels (by repeat (first | exact Sels.nil | apply Sels.cons | exact Sel.keep | exact Sel.here | apply Sel.there)))) (⟨Nat.zero_le _, Nat.le_refl _, by show (l.drop 22).length ≤ _; rw [List.length_drop]; omega, rfl, fun r => rfl⟩) ?_
        rintro ⟨i, ll, last, ps, ka, kc, da, dc⟩ ⟨hi, hpi, hll, hinv, hrt⟩
        dsimp only at hi hpi hll hinv hrt
        show SG _ _ _ _ _ [(2, .pointer (some ⟨b2, 0, none⟩)), (4, .pointer (some ⟨b33, 0, none⟩)), (5, .pointer (some ⟨b5, 0, none⟩)), (6, .int .i64 ((Pack.num ((l.drop 20).take 2)) : Int)), (7, .int .i64 last), (8, .int .i64 (i : Int))] [blk b33 [.string (str (ll)), .int .i64 (0)] 87, blk b5 [.int .i64 ((Pack.num ((l.drop 2).take 2)) : Int), .string (str (((l.drop 4).take 8))), .string (str (((l.drop 12).take 8))), .slice ka ps.length kc, .slice da ps.length dc] 41, own 3 1 ka (ps.length) kc (nums ((ps).map Prod.fst)), own 9 1 da (ps.length) dc ((grown (ps)).map (fun d => Value.string (str d))), blk b2 [.int .i64 0, .string ByteArray.empty, .string ByteArray.empty, .slice none 0 0, .slice none 0 0] 41] _
        refine SG.seq ?_
        refine SG.seq ?_
        refine SG.region ?_
        refine SL.val rfl rfl (fun w9 F9 S9 s => R.mv rfl) ?_
        refine SL.val rfl rfl (fun w9 F9 S9 s => R.mv rfl) ?_
        refine SL.val rfl rfl (fun w9 F9 S9 s => R.lss rfl rfl) ?_
        refine SL.nil ?_
        refine SN.seq ?_
        refine SG.condP rfl (fun h1 => ?_) (fun h1 => ?_)
        · have hcs : (Pack.num ((l.drop 20).take 2)) - i = ((Pack.num ((l.drop 20).take 2)) - (i + 1)) + 1 := by omega
          refine SG.skip ?_
          refine SN.seq ?_
          refine SG.seq ?_
          refine SG.block ?_
          refine SG.seq ?_
          refine SG.region ?_
          refine SL.val rfl rfl (fun w9 F9 S9 s => R.mv rfl) ?_
          refine SL.step rfl rfl (CS.call rfl go34 (refNumS b33 ll 0 2 (by omega)) (by repeat (first | exact Sels.nil | apply Sels.cons | exact Sel.keep | exact Sel.here | apply Sel.there))) ?_
          rintro _ _ ⟨_, ⟨rfl, rfl⟩, rfl⟩
          refine SL.n1 ?_
          obtain ⟨k0, hk0⟩ : ∃ z, z = numF ll 0 2 := ⟨_, rfl⟩
          rw [← hk0]
          have hkl : k0.2.1.length ≤ ll.length := by rw [hk0]; exact numF_length _ _ _
          refine SL.val rfl rfl (fun w9 F9 S9 s => R.as rfl) ?_
          refine SL.nil ?_
          refine SN.seq ?_
          refine SG.seq ?_
          refine SG.region ?_
          refine SL.val rfl rfl (fun w9 F9 S9 s => R.mv rfl) ?_
          refine SL.step rfl rfl (CS.call rfl go35 (refTxtS b33 k0.2.1 k0.2.2 65535 (by omega)) (by repeat (first | exact Sels.nil | apply Sels.cons | exact Sel.keep | exact Sel.here | apply Sel.there))) ?_
          rintro _ _ ⟨_, ⟨rfl, rfl⟩, rfl⟩
          refine SL.n1 ?_
          obtain ⟨t0, ht0⟩ : ∃ z, z = txtF k0.2.1 k0.2.2 65535 := ⟨_, rfl⟩
          rw [← ht0]
          have htl : t0.2.1.length ≤ k0.2.1.length := by rw [ht0]; exact txtF_length _ _ _
          have htx : t0.1.length ≤ 65535 := by rw [ht0]; exact txtF_le _ _ _
          have hst : partsF (Pack.num ((l.drop 20).take 2)) (l.drop 22) 0 = ((ps ++ [(k0.1, t0.1)]) ++ (partsF ((Pack.num ((l.drop 20).take 2)) - (i + 1)) t0.2.1 t0.2.2).1, (partsF ((Pack.num ((l.drop 20).take 2)) - (i + 1)) t0.2.1 t0.2.2).2) := by rw [hinv, hcs, partsF_step, ← hk0, ← ht0, List.append_assoc]; rfl
          refine SL.val rfl rfl (fun w9 F9 S9 s => R.as rfl) ?_
          refine SL.nil ?_
          refine SN.seq ?_
          refine SG.seq ?_
          refine SG.seq ?_
          refine SG.region ?_
          refine SL.val rfl rfl (fun w9 F9 S9 s => R.mv rfl) ?_
          refine SL.val rfl rfl (fun w9 F9 S9 s => R.nilChk rfl) ?_
          refine SL.val rfl rfl (fun w9 F9 S9 s => R.fld rfl) ?_
          refine SL.val rfl rfl (fun w9 F9 S9 s => R.ldB rfl (s.cel (by repeat (first | exact SelB.blk | exact SelB.fz | apply SelB.there))) (by rfl)) ?_
          refine SL.val rfl rfl (fun w9 F9 S9 s => R.neI rfl rfl) ?_
          refine SL.nil ?_
          refine SN.seq ?_
          refine SG.condP rfl (fun h2 => ?_) (fun h2 => ?_)
          · have hno : ¬ okQ (qF l) := fun h9 => by
              have h8 := h9.1
              rw [hQ] at h8
              have h7 : (partsF (Pack.num ((l.drop 20).take 2)) (l.drop 22) 0).2.2 = 0 := h8
              rw [hst, partsF_sticky _ h2] at h7
              exact h2 h7
            exact absurd (hpf.symm.trans (if_neg (fun h9 => hno h9.2))) (by simp)
          · have ht0e : t0.2.2 = 0 := by omega
            rw [ht0e] at hst ⊢
            refine SG.skip ?_
            refine SN.seq ?_
            refine SG.seq ?_
            refine SG.region ?_
            refine SL.val rfl rfl (fun w9 F9 S9 s => R.mv rfl) ?_
            refine SL.step rfl rfl (CS.strBytes rfl) ?_
            rintro _ _ ⟨a76, c76, rfl, hc76, rfl⟩
            refine SL.step rfl rfl (CS.callR (φ := fun v => v = .tuple #[.string (str (growF 64 t0.1).1), .int .i64 (growF 64 t0.1).2]) rfl go36 (fun w9 F9 S9 s => refgrow_ok a76 t0.1.length c76 t0.1 64 w9 (s.bs (a := a76) (l := t0.1) (by repeat (first | exact Sel.keep | exact Sel.here | apply Sel.there))) hc76 (by omega))) ?_
            rintro _ _ ⟨rfl, rfl⟩
            refine SL.val rfl rfl (fun w9 F9 S9 s => R.mv rfl) ?_
            refine SL.val rfl rfl (fun w9 F9 S9 s => R.ext rfl rfl) ?_
            refine SL.val rfl rfl (fun w9 F9 S9 s => R.ext rfl rfl) ?_
            refine SL.val rfl rfl (fun w9 F9 S9 s => R.as rfl) ?_
            refine SL.val rfl rfl (fun w9 F9 S9 s => R.as rfl) ?_
            refine SL.nil ?_
            refine SN.seq ?_
            refine SG.seq ?_
            refine SG.seq ?_
            refine SG.region ?_
            refine SL.val rfl rfl (fun w9 F9 S9 s => R.mv rfl) ?_
            refine SL.val rfl rfl (fun w9 F9 S9 s => R.neI rfl rfl) ?_
            refine SL.val rfl rfl (fun w9 F9 S9 s => R.mv rfl) ?_
            refine SL.caseP 82 rfl (fun hg19_2 => ?_) (fun hg19_2 => ?_)
            · have hnk : ¬ okP (Pack.num ((l.drop 2).take 2)) last (k0.1, t0.1) := fun h9 => by have h8 : ((growF 64 t0.1).2 = 0 ∧ (growF 64 t0.1).1.length = 64) ∧ last < (k0.1 : Int) ∧ k0.1 < (Pack.num ((l.drop 2).take 2)) := h9; omega
              have hno : ¬ okQ (qF l) := fun h9 => by
                have h8 := h9.2.2.1
                rw [hQ] at h8
                have h7 : rightF (Pack.num ((l.drop 2).take 2)) (-1) (partsF (Pack.num ((l.drop 20).take 2)) (l.drop 22) 0).1 = true := h8
                rw [hst, List.append_assoc, hrt] at h7
                have h6 : (decide (okP (Pack.num ((l.drop 2).take 2)) last (k0.1, t0.1)) && _) = true := h7
                rw [Bool.and_eq_true, decide_eq_true_eq] at h6
                exact hnk h6.1
              exact absurd (hpf.symm.trans (if_neg (fun h9 => hno h9.2))) (by simp)
            · refine SL.val rfl rfl (fun w9 F9 S9 s => R.mv rfl) ?_
              refine SL.val rfl rfl (fun w9 F9 S9 s => R.lenT rfl) ?_
              refine SL.val rfl rfl (fun w9 F9 S9 s => R.neI rfl rfl) ?_
              first | refine SL.val rfl rfl (fun w9 F9 S9 s => R.pickT rfl rfl) ?_ | refine SL.val rfl rfl (fun w9 F9 S9 s => R.pickF rfl rfl) ?_
              refine SL.val rfl rfl (fun w9 F9 S9 s => R.mv rfl) ?_
              refine SL.caseP 87 rfl (fun hg19_7 => ?_) (fun hg19_7 => ?_)
              · have hnk : ¬ okP (Pack.num ((l.drop 2).take 2)) last (k0.1, t0.1) := fun h9 => by have h8 : ((growF 64 t0.1).2 = 0 ∧ (growF 64 t0.1).1.length = 64) ∧ last < (k0.1 : Int) ∧ k0.1 < (Pack.num ((l.drop 2).take 2)) := h9; omega
                have hno : ¬ okQ (qF l) := fun h9 => by
                  have h8 := h9.2.2.1
                  rw [hQ] at h8
                  have h7 : rightF (Pack.num ((l.drop 2).take 2)) (-1) (partsF (Pack.num ((l.drop 20).take 2)) (l.drop 22) 0).1 = true := h8
                  rw [hst, List.append_assoc, hrt] at h7
                  have h6 : (decide (okP (Pack.num ((l.drop 2).take 2)) last (k0.1, t0.1)) && _) = true := h7
                  rw [Bool.and_eq_true, decide_eq_true_eq] at h6
                  exact hnk h6.1
                exact absurd (hpf.symm.trans (if_neg (fun h9 => hno h9.2))) (by simp)
              · refine SL.val rfl rfl (fun w9 F9 S9 s => R.mv rfl) ?_
                refine SL.val rfl rfl (fun w9 F9 S9 s => R.mv rfl) ?_
                refine SL.val rfl rfl (fun w9 F9 S9 s => R.leq rfl rfl) ?_
                first | refine SL.val rfl rfl (fun w9 F9 S9 s => R.pickT rfl rfl) ?_ | refine SL.val rfl rfl (fun w9 F9 S9 s => R.pickF rfl rfl) ?_
                refine SL.val rfl rfl (fun w9 F9 S9 s => R.mv rfl) ?_
                refine SL.caseP 92 rfl (fun hg19_12 => ?_) (fun hg19_12 => ?_)
                · have hnk : ¬ okP (Pack.num ((l.drop 2).take 2)) last (k0.1, t0.1) := fun h9 => by have h8 : ((growF 64 t0.1).2 = 0 ∧ (growF 64 t0.1).1.length = 64) ∧ last < (k0.1 : Int) ∧ k0.1 < (Pack.num ((l.drop 2).take 2)) := h9; omega
                  have hno : ¬ okQ (qF l) := fun h9 => by
                    have h8 := h9.2.2.1
                    rw [hQ] at h8
                    have h7 : rightF (Pack.num ((l.drop 2).take 2)) (-1) (partsF (Pack.num ((l.drop 20).take 2)) (l.drop 22) 0).1 = true := h8
                    rw [hst, List.append_assoc, hrt] at h7
                    have h6 : (decide (okP (Pack.num ((l.drop 2).take 2)) last (k0.1, t0.1)) && _) = true := h7
                    rw [Bool.and_eq_true, decide_eq_true_eq] at h6
                    exact hnk h6.1
                  exact absurd (hpf.symm.trans (if_neg (fun h9 => hno h9.2))) (by simp)
                · refine SL.val rfl rfl (fun w9 F9 S9 s => R.mv rfl) ?_
                  refine SL.val rfl rfl (fun w9 F9 S9 s => R.fld rfl) ?_
                  refine SL.val rfl rfl (fun w9 F9 S9 s => R.ldB (v := .int .i64 ((Pack.num ((l.drop 2).take 2)) : Int)) rfl (s.cel (by repeat (first | exact SelB.blk | exact SelB.fz | apply SelB.there))) (by rfl)) ?_
                  refine SL.val rfl rfl (fun w9 F9 S9 s => R.geq rfl rfl) ?_
                  first | refine SL.val rfl rfl (fun w9 F9 S9 s => R.pickT rfl rfl) ?_ | refine SL.val rfl rfl (fun w9 F9 S9 s => R.pickF rfl rfl) ?_
                  refine SL.nil ?_
                  refine SN.seq ?_
                  refine SG.condP rfl (fun h3 => ?_) (fun h3 => ?_)
                  · have hnk : ¬ okP (Pack.num ((l.drop 2).take 2)) last (k0.1, t0.1) := fun h9 => by have h8 : ((growF 64 t0.1).2 = 0 ∧ (growF 64 t0.1).1.length = 64) ∧ last < (k0.1 : Int) ∧ k0.1 < (Pack.num ((l.drop 2).take 2)) := h9; omega
                    have hno : ¬ okQ (qF l) := fun h9 => by
                      have h8 := h9.2.2.1
                      rw [hQ] at h8
                      have h7 : rightF (Pack.num ((l.drop 2).take 2)) (-1) (partsF (Pack.num ((l.drop 20).take 2)) (l.drop 22) 0).1 = true := h8
                      rw [hst, List.append_assoc, hrt] at h7
                      have h6 : (decide (okP (Pack.num ((l.drop 2).take 2)) last (k0.1, t0.1)) && _) = true := h7
                      rw [Bool.and_eq_true, decide_eq_true_eq] at h6
                      exact hnk h6.1
                    exact absurd (hpf.symm.trans (if_neg (fun h9 => hno h9.2))) (by simp)
                  · have hok : okP (Pack.num ((l.drop 2).take 2)) last (k0.1, t0.1) := by show ((growF 64 t0.1).2 = 0 ∧ (growF 64 t0.1).1.length = 64) ∧ last < (k0.1 : Int) ∧ k0.1 < (Pack.num ((l.drop 2).take 2)); omega
                    refine SG.skip ?_
                    refine SN.seq ?_
                    refine SG.seq ?_
                    refine SG.region ?_
                    refine SL.val rfl rfl (fun w9 F9 S9 s => R.mv rfl) ?_
                    refine SL.val rfl rfl (fun w9 F9 S9 s => R.as rfl) ?_
                    refine SL.nil ?_
                    refine SN.seq ?_
                    refine SG.seq ?_
                    refine SG.region ?_
                    refine SL.val rfl rfl (fun w9 F9 S9 s => R.fld rfl) ?_
                    refine SL.val rfl rfl (fun w9 F9 S9 s => R.ldB (v := .slice ka ps.length kc) rfl (s.cel (by repeat (first | exact SelB.blk | exact SelB.fz | apply SelB.there))) (by rfl)) ?_
                    refine SL.val rfl rfl (fun w9 F9 S9 s => R.mv rfl) ?_
                    refine SL.step rfl rfl (CS.buildA rfl rfl rfl rfl rfl (nums [k0.1]) rfl) ?_
                    rintro _ _ ⟨b103, rfl, rfl⟩
                    refine SL.step rfl rfl (CS.app rfl rfl (show Sel _ (own 3 1 ka (ps.length) kc (nums (ps.map Prod.fst))) _ from (by repeat (first | exact Sel.keep | exact Sel.here | apply Sel.there))) (fun w9 F9 S9 s => s.blkC (show Sel _ (blk b103 (nums [k0.1]) _) _ from (by repeat (first | exact Sel.keep | exact Sel.here | apply Sel.there)))) rfl (numsP_one _) (by unfold maxLen; omega) (by omega)) ?_
                    rintro _ _ ⟨a104, c104, rfl, rfl⟩
                    refine SL.val rfl rfl (fun w9 F9 S9 s => R.fld rfl) ?_
                    refine SL.step0 rfl (CS.st rfl rfl (show Sel _ (blk b5 _ _) _ from (by repeat (first | exact Sel.keep | exact Sel.here | apply Sel.there))) (by repeat (first | exact SetAt.here | apply SetAt.there)) rfl) ?_
                    rintro _ _ rfl
                    refine SL.nil ?_
                    refine SN.seq ?_
                    refine SG.region ?_
                    refine SL.val rfl rfl (fun w9 F9 S9 s => R.fld rfl) ?_
                    refine SL.val rfl rfl (fun w9 F9 S9 s => R.ldB (v := .slice da ps.length dc) rfl (s.cel (by repeat (first | exact SelB.blk | exact SelB.fz | apply SelB.there))) (by rfl)) ?_
                    refine SL.val rfl rfl (fun w9 F9 S9 s => R.mv rfl) ?_
                    refine SL.step rfl rfl (CS.buildA rfl rfl rfl rfl rfl ((grown [(k0.1, t0.1)]).map (fun d => Value.string (str d))) rfl) ?_
                    rintro _ _ ⟨b109, rfl, rfl⟩
                    refine SL.step rfl rfl (CS.app rfl rfl (show Sel _ (own 9 1 da (ps.length) dc ((grown ps).map (fun d => Value.string (str d)))) _ from (by repeat (first | exact Sel.keep | exact Sel.here | apply Sel.there))) (fun w9 F9 S9 s => s.blkC (show Sel _ (blk b109 ((grown [(k0.1, t0.1)]).map (fun d => Value.string (str d))) _) _ from (by repeat (first | exact Sel.keep | exact Sel.here | apply Sel.there)))) rfl (strs_one _) (by unfold maxLen; omega) (by omega)) ?_
                    rintro _ _ ⟨a110, c110, rfl, rfl⟩
                    refine SL.val rfl rfl (fun w9 F9 S9 s => R.fld rfl) ?_
                    refine SL.step0 rfl (CS.st rfl rfl (show Sel _ (blk b5 _ _) _ from (by repeat (first | exact Sel.keep | exact Sel.here | apply Sel.there))) (by repeat (first | exact SetAt.here | apply SetAt.there)) rfl) ?_
                    rintro _ _ rfl
                    refine SL.nil ?_
                    have hinv2 : partsF (Pack.num ((l.drop 20).take 2)) (l.drop 22) 0 = ((ps ++ [(k0.1, t0.1)]) ++ (partsF ((Pack.num ((l.drop 20).take 2)) - (i + 1)) t0.2.1 0).1, (partsF ((Pack.num ((l.drop 20).take 2)) - (i + 1)) t0.2.1 0).2) := hst
                    refine SN.block ?_
                    refine SN.seq ?_
                    refine SG.region ?_
                    refine SL.val rfl rfl (fun w9 F9 S9 s => R.mv rfl) ?_
                    refine SL.val rfl rfl (fun w9 F9 S9 s => R.add rfl rfl (by omega)) ?_
                    refine SL.val rfl rfl (fun w9 F9 S9 s => R.as rfl) ?_
                    refine SL.nil ?_
                    exact SN.again (⟨i + 1, t0.2.1, (k0.1 : Int), ps ++ [(k0.1, t0.1)], a104, c104, a110, c110⟩) (by show (Pack.num ((l.drop 20).take 2)) - (i + 1) < (Pack.num ((l.drop 20).take 2)) - i; omega) (Sub.cons rfl (Sub.cons rfl (Sub.cons rfl (Sub.cons rfl (Sub.cons rfl (Sub.cons rfl (Sub.nil _))))))) ((show Imp _ _ by dsimp only; rw [List.length_append, List.map_append, grown_app, nums_append, List.map_append]; exact (Imp.sels (by repeat (first | exact Sels.nil | apply Sels.cons | exact Sel.keep | exact Sel.here | apply Sel.there))))) (⟨by show i + 1 ≤ (Pack.num ((l.drop 20).take 2)); omega, by show (ps ++ [(k0.1, t0.1)]).length ≤ i + 1; rw [List.length_append]; show ps.length + 1 ≤ i + 1; omega, by show t0.2.1.length ≤ _; omega, hinv2, right_app _ ps _ _ _ [] hrt hok⟩)
        · obtain rfl : i = (Pack.num ((l.drop 20).take 2)) := by omega
          have hP : partsF (Pack.num ((l.drop 20).take 2)) (l.drop 22) 0 = (ps, ll, 0) := by rw [hinv, show partsF ((Pack.num ((l.drop 20).take 2)) - (Pack.num ((l.drop 20).take 2))) ll 0 = ([], ll, 0) by rw [Nat.sub_self]; rfl, List.append_nil]
          have hrr : rightF (Pack.num ((l.drop 2).take 2)) (-1) ps = true := by have := hrt []; rw [List.append_nil] at this; rw [this]; rfl
          rw [hP] at hQ
          have hok : okQ (qF l) ↔ (ll = [] ∧ 1 ≤ (Pack.num ((l.drop 2).take 2)) ∧ (Pack.num ((l.drop 2).take 2)) ≤ 64) := by rw [hQ]; exact ⟨fun h9 => ⟨h9.2.1, h9.2.2.2⟩, fun h9 => ⟨rfl, h9.1, hrr, h9.2⟩⟩
          have hok2 : okQ (qF l) := Classical.byContradiction (fun h9 => by
            rw [show parseF l = none from if_neg (fun h8 => h9 h8.2)] at hpf; cases hpf)
          obtain ⟨hll0, hB1, hB64⟩ := hok.1 hok2
          have hqq : patQ (qF l) = q := by
            have := hpf
            rw [show parseF l = some (patQ (qF l)) from if_pos ⟨hm1, hok2⟩] at this
            exact Option.some.inj this
          rw [hQ] at hqq
          subst hqq
          refine SG.exit _ rfl ?_
          refine SN.seq ?_
          refine SG.seq ?_
          refine SG.draw [23] [0, 1, 2, 3, 4, 5, 6, 7, 8, 9, 10, 11, 12, 13, 14, 15, 16, 17, 18, 19, 20, 21, 22, 23, 24] (by decide +kernel) rfl ?_
          refine SW.read rfl rfl rfl rfl (fun w9 F9 S9 s => R.ldBN rfl (s.cel (by repeat (first | exact SelB.blk | exact SelB.fz | apply SelB.there))) (by rfl)) ?_
          refine SW.pure rfl rfl rfl rfl (fun w9 => R.mv rfl) ?_
          refine SW.pure rfl rfl rfl rfl (fun w9 => R.nilChk rfl) ?_
          refine SW.pure rfl rfl rfl rfl (fun w9 => R.fld rfl) ?_
          refine SW.read rfl rfl rfl rfl (fun w9 F9 S9 s => R.ldB rfl (s.cel (by repeat (first | exact SelB.blk | exact SelB.fz | apply SelB.there))) (by rfl)) ?_
          refine SW.pure rfl rfl rfl rfl (fun w9 => R.eqI rfl rfl) ?_
          refine SW.pure rfl rfl rfl rfl (fun w9 => R.mv rfl) ?_
          refine SW.isT 118 rfl (decide_eq_true rfl) ?_
          refine SW.pure rfl rfl rfl rfl (fun w9 => R.mv rfl) ?_
          refine SW.pure rfl rfl rfl rfl (fun w9 => R.nilChk rfl) ?_
          refine SW.pure rfl rfl rfl rfl (fun w9 => R.fld rfl) ?_
          refine SW.read rfl rfl rfl rfl (fun w9 F9 S9 s => R.ldB rfl (s.cel (by repeat (first | exact SelB.blk | exact SelB.fz | apply SelB.there))) (by rfl)) ?_
          refine SW.pure rfl rfl rfl rfl (fun w9 => R.eqStr rfl rfl) ?_
          first | refine SW.pure rfl rfl rfl rfl (fun w9 => R.pickT rfl rfl) ?_ | refine SW.pure rfl rfl rfl rfl (fun w9 => R.pickF rfl rfl) ?_
          refine SW.pure rfl rfl rfl rfl (fun w9 => R.mv rfl) ?_
          refine SW.isT 125 rfl (decide_eq_true hll0) ?_
          refine SW.pure rfl rfl rfl rfl (fun w9 => R.fld rfl) ?_
          refine SW.read rfl rfl rfl rfl (fun w9 F9 S9 s => R.ldB rfl (s.cel (by repeat (first | exact SelB.blk | exact SelB.fz | apply SelB.there))) (by rfl)) ?_
          refine SW.pure rfl rfl rfl rfl (fun w9 => R.geq rfl rfl) ?_
          first | refine SW.pure rfl rfl rfl rfl (fun w9 => R.pickT rfl rfl) ?_ | refine SW.pure rfl rfl rfl rfl (fun w9 => R.pickF rfl rfl) ?_
          refine SW.pure rfl rfl rfl rfl (fun w9 => R.mv rfl) ?_
          refine SW.isT 130 rfl (decide_eq_true (by omega)) ?_
          refine SW.pure rfl rfl rfl rfl (fun w9 => R.fld rfl) ?_
          refine SW.read rfl rfl rfl rfl (fun w9 F9 S9 s => R.ldB rfl (s.cel (by repeat (first | exact SelB.blk | exact SelB.fz | apply SelB.there))) (by rfl)) ?_
          refine SW.pure rfl rfl rfl rfl (fun w9 => R.leq rfl rfl) ?_
          first | refine SW.pure rfl rfl rfl rfl (fun w9 => R.pickT rfl rfl) ?_ | refine SW.pure rfl rfl rfl rfl (fun w9 => R.pickF rfl rfl) ?_
          refine SW.step0 rfl rfl rfl (CS.stA rfl rfl (by repeat (first | exact Sel.keep | exact Sel.here | apply Sel.there)) (by rfl) (by rfl) (by intro u hu; simp only [List.mem_cons, List.not_mem_nil, or_false] at hu; rcases hu with rfl | rfl | rfl | rfl | rfl <;> rfl)) ?_
          rintro _ _ rfl
          refine ⟨⟨.inr (fun w9 F9 S9 s => R.ldB rfl (s.cel (by repeat (first | exact SelB.blk | exact SelB.fz | apply SelB.there))) (by rfl)), ⟨.inl (by decide +kernel), ⟨.inl (by decide +kernel), ⟨.inl (by decide +kernel), ⟨.inl (by decide +kernel), trivial⟩⟩⟩⟩⟩, ?_⟩
          refine SW.pure rfl rfl rfl rfl (fun w9 => R.as rfl) ?_
          refine SW.nil ?_
          refine SN.seq ?_
          exact SG.retCT rfl rfl rfl (by repeat (first | exact Sel.keep | exact Sel.here | apply Sel.there)) (by rfl) ((show Imp _ [own 3 1 ka (ps.length) kc (nums (ps.map Prod.fst)), own 9 1 da (ps.length) dc ((grown ps).map (fun d => Value.string (str d)))] from (Imp.sels (by repeat (first | exact Sels.nil | apply Sels.cons | exact Sel.keep | exact Sel.here | apply Sel.there))))) (⟨ka, kc, da, dc, by rw [decide_eq_true (show ((Pack.num ((l.drop 2).take 2)) : Int) ≤ 64 by omega)]; show _ = Value.tuple #[.agg ([.int .i64 ((Pack.num ((l.drop 2).take 2)) : Int), .string (str (rootP (unrootF (l.drop 4) 0).1)), .string (str (rootP (unrootF (l.drop 12) 0).1)), .slice ka ps.length kc, .slice da ps.length dc]).toArray, .bool true]; rw [hu4.2.1, hu12.2.1], rfl⟩)

end Go.Proofs.Yteaihincmfbblaa
/-
  The walks of package patch.
-/
set_option linter.unusedVariables false
set_option linter.unusedSimpArgs false
set_option maxRecDepth 4000
namespace Go.Proofs.Yteaihincmfbblaa
open Go Brv Brv.Pack Brv.Shrink Brv.Patch
theorem strs_pt {w : World} {a : Option Addr} {i : Nat} {v : List UInt8} {l : List (List UInt8)} (h : Cells w a (l.map (fun d => Value.string (str d)))) (hx : l[i]? = some v) : ∃ q, a = some q :=
  let ⟨q, hq, _⟩ := h i (.string (str v)) (by rw [List.getElem?_map, hx]; rfl); ⟨q, hq⟩
theorem strs_ld {w : World} {a : Option Addr} {i : Nat} {v : List UInt8} {l : List (List UInt8)} {q : Addr} (h : Cells w a (l.map (fun d => Value.string (str d)))) (hq : a = some q) (hx : l[i]? = some v) : w.cell? (q.add ((i : Int).toNat * 1)) = some (.string (str v)) := by
  obtain ⟨p, hp, hc⟩ := h i (.string (str v)) (by rw [List.getElem?_map, hx]; rfl)
  rw [hq] at hp; cases hp
  rw [Int.toNat_natCast, Nat.mul_one]; exact hc
theorem parse_lt {l : List UInt8} {q : Pat} (h : parseF l = some q) : q.old < 18446744073709551616 ∧ q.new < 18446744073709551616 := by
  by_cases h22 : 22 ≤ l.length
  · unfold parseF at h
    split at h
    · cases h
      rw [qF_long h22]
      exact ⟨(unroot_long (l := l.drop 4) (by rw [List.length_drop]; omega)).2.2, (unroot_long (l := l.drop 12) (by rw [List.length_drop]; omega)).2.2⟩
    · cases h
  · rw [parse_short (by omega)] at h; cases h
theorem with_step {x : List UInt8} {l : List UInt8} {q : Pat} (h : parseF l = some q) (hx : x.length = 64 * Image.dn x) (hb : q.blocks = Image.dn x) {i : Nat} {k : Nat × List UInt8} (hk : q.parts[i]? = some k) :
    (Image.withF x ((q.parts.take (i + 1)).map (undoW x))).1 = Image.laid (Image.withF x ((q.parts.take i).map (undoW x))).1 k.1 (laidF (Image.blk x k.1) (growF 64 k.2).1) := by
  have hin := undo_in h hb
  have hin1 : ∀ w ∈ (q.parts.take i).map (undoW x), (0 ≤ w.1 ∧ w.1 < (Image.dn x : Int)) ∧ w.2.length = 64 := fun w hw => hin w (by
    obtain ⟨z, hz, rfl⟩ := List.mem_map.1 hw
    exact List.mem_map_of_mem (List.mem_of_mem_take hz))
  have h0 := with_ok hx hin1
  have hl := Image.withF_length (x := x) h0
  have hkk := hin (undoW x k) (List.mem_map_of_mem (List.mem_of_getElem? hk))
  rw [List.take_add_one, hk, List.map_append, Image.withF_append, if_pos h0]
  have hd : Image.dn (Image.withF x ((q.parts.take i).map (undoW x))).1 = Image.dn x := by unfold Image.dn; rw [hl]
  show (Image.withF _ [undoW x k]).1 = _
  rw [Image.withF_next (by rw [hd]; omega) hkk.2]
  rfl
theorem with_len {x : List UInt8} {l : List UInt8} {q : Pat} (h : parseF l = some q) (hx : x.length = 64 * Image.dn x) (hb : q.blocks = Image.dn x) (i : Nat) : (Image.withF x ((q.parts.take i).map (undoW x))).1.length = x.length :=
  Image.withF_length (x := x) (with_ok hx (fun w hw => undo_in h hb w (by
    obtain ⟨z, hz, rfl⟩ := List.mem_map.1 hw
    exact List.mem_map_of_mem (List.mem_of_mem_take hz))))

theorem refapply_none (x : List UInt8) (a : Option Addr) (n c : Nat) (l : List UInt8) (w : World) (hb : Bs w a n l) (hc : n ≤ c) (hn : n ≤ 1000000) (hx : x.length = 64 * Image.dn x) (h1 : 1 ≤ Image.dn x) (h64 : Image.dn x ≤ 64) (hpf : parseF l = none) : Meets Try.prog 17 [.string (str x), .slice a n c] w (fun v w' => v = .tuple #[.string (str (applyF rootD x l).1), .int .i64 (applyF rootD x l).2] ∧ Ext [] w w') := by
  refine Meets.law Try.func17 rfl 75 rfl (Nat.le_of_ble_eq_true rfl) (law_bs (hb) (law_nil w)) ?_
  refine SG.seq ?_
  refine SG.region ?_
  refine SL.val rfl rfl (fun w9 F9 S9 s => R.as rfl) ?_
  refine SL.val rfl rfl (fun w9 F9 S9 s => R.as rfl) ?_
  refine SL.nil ?_
  refine SN.seq ?_
  refine SG.seq ?_
  refine SG.region ?_
  refine SL.val rfl rfl (fun w9 F9 S9 s => R.mv rfl) ?_
  refine SL.step rfl rfl (CS.call rfl go15 (refparse_no a n c l hc hn hpf) (by repeat (first | exact Sels.nil | apply Sels.cons | exact Sel.keep | exact Sel.here | apply Sel.there))) ?_
  rintro _ _ ⟨_, ⟨vs, hvs5, hvs1, rfl, rfl, rfl⟩, rfl⟩
  refine SL.n0 ?_
  refine SL.val rfl rfl (fun w9 F9 S9 s => R.mv rfl) ?_
  refine SL.val rfl rfl (fun w9 F9 S9 s => R.ext rfl rfl) ?_
  refine SL.val rfl rfl (fun w9 F9 S9 s => R.ext rfl rfl) ?_
  refine SL.step rfl rfl (CS.alloc [.int .i64 0, .string ByteArray.empty, .string ByteArray.empty, .slice none 0 0, .slice none 0 0] rfl) ?_
  rintro _ _ ⟨b6, rfl, rfl⟩
  refine SL.step0 rfl (CS.stA (vs := vs) rfl rfl (by repeat (first | exact Sel.keep | exact Sel.here | apply Sel.there)) hvs5 (by rfl) hvs1) ?_
  rintro _ _ rfl
  refine SL.val rfl rfl (fun w9 F9 S9 s => R.as rfl) ?_
  refine SL.nil ?_
  refine SN.seq ?_
  refine SG.seq ?_
  refine SG.seq ?_
  refine SG.region ?_
  refine SL.val rfl rfl (fun w9 F9 S9 s => R.mv rfl) ?_
  refine SL.val rfl rfl (fun w9 F9 S9 s => R.not rfl) ?_
  refine SL.val rfl rfl (fun w9 F9 S9 s => R.mv rfl) ?_
  refine SL.isT 19 rfl (rfl) ?_
  refine SL.pass rfl rfl ?_
  refine SL.pass rfl rfl ?_
  refine SL.pass rfl rfl ?_
  refine SL.pass rfl rfl ?_
  refine SL.pass rfl rfl ?_
  refine SL.pass rfl rfl ?_
  first | refine SL.val rfl rfl (fun w9 F9 S9 s => R.pickT rfl rfl) ?_ | refine SL.val rfl rfl (fun w9 F9 S9 s => R.pickF rfl rfl) ?_
  refine SL.nil ?_
  refine SN.seq ?_
  refine SG.condT rfl ?_
  refine SG.seq ?_
  refine SG.region ?_
  refine SL.val rfl rfl (fun w9 F9 S9 s => R.as rfl) ?_
  refine SL.val rfl rfl (fun w9 F9 S9 s => R.as rfl) ?_
  refine SL.nil ?_
  refine SN.seq ?_
  exact SG.ret2 rfl rfl rfl ((Imp.sels (by repeat (first | exact Sels.nil | apply Sels.cons | exact Sel.keep | exact Sel.here | apply Sel.there)))) (by unfold applyF; rw [hpf]; rfl)

set_option maxHeartbeats 2000000 in
theorem refapply_some (x : List UInt8) (a : Option Addr) (n c : Nat) (l : List UInt8) (q : Pat) (w : World) (hb : Bs w a n l) (hc : n ≤ c) (hn : n ≤ 1000000) (hx : x.length = 64 * Image.dn x) (hx1 : 1 ≤ Image.dn x) (h64 : Image.dn x ≤ 64) (hpf : parseF l = some q) : Meets Try.prog 17 [.string (str x), .slice a n c] w (fun v w' => v = .tuple #[.string (str (applyF rootD x l).1), .int .i64 (applyF rootD x l).2] ∧ Ext [] w w') := by
  refine Meets.law Try.func17 rfl 75 rfl (Nat.le_of_ble_eq_true rfl) (law_bs (hb) (law_nil w)) ?_
  have hdx : Image.dn x = x.length / 64 := rfl
  obtain ⟨hrt, hb1, hb64⟩ := parse_some hpf
  have hfew := parts_few hpf
  have hall := right_all hrt
  obtain ⟨hlo, hln9⟩ := parse_lt hpf
  have hAF : applyF rootD x l = if 64 * q.blocks ≠ x.length then ([], 20) else if q.old ≠ rootD x then ([], 52) else if rootD (Image.withF x (q.parts.map (undoW x))).1 ≠ q.new then ([], 53) else ((Image.withF x (q.parts.map (undoW x))).1, 0) := by unfold applyF; rw [hpf]
  refine SG.seq ?_
  refine SG.region ?_
  refine SL.val rfl rfl (fun w9 F9 S9 s => R.as rfl) ?_
  refine SL.val rfl rfl (fun w9 F9 S9 s => R.as rfl) ?_
  refine SL.nil ?_
  refine SN.seq ?_
  refine SG.seq ?_
  refine SG.region ?_
  refine SL.val rfl rfl (fun w9 F9 S9 s => R.mv rfl) ?_
  refine SL.step rfl rfl (CS.call rfl go15 (refparse_yes a n c l q hc hn hpf) (by repeat (first | exact Sels.nil | apply Sels.cons | exact Sel.keep | exact Sel.here | apply Sel.there))) ?_
  rintro _ _ ⟨_, ⟨ka, kc, da, dc, rfl, rfl, rfl⟩, rfl⟩
  refine SL.n2 ?_
  refine SL.val rfl rfl (fun w9 F9 S9 s => R.mv rfl) ?_
  refine SL.val rfl rfl (fun w9 F9 S9 s => R.ext rfl rfl) ?_
  refine SL.val rfl rfl (fun w9 F9 S9 s => R.ext rfl rfl) ?_
  refine SL.step rfl rfl (CS.alloc [.int .i64 0, .string ByteArray.empty, .string ByteArray.empty, .slice none 0 0, .slice none 0 0] rfl) ?_
  rintro _ _ ⟨b6, rfl, rfl⟩
  refine SL.step0 rfl (CS.stA (vs := [.int .i64 (q.blocks : Int), .string (str (rootP q.old)), .string (str (rootP q.new)), .slice ka q.parts.length kc, .slice da q.parts.length dc]) rfl rfl (show Sel _ (blk b6 _ _) _ from (by repeat (first | exact Sel.keep | exact Sel.here | apply Sel.there))) (by rfl) (by rfl) (by intro u hu; simp only [List.mem_cons, List.not_mem_nil, or_false] at hu; rcases hu with rfl | rfl | rfl | rfl | rfl <;> rfl)) ?_
  rintro _ _ rfl
  refine SL.val rfl rfl (fun w9 F9 S9 s => R.as rfl) ?_
  refine SL.nil ?_
  refine SN.imp (Imp.fz (show Sel _ (blk b6 [.int .i64 (q.blocks : Int), .string (str (rootP q.old)), .string (str (rootP q.new)), .slice ka q.parts.length kc, .slice da q.parts.length dc] 41) _ from (by repeat (first | exact Sel.keep | exact Sel.here | apply Sel.there)))) ?_
  refine SN.imp (Imp.ownSh (show Sel _ (own 3 1 ka (q.parts.length) kc (nums (q.parts.map Prod.fst))) _ from (by repeat (first | exact Sel.keep | exact Sel.here | apply Sel.there))) (p := fun w => Cells w ka (nums (q.parts.map Prod.fst))) (fun w h => h)) ?_
  refine SN.imp (Imp.ownSh (show Sel _ (own 9 1 da (q.parts.length) dc ((grown q.parts).map (fun d => Value.string (str d)))) _ from (by repeat (first | exact Sel.keep | exact Sel.here | apply Sel.there))) (p := fun w => Cells w da ((grown q.parts).map (fun d => Value.string (str d)))) (fun w h => h)) ?_
  refine SN.seq ?_
  refine SG.seq ?_
  refine SG.seq ?_
  refine SG.region ?_
  refine SL.val rfl rfl (fun w9 F9 S9 s => R.mv rfl) ?_
  refine SL.val rfl rfl (fun w9 F9 S9 s => R.not rfl) ?_
  refine SL.val rfl rfl (fun w9 F9 S9 s => R.mv rfl) ?_
  refine SL.isF 19 rfl (rfl) ?_
  refine SL.val rfl rfl (fun w9 F9 S9 s => R.fld rfl) ?_
  refine SL.val rfl rfl (fun w9 F9 S9 s => R.ldB (v := .int .i64 (q.blocks : Int)) rfl (s.fz (show Sel _ (fz b6 [.int .i64 (q.blocks : Int), .string (str (rootP q.old)), .string (str (rootP q.new)), .slice ka q.parts.length kc, .slice da q.parts.length dc] 41) _ from (by repeat (first | exact Sel.keep | exact Sel.here | apply Sel.there)))) (by rfl)) ?_
  refine SL.val rfl rfl (fun w9 F9 S9 s => R.mul rfl rfl (by omega)) ?_
  refine SL.val rfl rfl (fun w9 F9 S9 s => R.mv rfl) ?_
  refine SL.val rfl rfl (fun w9 F9 S9 s => R.lenT rfl) ?_
  refine SL.val rfl rfl (fun w9 F9 S9 s => R.neI rfl rfl) ?_
  first | refine SL.val rfl rfl (fun w9 F9 S9 s => R.pickT rfl rfl) ?_ | refine SL.val rfl rfl (fun w9 F9 S9 s => R.pickF rfl rfl) ?_
  refine SL.nil ?_
  refine SN.seq ?_
  refine SG.condP rfl (fun h0 => ?_) (fun h0 => ?_)
  · have hA : applyF rootD x l = ([], 20) := by rw [hAF, if_pos (by omega)]
    refine SG.seq ?_
    refine SG.region ?_
    refine SL.val rfl rfl (fun w9 F9 S9 s => R.as rfl) ?_
    refine SL.val rfl rfl (fun w9 F9 S9 s => R.as rfl) ?_
    refine SL.nil ?_
    refine SN.seq ?_
    exact SG.ret2 rfl rfl rfl ((Imp.sels (by repeat (first | exact Sels.nil | apply Sels.cons | exact Sel.keep | exact Sel.here | apply Sel.there)))) (by first | (rw [hA]; done) | (rw [hA]; rfl))
  · have hbx : q.blocks = Image.dn x := by omega
    rw [if_neg (by omega)] at hAF
    have hwl := with_len hpf hx hbx
    refine SG.skip ?_
    refine SN.seq ?_
    refine SG.seq ?_
    refine SG.seq ?_
    refine SG.draw [3] [0, 1, 2, 3, 4] (by decide +kernel) rfl ?_
    refine SW.pure rfl rfl rfl rfl (fun w9 => R.fld rfl) ?_
    refine SW.read rfl rfl rfl rfl (fun w9 F9 S9 s => R.ldB (v := .string (str (rootP q.old))) rfl (s.fz (show Sel _ (fz b6 [.int .i64 (q.blocks : Int), .string (str (rootP q.old)), .string (str (rootP q.new)), .slice ka q.parts.length kc, .slice da q.parts.length dc] 41) _ from (by repeat (first | exact Sel.keep | exact Sel.here | apply Sel.there)))) (by rfl)) ?_
    refine SW.pure rfl rfl rfl rfl (fun w9 => R.mv rfl) ?_
    refine SW.step rfl rfl rfl rfl (CS.call rfl go38 (refroot_ok x (by omega) (by omega)) (by repeat (first | exact Sels.nil | apply Sels.cons | exact Sel.keep | exact Sel.here | apply Sel.there))) ?_
    rintro _ _ ⟨_, ⟨rfl, rfl⟩, rfl⟩
    refine ⟨⟨.inr (fun w9 F9 S9 s => R.ldB (v := .string (str (rootP q.old))) rfl (s.fz (show Sel _ (fz b6 [.int .i64 (q.blocks : Int), .string (str (rootP q.old)), .string (str (rootP q.new)), .slice ka q.parts.length kc, .slice da q.parts.length dc] 41) _ from (by repeat (first | exact Sel.keep | exact Sel.here | apply Sel.there)))) (by rfl)), trivial⟩, ?_⟩
    refine SW.n0 ?_
    refine SW.pure rfl rfl rfl rfl (fun w9 => R.neStr rfl rfl) ?_
    refine SW.nil ?_
    refine SN.seq ?_
    refine SG.condP rfl (fun h1 => ?_) (fun h1 => ?_)
    · have hA : applyF rootD x l = ([], 52) := by rw [hAF, if_pos (fun h9 => h1 (by rw [h9]))]
      refine SG.seq ?_
      refine SG.region ?_
      refine SL.val rfl rfl (fun w9 F9 S9 s => R.as rfl) ?_
      refine SL.val rfl rfl (fun w9 F9 S9 s => R.as rfl) ?_
      refine SL.nil ?_
      refine SN.seq ?_
      exact SG.ret2 rfl rfl rfl ((Imp.sels (by repeat (first | exact Sels.nil | apply Sels.cons | exact Sel.keep | exact Sel.here | apply Sel.there)))) (by first | (rw [hA]; done) | (rw [hA]; rfl))
    · rw [if_neg (fun h9 => h9 (root_inj hlo (rootD_lt x (by omega)) (Classical.not_not.1 h1)))] at hAF
      refine SG.skip ?_
      refine SN.seq ?_
      refine SG.seq ?_
      refine SG.region ?_
      refine SL.val rfl rfl (fun w9 F9 S9 s => R.mv rfl) ?_
      refine SL.val rfl rfl (fun w9 F9 S9 s => R.as rfl) ?_
      refine SL.nil ?_
      refine SN.seq ?_
      refine SG.seq ?_
      refine SG.seq ?_
      refine SG.region ?_
      refine SL.val rfl rfl (fun w9 F9 S9 s => R.fld rfl) ?_
      refine SL.val rfl rfl (fun w9 F9 S9 s => R.ldB (v := .slice ka q.parts.length kc) rfl (s.fz (show Sel _ (fz b6 [.int .i64 (q.blocks : Int), .string (str (rootP q.old)), .string (str (rootP q.new)), .slice ka q.parts.length kc, .slice da q.parts.length dc] 41) _ from (by repeat (first | exact Sel.keep | exact Sel.here | apply Sel.there)))) (by rfl)) ?_
      refine SL.val rfl rfl (fun w9 F9 S9 s => R.lenS rfl) ?_
      refine SL.val rfl rfl (fun w9 F9 S9 s => R.mv rfl) ?_
      refine SL.nil ?_
      refine SN.seq ?_
      refine SG.block ?_
      refine SG.loop (X := Nat) (fun i => [(0, .string (str x)), (6, .pointer (some ⟨b6, 0, none⟩)), (8, .string (str (Image.withF x ((q.parts.take i).map (undoW x))).1)), (34, .slice ka q.parts.length kc), (35, .int .i64 (q.parts.length : Int)), (36, .int .i64 (i : Int))]) (fun i => [fz b6 [.int .i64 (q.blocks : Int), .string (str (rootP q.old)), .string (str (rootP q.new)), .slice ka q.parts.length kc, .slice da q.parts.length dc] 41, sh (fun w => Cells w ka (nums (q.parts.map Prod.fst))), sh (fun w => Cells w da ((grown q.parts).map (fun d => Value.string (str d))))]) (fun i => i ≤ q.parts.length) (fun i => q.parts.length - i) (0) (Sub.cons rfl (Sub.cons rfl (Sub.cons rfl (Sub.cons rfl (Sub.cons rfl (Sub.cons rfl (Sub.nil _))))))) ((Imp.sels (by repeat (first | exact Sels.nil | apply Sels.cons | exact Sel.keep | exact Sel.here | apply Sel.there)))) (Nat.zero_le _) ?_
      intro i hi
      show SG _ _ _ _ _ [(0, .string (str x)), (6, .pointer (some ⟨b6, 0, none⟩)), (8, .string (str (Image.withF x ((q.parts.take i).map (undoW x))).1)), (34, .slice ka q.parts.length kc), (35, .int .i64 (q.parts.length : Int)), (36, .int .i64 (i : Int))] [fz b6 [.int .i64 (q.blocks : Int), .string (str (rootP q.old)), .string (str (rootP q.new)), .slice ka q.parts.length kc, .slice da q.parts.length dc] 41, sh (fun w => Cells w ka (nums (q.parts.map Prod.fst))), sh (fun w => Cells w da ((grown q.parts).map (fun d => Value.string (str d))))] _
      refine SG.seq ?_
      refine SG.region ?_
      refine SL.val rfl rfl (fun w9 F9 S9 s => R.lss rfl rfl) ?_
      refine SL.nil ?_
      refine SN.seq ?_
      refine SG.seq ?_
      refine SG.condP rfl (fun h2 => ?_) (fun h2 => ?_)
      · obtain ⟨k, hk⟩ : ∃ k, q.parts[i]? = some k := ⟨_, List.getElem?_eq_getElem (by omega)⟩
        have hkk : (q.parts.map Prod.fst)[i]? = some k.1 := by rw [List.getElem?_map, hk]; rfl
        have hkd : (grown q.parts)[i]? = some (growF 64 k.2).1 := by unfold grown; rw [List.getElem?_map, hk]; rfl
        obtain ⟨hg1, hg2, hg3⟩ := hall _ (List.mem_of_getElem? hk)
        refine SG.fact (fun w9 F9 S9 s => numsP_pt (s.sh (p := fun w => Cells w ka (nums (q.parts.map Prod.fst))) (by repeat (first | exact Sel.keep | exact Sel.here | apply Sel.there))) hkk) (fun hf9 => ?_)
        obtain ⟨qk, hqk⟩ := hf9
        refine SG.fact (fun w9 F9 S9 s => strs_pt (s.sh (p := fun w => Cells w da ((grown q.parts).map (fun d => Value.string (str d)))) (by repeat (first | exact Sel.keep | exact Sel.here | apply Sel.there))) hkd) (fun hf9 => ?_)
        obtain ⟨qd, hqd⟩ := hf9
        have hbx9 := Image.blk_length (x := x) (show k.1 < Image.dn x by omega)
        have hwi := hwl i
        have hstp := with_step hpf hx hbx hk
        refine SG.skip ?_
        refine SN.seq ?_
        refine SG.seq ?_
        refine SG.block ?_
        refine SG.seq ?_
        refine SG.region ?_
        refine SL.val rfl rfl (fun w9 F9 S9 s => R.mv rfl) ?_
        refine SL.val rfl rfl (fun w9 F9 S9 s => R.idx rfl rfl (by omega) (by omega) qk hqk) ?_
        refine SL.val rfl rfl (fun w9 F9 S9 s => R.ld (v := .int .i64 (k.1 : Int)) rfl (numsP_ld (s.sh (p := fun w => Cells w ka (nums (q.parts.map Prod.fst))) (by repeat (first | exact Sel.keep | exact Sel.here | apply Sel.there))) hqk hkk)) ?_
        refine SL.val rfl rfl (fun w9 F9 S9 s => R.as rfl) ?_
        refine SL.val rfl rfl (fun w9 F9 S9 s => R.as rfl) ?_
        refine SL.nil ?_
        refine SN.seq ?_
        refine SG.seq ?_
        refine SG.draw [7, 13] [0, 1, 2, 3, 4, 5, 6, 8, 9, 10, 11, 12, 7, 13, 14] (by decide +kernel) rfl ?_
        refine SW.pure rfl rfl rfl rfl (fun w9 => R.mv rfl) ?_
        refine SW.pure rfl rfl rfl rfl (fun w9 => R.mv rfl) ?_
        refine SW.pure rfl rfl rfl rfl (fun w9 => R.mul rfl rfl (by omega)) ?_
        refine SW.pure rfl rfl rfl rfl (fun w9 => R.mv rfl) ?_
        refine SW.pure rfl rfl rfl rfl (fun w9 => R.mul rfl rfl (by omega)) ?_
        refine SW.pure rfl rfl rfl rfl (fun w9 => R.add rfl rfl (by omega)) ?_
        refine SW.pure rfl rfl rfl rfl (fun w9 => R.slStr rfl rfl rfl (by omega) (by omega) (by omega)) ?_
        refine SW.be 47 rfl (congrArg (fun q => Value.string (str q)) (show _ = Image.blk x k.1 by first | exact sub_blk x k.1 | exact sub_blk2 x k.1)) ?_
        refine SW.pure rfl rfl rfl rfl (fun w9 => R.fld rfl) ?_
        refine SW.read rfl rfl rfl rfl (fun w9 F9 S9 s => R.ldB (v := .slice da q.parts.length dc) rfl (s.fz (show Sel _ (fz b6 [.int .i64 (q.blocks : Int), .string (str (rootP q.old)), .string (str (rootP q.new)), .slice ka q.parts.length kc, .slice da q.parts.length dc] 41) _ from (by repeat (first | exact Sel.keep | exact Sel.here | apply Sel.there)))) (by rfl)) ?_
        refine SW.pure rfl rfl rfl rfl (fun w9 => R.mv rfl) ?_
        refine SW.pure rfl rfl rfl rfl (fun w9 => R.idx rfl rfl (by omega) (by omega) qd hqd) ?_
        refine SW.read rfl rfl rfl rfl (fun w9 F9 S9 s => R.ld (v := .string (str (growF 64 k.2).1)) rfl (strs_ld (s.sh (p := fun w => Cells w da ((grown q.parts).map (fun d => Value.string (str d)))) (by repeat (first | exact Sel.keep | exact Sel.here | apply Sel.there))) hqd hkd)) ?_
        refine SW.step rfl rfl rfl rfl (CS.strBytes rfl) ?_
        rintro _ _ ⟨a48, c48, rfl, hc48, rfl⟩
        refine ⟨⟨.inr (fun w9 F9 S9 s => R.ld (v := .string (str (growF 64 k.2).1)) rfl (strs_ld (s.sh (p := fun w => Cells w da ((grown q.parts).map (fun d => Value.string (str d)))) (by repeat (first | exact Sel.keep | exact Sel.here | apply Sel.there))) hqd hkd)), ⟨.inr (fun w9 F9 S9 s => R.ldB (v := .slice da q.parts.length dc) rfl (s.fz (show Sel _ (fz b6 [.int .i64 (q.blocks : Int), .string (str (rootP q.old)), .string (str (rootP q.new)), .slice ka q.parts.length kc, .slice da q.parts.length dc] 41) _ from (by repeat (first | exact Sel.keep | exact Sel.here | apply Sel.there)))) (by rfl)), trivial⟩⟩, ?_⟩
        refine SW.step rfl rfl rfl rfl (CS.callP rfl go39 (fun w9 F9 S9 s => reflaidP a48 (Image.blk x k.1).length c48 (Image.blk x k.1) (growF 64 k.2).1 w9 (s.bs (a := a48) (l := Image.blk x k.1) (by repeat (first | exact Sel.keep | exact Sel.here | apply Sel.there))) (by omega))) ?_
        rintro _ _ ⟨_, ⟨a11, c11, rfl, hc11, rfl, rfl⟩, rfl⟩
        refine ⟨⟨.inl (by decide +kernel), ⟨.inl (by decide +kernel), trivial⟩⟩, ?_⟩
        refine SW.pure rfl rfl rfl rfl (fun w9 => R.as rfl) ?_
        refine SW.nil ?_
        refine SN.seq ?_
        refine SG.draw [] [0, 1, 2, 3, 4, 5, 6, 7, 8, 9, 10, 11, 12, 13] (by decide +kernel) rfl ?_
        refine SW.pure rfl rfl rfl rfl (fun w9 => R.mv rfl) ?_
        refine SW.pure rfl rfl rfl rfl (fun w9 => R.mv rfl) ?_
        refine SW.pure rfl rfl rfl rfl (fun w9 => R.mul rfl rfl (by omega)) ?_
        refine SW.pure rfl rfl rfl rfl (fun w9 => R.slStrH rfl rfl (by omega) (by omega)) ?_
        refine SW.pure rfl rfl rfl rfl (fun w9 => R.mv rfl) ?_
        refine SW.read rfl rfl rfl rfl (fun w9 F9 S9 s => R.strB rfl (s.bs (a := a11) (n := (growF 64 k.2).1.length) (l := laidF (Image.blk x k.1) (growF 64 k.2).1) (by repeat (first | exact Sel.keep | exact Sel.here | apply Sel.there)))) ?_
        refine SW.pure rfl rfl rfl rfl (fun w9 => R.addStr rfl rfl (by rw [List.length_take, laidF_length]; omega)) ?_
        refine SW.pure rfl rfl rfl rfl (fun w9 => R.mv rfl) ?_
        refine SW.pure rfl rfl rfl rfl (fun w9 => R.mv rfl) ?_
        refine SW.pure rfl rfl rfl rfl (fun w9 => R.mul rfl rfl (by omega)) ?_
        refine SW.pure rfl rfl rfl rfl (fun w9 => R.add rfl rfl (by omega)) ?_
        refine SW.pure rfl rfl rfl rfl (fun w9 => R.slStrL rfl rfl (by omega) (by omega)) ?_
        refine SW.pure rfl rfl rfl rfl (fun w9 => R.addStr rfl rfl (by simp only [List.length_append, List.length_take, List.length_drop, laidF_length]; omega)) ?_
        refine SW.pure rfl rfl rfl rfl (fun w9 => R.as rfl) ?_
        refine SW.nil ?_
        refine SN.be 8 rfl (congrArg (fun q => Value.string (str q)) (show _ = (Image.withF x ((q.parts.take (i + 1)).map (undoW x))).1 by rw [hstp, show (64 * (k.1 : Int)).toNat = 64 * k.1 by omega, show (64 * (k.1 : Int) + 64).toNat = 64 * k.1 + 64 by omega]; rfl)) ?_
        refine SN.block ?_
        refine SN.seq ?_
        refine SG.region ?_
        refine SL.val rfl rfl (fun w9 F9 S9 s => R.add rfl rfl (by omega)) ?_
        refine SL.val rfl rfl (fun w9 F9 S9 s => R.mv rfl) ?_
        refine SL.nil ?_
        exact SN.again (i + 1) (by show q.parts.length - (i + 1) < q.parts.length - i; omega) (Sub.cons rfl (Sub.cons rfl (Sub.cons rfl (Sub.cons rfl (Sub.cons rfl (Sub.cons rfl (Sub.nil _))))))) ((Imp.sels (by repeat (first | exact Sels.nil | apply Sels.cons | exact Sel.keep | exact Sel.here | apply Sel.there)))) (by show i + 1 ≤ q.parts.length; omega)
      · obtain rfl : i = q.parts.length := by omega
        rw [List.take_length]
        have hwe := hwl q.parts.length
        rw [List.take_length] at hwe
        refine SG.exit _ rfl ?_
        refine SN.seq ?_
        refine SG.seq ?_
        refine SG.seq ?_
        refine SG.draw [1] [0, 2, 3, 1, 4] (by decide +kernel) rfl ?_
        refine SW.pure rfl rfl rfl rfl (fun w9 => R.mv rfl) ?_
        refine SW.pure rfl rfl rfl rfl (fun w9 => R.fld rfl) ?_
        refine SW.read rfl rfl rfl rfl (fun w9 F9 S9 s => R.ldB (v := .string (str (rootP q.new))) rfl (s.fz (show Sel _ (fz b6 [.int .i64 (q.blocks : Int), .string (str (rootP q.old)), .string (str (rootP q.new)), .slice ka q.parts.length kc, .slice da q.parts.length dc] 41) _ from (by repeat (first | exact Sel.keep | exact Sel.here | apply Sel.there)))) (by rfl)) ?_
        refine SW.step rfl rfl rfl rfl (CS.call rfl go38 (refroot_ok (Image.withF x (q.parts.map (undoW x))).1 (by omega) (by omega)) (by repeat (first | exact Sels.nil | apply Sels.cons | exact Sel.keep | exact Sel.here | apply Sel.there))) ?_
        rintro _ _ ⟨_, ⟨rfl, rfl⟩, rfl⟩
        refine ⟨⟨.inr (fun w9 F9 S9 s => R.ldB (v := .string (str (rootP q.new))) rfl (s.fz (show Sel _ (fz b6 [.int .i64 (q.blocks : Int), .string (str (rootP q.old)), .string (str (rootP q.new)), .slice ka q.parts.length kc, .slice da q.parts.length dc] 41) _ from (by repeat (first | exact Sel.keep | exact Sel.here | apply Sel.there)))) (by rfl)), trivial⟩, ?_⟩
        refine SW.n0 ?_
        refine SW.pure rfl rfl rfl rfl (fun w9 => R.neStr rfl rfl) ?_
        refine SW.nil ?_
        refine SN.seq ?_
        refine SG.condP rfl (fun h3 => ?_) (fun h3 => ?_)
        · have hA : applyF rootD x l = ([], 53) := by rw [hAF, if_pos (fun h9 => h3 (by rw [h9]))]
          refine SG.seq ?_
          refine SG.region ?_
          refine SL.val rfl rfl (fun w9 F9 S9 s => R.as rfl) ?_
          refine SL.val rfl rfl (fun w9 F9 S9 s => R.as rfl) ?_
          refine SL.nil ?_
          refine SN.seq ?_
          exact SG.ret2 rfl rfl rfl ((Imp.sels (by repeat (first | exact Sels.nil | apply Sels.cons | exact Sel.keep | exact Sel.here | apply Sel.there)))) (by first | (rw [hA]; done) | (rw [hA]; rfl))
        · have hA : applyF rootD x l = ((Image.withF x (q.parts.map (undoW x))).1, 0) := by rw [hAF, if_neg (fun h9 => h9 (root_inj (rootD_lt _ (by omega)) hln9 (Classical.not_not.1 h3)))]
          refine SG.skip ?_
          refine SN.seq ?_
          refine SG.seq ?_
          refine SG.region ?_
          refine SL.val rfl rfl (fun w9 F9 S9 s => R.mv rfl) ?_
          refine SL.val rfl rfl (fun w9 F9 S9 s => R.as rfl) ?_
          refine SL.val rfl rfl (fun w9 F9 S9 s => R.as rfl) ?_
          refine SL.nil ?_
          refine SN.seq ?_
          exact SG.ret2 rfl rfl rfl ((Imp.sels (by repeat (first | exact Sels.nil | apply Sels.cons | exact Sel.keep | exact Sel.here | apply Sel.there)))) (by first | (rw [hA]; done) | (rw [hA]; rfl))

theorem refapply_ok (x : List UInt8) (a : Option Addr) (n c : Nat) (l : List UInt8) (w : World) (hb : Bs w a n l) (hc : n ≤ c) (hn : n ≤ 1000000) (hx : x.length = 64 * Image.dn x) (h1 : 1 ≤ Image.dn x) (h64 : Image.dn x ≤ 64) : Meets Try.prog 17 [.string (str x), .slice a n c] w (fun v w' => v = .tuple #[.string (str (applyF rootD x l).1), .int .i64 (applyF rootD x l).2] ∧ Ext [] w w') := by
  cases hq : parseF l with
  | none => exact refapply_none x a n c l w hb hc hn hx h1 h64 hq
  | some q => exact refapply_some x a n c l q w hb hc hn hx h1 h64 hq

end Go.Proofs.Yteaihincmfbblaa
