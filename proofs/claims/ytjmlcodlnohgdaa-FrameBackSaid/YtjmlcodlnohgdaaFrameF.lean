/-
  The walks of the laws on frame.
-/
import Derived.Test.YtjmlcodlnohgdaaFrameG
import Derived.Test.YtjmlcodlnohgdaaStd2
set_option linter.unusedVariables false
set_option linter.unusedSimpArgs false
namespace Go.Proofs.Ytjmlcodlnohgdaa
open Go Brv Brv.Crc Brv.Pack Brv.Frame
theorem frame_first_ok  (w : World) : Meets Try.prog 60 [] w (fun v w' => v = .bool true ∧ Ext [] w w') := by
  refine Meets.enter Try.func60 rfl 71 rfl (Nat.le_of_ble_eq_true rfl) ?_
  have E := Ext.refl [] w
  refine G.seq ?_
  refine G.region ?_
  refine L.val rfl rfl (R.as rfl) ?_
  refine L.nil ?_
  refine N.seq ?_
  refine G.seq ?_
  refine G.region ?_
  refine L.do rfl rfl (R.buildA rfl rfl rfl rfl rfl) ?_
  rintro _ w1 ⟨b10, rfl, hb10, hs1, e1, B10⟩
  have E0 := E
  refine L.do rfl rfl (R.bytesBytes rfl B10) ?_
  rintro _ w2 ⟨fz10, rfl, e2, hs2, B10⟩
  have n2 := e1.news2 e2 (by omega)
  replace E := E0.trans0 n2
  have HL := Bs.of_blk B10 [97, 98, 99] rfl _ rfl
  refine L.val rfl rfl (R.build (cs := frC ((5, 2, 1, 3, [97, 98, 99]) : FrV) (some ⟨b10, 0, none⟩) 3) rfl rfl) ?_
  refine L.do rfl rfl (R.alloc) ?_
  rintro _ w3 ⟨b1, rfl, hzb1, hs3, e3, B1⟩
  have hEb3 := E.size
  refine L.set rfl (R.stN rfl rfl B1 rfl (Nat.le_refl 5) (frC_one ((5, 2, 1, 3, [97, 98, 99]) : FrV) (some ⟨b10, 0, none⟩) 3)) ?_
  rintro w4 ⟨e4, hs4, B1⟩
  replace B1 : Blk w4 b1 (frC ((5, 2, 1, 3, [97, 98, 99]) : FrV) (some ⟨b10, 0, none⟩) 3) 98 (0, 0) := B1
  have n4 := e3.news2 e4 (by omega)
  replace E := E.trans0 n4
  replace HL := HL.ext0 n4
  refine L.nil ?_
  refine N.seq ?_
  refine G.seq ?_
  refine G.region ?_
  refine L.val rfl rfl (R.ldBN rfl B1 rfl) ?_
  refine L.callF rfl rfl rfl go66 (fputV_ok ((5, 2, 1, 3, [97, 98, 99]) : FrV) _ 3 _ HL ⟨by decide, by decide, by decide, by decide, by decide⟩) ?_
  rintro _ w5 ⟨a2, c2, rfl, e5, hb2, hc2⟩
  replace E := E.trans0 e5
  replace HL := HL.ext0 e5
  replace B1 := B1.ext0 e5
  have hok : okV ((5, 2, 1, 3, [97, 98, 99]) : FrV) := by decide
  have h64 := secV_length hok
  rw [show putV ((5, 2, 1, 3, [97, 98, 99]) : FrV) = secV ((5, 2, 1, 3, [97, 98, 99]) : FrV) from if_pos hok, h64] at hb2 hc2 ⊢
  refine L.val rfl rfl (R.as rfl) ?_
  refine L.nil ?_
  refine N.seq ?_
  refine G.seq ?_
  refine G.region ?_
  refine L.val rfl rfl (R.mv rfl) ?_
  refine L.callF rfl rfl rfl go63 (fget_ok _ _ _ _ _ hb2 hc2 (by decide)) ?_
  rintro _ w6 ⟨a3, c3, rfl, e6, hb3, hc3, hf3⟩
  replace E := E.trans0 e6
  replace HL := HL.ext0 e6
  replace B1 := B1.ext0 e6
  replace hb2 := hb2.ext0 e6
  rw [get_put hok] at hb3 hc3 ⊢
  refine L.val rfl rfl (R.mv rfl) ?_
  refine L.val rfl rfl (R.ext rfl rfl) ?_
  refine L.val rfl rfl (R.ext rfl rfl) ?_
  refine L.do rfl rfl (R.alloc) ?_
  rintro _ w7 ⟨b3, rfl, hzb3, hs7, e7, B3⟩
  have hEb7 := E.size
  refine L.set rfl (R.stN rfl rfl B3 rfl (Nat.le_refl 5) (frC_one ((5, 2, 1, 3, [97, 98, 99]) : FrV) a3 c3)) ?_
  rintro w8 ⟨e8, hs8, B3⟩
  replace B3 : Blk w8 b3 (frC ((5, 2, 1, 3, [97, 98, 99]) : FrV) a3 c3) 98 (0, 0) := B3
  have n8 := e7.news2 e8 (by omega)
  replace E := E.trans0 n8
  replace HL := HL.ext0 n8
  replace B1 := B1.ext0 n8
  replace hb2 := hb2.ext0 n8
  replace hb3 := hb3.ext0 n8
  refine L.val rfl rfl (R.as rfl) ?_
  refine L.nil ?_
  refine N.seq ?_
  refine G.seq ?_
  refine G.region ?_
  refine L.do rfl rfl (R.make rfl rfl (by decide) (by decide) (by decide) (by decide)) ?_
  rintro _ w9 ⟨b20, rfl, hb20, hs9, e9, B20⟩
  replace E := E.trans0 e9
  replace HL := HL.ext0 e9
  replace B1 := B1.ext0 e9
  replace hb2 := hb2.ext0 e9
  replace hb3 := hb3.ext0 e9
  replace B3 := B3.ext0 e9
  have Z50 := Bs.of_blk B20 _ (madeCells_bytes 50) _ rfl
  have hq2 : secN (List.replicate 50 (0 : UInt8)) = 2 := by decide
  refine L.callF rfl rfl rfl go68 (spread_ok 9 1 _ 50 50 (List.replicate 50 (0 : UInt8)) _ Z50 (Nat.le_refl _) (by decide) (by decide) (by decide) (by decide)) ?_
  rintro _ w10 ⟨a5, c5, M5, rfl, e10, o5, hM5⟩
  replace E := E.trans0 e10
  replace HL := HL.ext0 e10
  replace B1 := B1.ext0 e10
  replace hb2 := hb2.ext0 e10
  replace hb3 := hb3.ext0 e10
  replace B3 := B3.ext0 e10
  rw [hq2] at o5 ⊢
  obtain ⟨sp, hsp⟩ : ∃ sp, sp = spreadN 9 1 (List.replicate 50 (0 : UInt8)) 2 := ⟨_, rfl⟩
  have h128 : sp.length = 128 := by rw [hsp]; exact spread_length (p := 9) (q := 1) (l := (List.replicate 50 (0 : UInt8))) (by decide) (by decide) (by decide) (by decide) 2 (by decide)
  rw [← hsp] at o5
  have hb5 := Bs.of_own o5
  have hm5 := o5.mem
  have hc5 : 64 * 2 ≤ c5 := o5.le
  refine L.val rfl rfl (R.as rfl) ?_
  refine L.nil ?_
  refine N.seq ?_
  refine G.seq ?_
  refine G.region ?_
  refine L.do rfl rfl (R.alloc) ?_
  rintro _ w11 ⟨b6, rfl, hb6, hs11, e11, B6⟩
  have hEb11 := E.size
  refine L.set rfl (R.st rfl rfl B6 (by decide) rfl) ?_
  rintro w12 ⟨e12, hs12, B6⟩
  replace B6 : Blk w12 b6 #[.int .i64 0] 3 (0, 0) := B6
  have n12 := e11.news2 e12 (by omega)
  replace E := E.trans0 n12
  replace hb5 := hb5.ext0 n12
  refine L.nil ?_
  refine N.seq ?_
  refine G.seq ?_
  refine G.region ?_
  refine L.val rfl rfl (R.mv rfl) ?_
  refine L.callF rfl rfl rfl go70 (cut_ok a5 _ c5 b6 _) ?_
  rintro _ w13 ⟨b21, b22, rfl, e13, B21, B22, h21, h22, l21, l22⟩
  replace E := E.trans0 e13
  replace hb5 := hb5.ext0 e13
  replace B6 := B6.ext0 e13
  refine L.callF rfl rfl rfl go69 (gcut_ok 9 b21 b22 b6 a5 _ c5 _ 2 0 _ (by decide) B21 B22 B6 (by decide) hb5 hc5 (by decide) (by omega) (by omega) (fun p hp => by have := (hm5 p hp).2; omega) (by rw [h128])) ?_
  rintro _ w14 ⟨a7, c7, rfl, e14, hb7, hc7, S14⟩
  have hg : gathN 9 (secL sp) 2 0 0 0 [] = (2, (List.replicate 50 (0 : UInt8)), 2, 0) := by
    have h := gath_spread (p := 9) (q := 1) (l := (List.replicate 50 (0 : UInt8))) (sec := secL sp) (by decide) (by decide) (by decide) (by decide) (fun i hi => by rw [hq2] at hi; rw [hsp]; exact spread_sec (p := 9) (q := 1) (l := (List.replicate 50 (0 : UInt8))) (by decide) (by decide) (by decide) (by decide) 2 (by decide) i hi) 2 0 0 0 (by rw [hq2]) (by decide) (by simp)
    rw [hq2] at h
    exact h
  rw [hg] at hb7 hc7 S14 ⊢
  have n14 := ((e11.news2 e12 (by omega)).trans0 e13).news2 e14 (by omega)
  have hE13 := E.size
  replace E := E.news2 e14 (by omega)
  replace HL := HL.ext0 n14
  replace B1 := B1.ext0 n14
  replace hb2 := hb2.ext0 n14
  replace hb3 := hb3.ext0 n14
  replace B3 := B3.ext0 n14
  refine L.val rfl rfl (R.mv rfl) ?_
  refine L.val rfl rfl (R.ext rfl rfl) ?_
  refine L.val rfl rfl (R.ext rfl rfl) ?_
  refine L.val rfl rfl (R.ext rfl rfl) ?_
  refine L.val rfl rfl (R.as rfl) ?_
  refine L.val rfl rfl (R.as rfl) ?_
  refine L.val rfl rfl (R.as rfl) ?_
  refine L.nil ?_
  refine N.seq ?_
  refine G.seq ?_
  refine G.region ?_
  refine L.val rfl rfl (R.mv rfl) ?_
  refine L.val rfl rfl (R.lenS rfl) ?_
  refine L.val rfl rfl (R.eqI rfl rfl) ?_
  refine L.val rfl rfl (R.mv rfl) ?_
  refine L.isT 32 rfl (by rfl) ?_
  refine L.val rfl rfl (R.mv rfl) ?_
  refine L.val rfl rfl (R.eqI rfl rfl) ?_
  first | refine L.val rfl rfl (R.pickT rfl rfl) ?_ | refine L.val rfl rfl (R.pickF rfl rfl) ?_
  refine L.val rfl rfl (R.mv rfl) ?_
  refine L.isT 36 rfl (by rfl) ?_
  refine L.val rfl rfl (R.ldBN rfl B1 rfl) ?_
  refine L.val rfl rfl (R.ldBN rfl B3 rfl) ?_
  refine L.callF rfl rfl rfl go67 (same6_ok _ _ _ _ _ _ _ HL hb3) ?_
  rintro _ w15 ⟨rfl, e15⟩
  replace E := E.trans0 e15
  replace B1 := B1.ext0 e15
  replace S14 := Blk.ext0 S14 e15
  first | refine L.val rfl rfl (R.pickT rfl rfl) ?_ | refine L.val rfl rfl (R.pickF rfl rfl) ?_
  refine L.val rfl rfl (R.mv rfl) ?_
  refine L.isT 41 rfl (by rfl) ?_
  refine L.val rfl rfl (R.mv rfl) ?_
  refine L.val rfl rfl (R.lenS rfl) ?_
  refine L.val rfl rfl (R.eqI rfl rfl) ?_
  first | refine L.val rfl rfl (R.pickT rfl rfl) ?_ | refine L.val rfl rfl (R.pickF rfl rfl) ?_
  refine L.val rfl rfl (R.mv rfl) ?_
  refine L.isT 46 rfl (by rfl) ?_
  refine L.val rfl rfl (R.mv rfl) ?_
  refine L.val rfl rfl (R.lenS rfl) ?_
  refine L.val rfl rfl (R.eqI rfl rfl) ?_
  first | refine L.val rfl rfl (R.pickT rfl rfl) ?_ | refine L.val rfl rfl (R.pickF rfl rfl) ?_
  refine L.val rfl rfl (R.mv rfl) ?_
  refine L.isT 51 rfl (by rfl) ?_
  refine L.val rfl rfl (R.mv rfl) ?_
  refine L.val rfl rfl (R.eqI rfl rfl) ?_
  first | refine L.val rfl rfl (R.pickT rfl rfl) ?_ | refine L.val rfl rfl (R.pickF rfl rfl) ?_
  refine L.val rfl rfl (R.mv rfl) ?_
  refine L.isT 55 rfl (by rfl) ?_
  refine L.val rfl rfl (R.mv rfl) ?_
  refine L.val rfl rfl (R.eqI rfl rfl) ?_
  first | refine L.val rfl rfl (R.pickT rfl rfl) ?_ | refine L.val rfl rfl (R.pickF rfl rfl) ?_
  refine L.val rfl rfl (R.mv rfl) ?_
  refine L.isT 59 rfl (by rfl) ?_
  refine L.val rfl rfl (R.ldB rfl S14 rfl) ?_
  refine L.val rfl rfl (R.eqI rfl rfl) ?_
  first | refine L.val rfl rfl (R.pickT rfl rfl) ?_ | refine L.val rfl rfl (R.pickF rfl rfl) ?_
  refine L.val rfl rfl (R.mv rfl) ?_
  refine L.isT 63 rfl (by rfl) ?_
  refine L.callF rfl rfl rfl go90 (fsecN_ok (List.replicate 41 0) _ (by decide)) ?_
  rintro _ _ ⟨rfl, hw⟩
  obtain rfl := hw.symm
  refine L.val rfl rfl (R.eqI rfl rfl) ?_
  first | refine L.val rfl rfl (R.pickT rfl rfl) ?_ | refine L.val rfl rfl (R.pickF rfl rfl) ?_
  refine L.val rfl rfl (R.mv rfl) ?_
  refine L.isT 67 rfl (by rfl) ?_
  refine L.val rfl rfl (R.ldBN rfl B1 rfl) ?_
  refine L.callF rfl rfl rfl go65 (frightV_ok ((5, 2, 1, 3, [97, 98, 99]) : FrV) _ _ _ ⟨by decide, by decide, by decide, by decide, by decide⟩) ?_
  rintro _ w16 ⟨rfl, e16⟩
  replace E := E.trans0 e16
  first | refine L.val rfl rfl (R.pickT rfl rfl) ?_ | refine L.val rfl rfl (R.pickF rfl rfl) ?_
  refine L.val rfl rfl (R.as rfl) ?_
  refine L.nil ?_
  refine N.seq ?_
  refine G.ret1 rfl rfl ?_
  exact ⟨congrArg Value.bool (decide_eq_true hok), E⟩

end Go.Proofs.Ytjmlcodlnohgdaa
