/-
  The walks of the laws on dev.
-/
import Derived.Test.YtjmlcodlnohgdaaDevF
import Derived.Test.YtjmlcodlnohgdaaC16
import Derived.Test.YtjmlcodlnohgdaaDevPure2
set_option linter.unusedVariables false
set_option linter.unusedSimpArgs false
namespace Go.Proofs.Ytjmlcodlnohgdaa
open Go Brv Brv.Image Brv.Dev
theorem devKeeps_ok (la lb : List UInt8) (kp : Bool) (w : World) (ha : la.length = 64) (hb : lb.length = 64) : Meets Try.prog 8 [.agg (vbs la).toArray, .agg (vbs lb).toArray, .bool kp] w (fun v w' => v = .bool true ∧ Ext [] w w') := by
  refine Meets.enter Try.func8 rfl 99 rfl (Nat.le_of_ble_eq_true rfl) ?_
  have E := Ext.refl [] w
  refine G.seq ?_
  refine G.region ?_
  refine L.do rfl rfl (R.box rfl) ?_
  rintro _ w1 ⟨b3, rfl, hz3, hs1, e1, A3⟩
  replace A3 : Blk w1 b3 (vbs la).toArray 60 (0, 0) := A3
  replace E := E.trans0 e1
  refine L.do rfl rfl (R.box rfl) ?_
  rintro _ w2 ⟨b4, rfl, hz4, hs2, e2, A4⟩
  replace A4 : Blk w2 b4 (vbs lb).toArray 60 (0, 0) := A4
  replace E := E.trans0 e2
  replace A3 := A3.ext0 e2
  refine L.val rfl rfl (R.as rfl) ?_
  refine L.nil ?_
  refine N.seq ?_
  refine G.seq ?_
  refine G.seq ?_
  refine G.region ?_
  refine L.callF rfl rfl rfl go32 (dev_first_ok _) ?_
  rintro _ wd ⟨rfl, e0⟩
  replace E := E.trans0 e0
  replace A3 := A3.ext0 e0
  replace A4 := A4.ext0 e0
  have hwd := E.size
  have Ed := Ext.refl [] wd
  have LA : Bs wd (some ⟨b3, 0, none⟩) 64 la := Bs.of_blk A3 la (by simp) 64 ha.symm
  have LB : Bs wd (some ⟨b4, 0, none⟩) 64 lb := Bs.of_blk A4 lb (by simp) 64 hb.symm
  have lb3 := A3.lt
  have lb4 := A4.lt
  obtain ⟨u, hu⟩ : ∃ u, la[0]? = some u := ⟨_, List.getElem?_eq_getElem (by omega)⟩
  refine L.val rfl rfl (R.not rfl) ?_
  refine L.nil ?_
  refine N.seq ?_
  refine G.condF rfl ?_
  refine G.skip ?_
  refine N.seq ?_
  refine G.seq ?_
  refine G.region ?_
  refine L.val rfl rfl (R.idxA rfl rfl (by decide) (by decide) _ rfl) ?_
  refine L.val rfl rfl (R.ldB rfl A3 (show (vbs la).toArray[0]? = some (vb u) by simp [vbs, hu])) ?_
  refine L.be 17 rfl (show _ = Value.int .u8 (u.toNat : Int) from rfl) ?_
  refine L.val rfl rfl (R.as rfl) ?_
  refine L.nil ?_
  refine N.seq ?_
  refine G.seq ?_
  refine G.region ?_
  refine L.callF rfl rfl rfl go33 (dnew_ok 4 _ (by decide) (by decide)) ?_
  rintro _ w3 ⟨d, S, rfl, e3, D, hS⟩
  replace E := E.trans0 e3
  replace Ed := Ed.trans0 e3
  refine L.val rfl rfl (R.mv rfl) ?_
  refine L.val rfl rfl (R.ext rfl rfl) ?_
  refine L.val rfl rfl (R.ext rfl rfl) ?_
  refine L.val rfl rfl (R.as rfl) ?_
  refine L.val rfl rfl (R.as rfl) ?_
  refine L.nil ?_
  refine N.seq ?_
  refine G.seq ?_
  refine G.seq ?_
  refine G.region ?_
  refine L.val rfl rfl (R.mv rfl) ?_
  refine L.val rfl rfl (R.slA rfl) ?_
  refine L.callF rfl rfl rfl go34 (dwrite_ok d (newV 4) 4 S 1 _ 64 64 la _ D (by decide) (by decide) (LA.ext0 Ed) (by decide) (by decide) (fun q hq => by cases hq; exact ⟨fun hm => by have h9 : wd.heap.size ≤ b3 := hS _ hm; omega, Nat.lt_of_lt_of_le lb3 Ed.size⟩)) ?_
  rintro _ w4 ⟨rfl, S1, e4, D⟩
  rw [k1_eq ha] at D ⊢
  have hEd4 := Ed.size
  replace E := E.fresh e4.1 (fun g hg => Nat.le_trans hwd (hS g hg))
  replace Ed := Ed.fresh e4.1 hS
  replace hS := e4.fresh hS hEd4
  refine L.val rfl rfl (R.neI rfl rfl) ?_
  refine L.val rfl rfl (R.mv rfl) ?_
  refine L.isF 26 rfl (by rfl) ?_
  refine L.val rfl rfl (R.mv rfl) ?_
  refine L.callF rfl rfl rfl go36 (dflush_ok d (k1 la) 4 S1 _ D (by show (0 : Int) ≤ 1 ∧ (1 : Int) ≤ _; decide) (by show 1 ≤ _; decide)) ?_
  rintro _ w5 ⟨rfl, S2, e5, D⟩
  rw [k2_eq] at D ⊢
  have hEd5 := Ed.size
  replace E := E.fresh e5.1 (fun g hg => Nat.le_trans hwd (hS g hg))
  replace Ed := Ed.fresh e5.1 hS
  replace hS := e5.fresh hS hEd5
  refine L.val rfl rfl (R.neI rfl rfl) ?_
  first | refine L.val rfl rfl (R.pickT rfl rfl) ?_ | refine L.val rfl rfl (R.pickF rfl rfl) ?_
  refine L.val rfl rfl (R.mv rfl) ?_
  refine L.isF 31 rfl (by rfl) ?_
  refine L.val rfl rfl (R.mv rfl) ?_
  refine L.val rfl rfl (R.slA rfl) ?_
  refine L.callF rfl rfl rfl go34 (dwrite_ok d (k2 la) 4 S2 1 _ 64 64 lb _ D (by show (0 : Int) ≤ 2 ∧ (2 : Int) ≤ _; decide) (by show 0 ≤ _; decide) (LB.ext0 Ed) (by decide) (by decide) (fun q hq => by cases hq; exact ⟨fun hm => by have h9 : wd.heap.size ≤ b4 := hS _ hm; omega, Nat.lt_of_lt_of_le lb4 Ed.size⟩)) ?_
  rintro _ w6 ⟨rfl, S3, e6, D⟩
  rw [k3_eq hb] at D ⊢
  have hEd6 := Ed.size
  replace E := E.fresh e6.1 (fun g hg => Nat.le_trans hwd (hS g hg))
  replace Ed := Ed.fresh e6.1 hS
  replace hS := e6.fresh hS hEd6
  refine L.val rfl rfl (R.neI rfl rfl) ?_
  first | refine L.val rfl rfl (R.pickT rfl rfl) ?_ | refine L.val rfl rfl (R.pickF rfl rfl) ?_
  refine L.val rfl rfl (R.mv rfl) ?_
  refine L.isF 37 rfl (by rfl) ?_
  refine L.val rfl rfl (R.mv rfl) ?_
  refine L.val rfl rfl (R.slA rfl) ?_
  refine L.callF rfl rfl rfl go34 (dwrite_ok d (k3 la lb) 4 S3 2 _ 64 64 lb _ D (by show (0 : Int) ≤ 3 ∧ (3 : Int) ≤ _; decide) (by show 1 ≤ _; decide) (LB.ext0 Ed) (by decide) (by decide) (fun q hq => by cases hq; exact ⟨fun hm => by have h9 : wd.heap.size ≤ b4 := hS _ hm; omega, Nat.lt_of_lt_of_le lb4 Ed.size⟩)) ?_
  rintro _ w7 ⟨rfl, S4, e7, D⟩
  rw [k4_eq hb] at D ⊢
  have hEd7 := Ed.size
  replace E := E.fresh e7.1 (fun g hg => Nat.le_trans hwd (hS g hg))
  replace Ed := Ed.fresh e7.1 hS
  replace hS := e7.fresh hS hEd7
  refine L.val rfl rfl (R.neI rfl rfl) ?_
  first | refine L.val rfl rfl (R.pickT rfl rfl) ?_ | refine L.val rfl rfl (R.pickF rfl rfl) ?_
  refine L.nil ?_
  refine N.seq ?_
  refine G.condF rfl ?_
  refine G.skip ?_
  refine N.seq ?_
  refine G.seq ?_
  refine G.region ?_
  refine L.val rfl rfl (R.mv rfl) ?_
  refine L.val rfl rfl (R.mv rfl) ?_
  refine L.val rfl rfl (R.rem rfl rfl (by omega) (by decide)) ?_
  refine L.val rfl rfl (R.conv rfl (((u.toNat % 3 : Nat)) : Int) (by rw [wrap_i64 (by omega)]; omega)) ?_
  refine L.callF rfl rfl rfl go40 (dlimit_ok d (k4 la lb) 4 S4 _ _ D (by omega)) ?_
  rintro _ w8 ⟨e8, D⟩
  rw [kV_zero] at D
  replace E := E.fresh e8 (fun g hg => Nat.le_trans hwd (hS g hg))
  replace Ed := Ed.fresh e8 hS
  refine L.nil ?_
  refine N.seq ?_
  refine G.seq ?_
  refine G.seq ?_
  refine G.region ?_
  refine L.val rfl rfl (R.mv rfl) ?_
  refine L.nil ?_
  refine N.seq ?_
  refine G.block ?_
  refine G.loop (X := Nat × List Nat) (fun s => [(2, .bool kp), (3, .pointer (some ⟨b3, 0, none⟩)), (4, .pointer (some ⟨b4, 0, none⟩)), (8, .pointer (some ⟨d, 0, none⟩)), (48, .int .i64 (s.1 : Int))]) (fun s w' => s.1 ≤ 4 ∧ DevAt w' d (kV la lb (u.toNat % 3) s.1) 4 s.2 ∧ (∀ g ∈ s.2, wd.heap.size ≤ g) ∧ Ext [] w w' ∧ Ext [] wd w') (fun s => 4 - s.1) ((0, S4)) (Sub.cons rfl (Sub.cons rfl (Sub.cons rfl (Sub.cons rfl (Sub.cons rfl (Sub.nil _)))))) ⟨by show 0 ≤ 4; decide, D, hS, E, Ed⟩ ?_
  rintro ⟨i, S⟩ w9 ⟨hi, D, hS, E, Ed⟩
  dsimp only at hi D hS
  refine G.sub [(2, .bool kp), (3, .pointer (some ⟨b3, 0, none⟩)), (4, .pointer (some ⟨b4, 0, none⟩)), (8, .pointer (some ⟨d, 0, none⟩)), (48, .int .i64 (i : Int))] (Sub.cons rfl (Sub.cons rfl (Sub.cons rfl (Sub.cons rfl (Sub.cons rfl (Sub.nil _)))))) ?_
  refine G.seq ?_
  refine G.region ?_
  refine L.val rfl rfl (R.lss rfl rfl) ?_
  refine L.nil ?_
  refine N.seq ?_
  refine G.seq ?_
  refine G.condP rfl (fun h2 => ?_) (fun h2 => ?_)
  · refine G.skip ?_
    refine N.seq ?_
    refine G.seq ?_
    refine G.block ?_
    refine G.region ?_
    refine L.val rfl rfl (R.mv rfl) ?_
    refine L.val rfl rfl (R.slA rfl) ?_
    refine L.callF rfl rfl rfl go34 (dwrite_ok d (kV la lb (u.toNat % 3) i) 4 S 3 _ 64 64 la _ D (by show (0 : Int) ≤ 4 + _ ∧ (4 : Int) + _ ≤ _; omega) (by rw [kV_len]; omega) (LA.ext0 Ed) (by decide) (by decide) (fun q hq => by cases hq; exact ⟨fun hm => by have h9 : wd.heap.size ≤ b3 := hS _ hm; omega, Nat.lt_of_lt_of_le lb3 Ed.size⟩)) ?_
    rintro _ w10 ⟨rfl, S5, e10, D⟩
    rw [kV_succ ha] at D
    have hEd10 := Ed.size
    replace E := E.fresh e10.1 (fun g hg => Nat.le_trans hwd (hS g hg))
    replace Ed := Ed.fresh e10.1 hS
    replace hS := e10.fresh hS hEd10
    refine L.nil ?_
    refine N.block ?_
    refine N.seq ?_
    refine G.region ?_
    refine L.val rfl rfl (R.add rfl rfl (by omega)) ?_
    refine L.val rfl rfl (R.mv rfl) ?_
    refine L.nil ?_
    exact N.again (i + 1, S5) (by show 4 - (i + 1) < 4 - i; omega) (Sub.cons rfl (Sub.cons rfl (Sub.cons rfl (Sub.cons rfl (Sub.cons rfl (Sub.nil _)))))) ⟨by show i + 1 ≤ 4; omega, D, hS, E, Ed⟩
  · obtain rfl : i = 4 := by omega
    have hoff := kV_off (la := la) (lb := lb) (m := (u.toNat % 3)) (by omega)
    refine G.exit _ rfl ?_
    refine N.seq ?_
    refine G.seq ?_
    refine G.region ?_
    refine L.val rfl rfl (R.mv rfl) ?_
    refine L.callF rfl rfl rfl go41 (doff_ok d _ 4 S _ D) ?_
    rintro _ _ ⟨rfl, hw⟩
    obtain rfl := hw.symm
    refine L.val rfl rfl (R.as rfl) ?_
    refine L.nil ?_
    refine N.seq ?_
    refine G.seq ?_
    refine G.region ?_
    refine L.val rfl rfl (R.mv rfl) ?_
    refine L.val rfl rfl (R.mv rfl) ?_
    refine L.do rfl rfl (R.buildA rfl rfl rfl rfl rfl) ?_
    rintro _ w11 ⟨b58, rfl, hb58, hs58, e11, B58⟩
    have hlt := D.lt
    replace E := E.trans0 e11
    replace Ed := Ed.trans0 e11
    replace D := D.ext0 e11
    have HK : Cells w11 (some ⟨b58, 0, none⟩) ([kp].map Value.bool) := Cells.of_blk B58 0 _ (fun j v hj => by cases j with | zero => exact hj | succ j => simp at hj)
    refine L.callF rfl rfl rfl go42 (dcrash_ok d _ 4 S (some ⟨b58, 0, none⟩) 1 [kp] _ D (by rw [kV_len]; omega) HK (fun p hp hm => by cases hp; have h9 : b58 < _ := hlt _ hm; omega)) ?_
    rintro _ w12 ⟨S6, e12, D⟩
    rw [kV_crash] at D
    have hEd12 := Ed.size
    replace E := E.fresh e12.1 (fun g hg => Nat.le_trans hwd (hS g hg))
    replace Ed := Ed.fresh e12.1 hS
    replace hS := e12.fresh hS hEd12
    refine L.nil ?_
    refine N.seq ?_
    refine G.seq ?_
    refine G.region ?_
    refine L.val rfl rfl (R.mv rfl) ?_
    refine L.callF rfl rfl rfl go35 (dread_ok d _ 4 S6 0 4 _ D (by show 0 ≤ _; decide)) ?_
    rintro _ w13 ⟨a11, c11, M11, rfl, e13, o11, hM11⟩
    rw [kEnd_read ha hb] at o11 ⊢
    dsimp only at o11
    have hkl := kEnd_len (kp := kp) ha hb
    replace E := E.trans0 e13
    replace Ed := Ed.trans0 e13
    replace D := D.ext0 e13
    have L11 := Bs.of_own o11
    have h11 := o11.le
    rw [hkl] at L11 h11
    have hltz := D.lt
    refine L.val rfl rfl (R.mv rfl) ?_
    refine L.val rfl rfl (R.ext rfl rfl) ?_
    refine L.be 63 rfl (show Value.slice a11 (kEnd la lb kp).length c11 = Value.slice a11 256 c11 by rw [hkl]) ?_
    refine L.val rfl rfl (R.ext rfl rfl) ?_
    refine L.val rfl rfl (R.as rfl) ?_
    refine L.val rfl rfl (R.as rfl) ?_
    refine L.nil ?_
    refine N.seq ?_
    refine G.seq ?_
    refine G.region ?_
    refine L.val rfl rfl (R.ldBN rfl (A3.ext0 Ed) (by simp [vbs_length, ha])) ?_
    refine L.do rfl rfl (R.alloc) ?_
    rintro _ w14 ⟨b13, rfl, hb13, hs14, e14, B13⟩
    have hE13 := E.size
    have hEd13 := Ed.size
    refine L.set rfl (R.stN rfl rfl B13 (by simp [vbs_length, ha]) (by simp [vbs_length, ha, Value.cells]) (by simpa using vbs_one _)) ?_
    rintro w15 ⟨e15, hs15, B13⟩
    rw [all_stored (by simp [vbs_length, ha, Value.cells])] at B13
    have n15 := e14.news2 e15 (by omega)
    replace E := E.trans0 n15
    replace Ed := Ed.trans0 n15
    replace D := D.ext0 n15
    replace L11 := L11.ext0 n15
    have hE15 := E.size
    refine L.nil ?_
    refine N.seq ?_
    refine G.seq ?_
    refine G.seq ?_
    refine G.region ?_
    refine L.val rfl rfl (R.mv rfl) ?_
    refine L.nil ?_
    refine N.seq ?_
    refine G.condB rfl (fun h3 => ?_) (fun h3 => ?_)
    · subst h3
      refine G.region ?_
      refine L.val rfl rfl (R.ldBN rfl (A4.ext0 Ed) (by simp [vbs_length, hb])) ?_
      refine L.set rfl (R.stN rfl rfl B13 (by simp [vbs_length, hb]) (by simp [vbs_length, ha, hb]) (by simpa using vbs_one _)) ?_
      rintro w16 ⟨e16, hs16, B13⟩
      rw [all_stored (by simp [vbs_length, ha, hb])] at B13
      have nd := hltz
      replace D := D.ext e16 (fun y hy hm => by rw [List.mem_singleton.1 hm] at hy; have := hltz _ hy; omega)
      replace L11 := L11.ext e16 (fun q hq hm => by have := (o11.mem q hq).2; rw [List.mem_singleton.1 hm] at this; omega)
      replace E := E.news2 e16 (by omega)
      refine L.nil ?_
      refine N.seq ?_
      refine G.seq ?_
      refine G.quiet (by decide +kernel) rfl ?_
      refine Q.val rfl rfl rfl rfl (fun w17 hE => R.mv rfl) ?_
      refine Q.val rfl rfl rfl rfl (fun w17 hE => R.mv rfl) ?_
      refine Q.isT 69 rfl (hoff) ?_
      refine Q.val rfl rfl rfl rfl (fun w17 hE => R.mv rfl) ?_
      refine Q.val rfl rfl rfl rfl (fun w17 hE => R.eqI rfl rfl) ?_
      first | refine Q.val rfl rfl rfl rfl (fun w17 hE => R.pickT rfl rfl) ?_ | refine Q.val rfl rfl rfl rfl (fun w17 hE => R.pickF rfl rfl) ?_
      refine Q.val rfl rfl rfl rfl (fun w17 hE => R.mv rfl) ?_
      refine Q.isT 73 rfl (by rfl) ?_
      refine Q.val rfl rfl rfl rfl (fun w17 hE => R.mv rfl) ?_
      refine Q.val rfl rfl rfl rfl (fun w17 hE => R.slLH rfl rfl rfl (by decide) (by decide) (by omega)) ?_
      refine Q.val rfl rfl rfl rfl (fun w17 hE => R.bytesStr rfl (L11.ext0 hE |>.sub 64 c11 64 (by omega) (by omega)).cells (by rw [List.length_take, List.length_drop, hkl]; rfl)) ?_
      refine Q.be 76 rfl (show _ = Value.string (str lb) by have e := kEnd_one (kp := true) ha hb; exact congrArg (fun l => Value.string (str l)) e) ?_
      refine Q.val rfl rfl rfl rfl (fun w17 hE => R.slA rfl) ?_
      refine Q.val rfl rfl rfl rfl (fun w17 hE => R.bytesStr rfl (Bs.of_blk (B13.ext0 hE) lb (by simp) 64 hb.symm).cells hb.symm) ?_
      refine Q.val rfl rfl rfl rfl (fun w17 hE => R.eqStr rfl rfl) ?_
      first | refine Q.val rfl rfl rfl rfl (fun w17 hE => R.pickT rfl rfl) ?_ | refine Q.val rfl rfl rfl rfl (fun w17 hE => R.pickF rfl rfl) ?_
      refine Q.val rfl rfl rfl rfl (fun w17 hE => R.mv rfl) ?_
      refine Q.isT 81 rfl (by simp) ?_
      refine Q.val rfl rfl rfl rfl (fun w17 hE => R.mv rfl) ?_
      refine Q.val rfl rfl rfl rfl (fun w17 hE => R.slL rfl rfl (by decide) (by omega)) ?_
      refine Q.val rfl rfl rfl rfl (fun w17 hE => R.bytesStr rfl ((L11.ext0 hE).drop 128 c11 (by omega) (by omega)).cells (by rw [List.length_drop, hkl]; decide)) ?_
      refine Q.be 84 rfl (show _ = Value.string (str (List.replicate 128 0)) by rw [kEnd_rest ha hb]) ?_
      refine Q.new (A := IsBs 128 (List.replicate 128 0)) (IsBs.keep _ _) rfl rfl rfl (fun w17 hE => (R.make rfl rfl (by decide) (by decide) (by decide) (by decide)).mono (fun _ _ h => h.bs (l := List.replicate 128 0) (Eq.trans (congrArg (fun k => (madeCells (Value.int .u8 0).cells k).toList) (show (128 : Int).toNat * 1 = 128 by decide)) (madeCells_bytes 128)) (show (128 : Int).toNat = (List.replicate 128 (0 : UInt8)).length by rw [List.length_replicate]; decide))) ?_
      refine Q.val rfl rfl rfl rfl (fun w17 hE => fun v hv => by obtain ⟨x1, y1, rfl, _, hv⟩ := hv; exact R.bytesStr rfl hv.cells hv.len) ?_
      refine Q.val rfl rfl rfl rfl (fun w17 hE => R.eqStr rfl rfl) ?_
      first | refine Q.val rfl rfl rfl rfl (fun w17 hE => R.pickT rfl rfl) ?_ | refine Q.val rfl rfl rfl rfl (fun w17 hE => R.pickF rfl rfl) ?_
      refine Q.val rfl rfl rfl rfl (fun w17 hE => R.mv rfl) ?_
      refine Q.isT 89 rfl (by simp) ?_
      refine Q.val rfl rfl rfl rfl (fun w17 hE => R.mv rfl) ?_
      refine Q.call (.bool false) rfl rfl rfl go41 (fun w17 hE => ⟨_, rfl, (doff_ok d _ 4 S6 _ (D.ext0 hE)).mono (by rintro _ _ ⟨rfl, rfl⟩; exact ⟨rfl, Ext.refl _ _⟩)⟩) ?_
      refine Q.val rfl rfl rfl rfl (fun w17 hE => R.not rfl) ?_
      first | refine Q.val rfl rfl rfl rfl (fun w17 hE => R.pickT rfl rfl) ?_ | refine Q.val rfl rfl rfl rfl (fun w17 hE => R.pickF rfl rfl) ?_
      refine Q.val rfl rfl rfl rfl (fun w17 hE => R.mv rfl) ?_
      refine Q.isT 94 rfl (by rfl) ?_
      refine Q.val rfl rfl rfl rfl (fun w17 hE => R.mv rfl) ?_
      refine Q.call (.int .i64 0) rfl rfl rfl go38 (fun w17 hE => ⟨_, rfl, (dwaiting_ok d _ 4 S6 _ (D.ext0 hE)).mono (by rintro _ _ ⟨rfl, rfl⟩; exact ⟨rfl, Ext.refl _ _⟩)⟩) ?_
      refine Q.val rfl rfl rfl rfl (fun w17 hE => R.eqI rfl rfl) ?_
      first | refine Q.val rfl rfl rfl rfl (fun w17 hE => R.pickT rfl rfl) ?_ | refine Q.val rfl rfl rfl rfl (fun w17 hE => R.pickF rfl rfl) ?_
      refine Q.val rfl rfl rfl rfl (fun w17 hE => R.as rfl) ?_
      refine Q.nil (fun w17 e17 => ?_)
      intro v85 _
      replace E := E.trans0 e17
      refine N.seq ?_
      refine G.ret1 rfl rfl ?_
      first | exact ⟨rfl, E⟩ | exact ⟨congrArg Value.bool (by simp), E⟩
    · obtain rfl : kp = false := by simpa using h3
      refine G.skip ?_
      refine N.seq ?_
      refine G.seq ?_
      refine G.quiet (by decide +kernel) rfl ?_
      refine Q.val rfl rfl rfl rfl (fun w16 hE => R.mv rfl) ?_
      refine Q.val rfl rfl rfl rfl (fun w16 hE => R.mv rfl) ?_
      refine Q.isT 69 rfl (hoff) ?_
      refine Q.val rfl rfl rfl rfl (fun w16 hE => R.mv rfl) ?_
      refine Q.val rfl rfl rfl rfl (fun w16 hE => R.eqI rfl rfl) ?_
      first | refine Q.val rfl rfl rfl rfl (fun w16 hE => R.pickT rfl rfl) ?_ | refine Q.val rfl rfl rfl rfl (fun w16 hE => R.pickF rfl rfl) ?_
      refine Q.val rfl rfl rfl rfl (fun w16 hE => R.mv rfl) ?_
      refine Q.isT 73 rfl (by rfl) ?_
      refine Q.val rfl rfl rfl rfl (fun w16 hE => R.mv rfl) ?_
      refine Q.val rfl rfl rfl rfl (fun w16 hE => R.slLH rfl rfl rfl (by decide) (by decide) (by omega)) ?_
      refine Q.val rfl rfl rfl rfl (fun w16 hE => R.bytesStr rfl (L11.ext0 hE |>.sub 64 c11 64 (by omega) (by omega)).cells (by rw [List.length_take, List.length_drop, hkl]; rfl)) ?_
      refine Q.be 76 rfl (show _ = Value.string (str la) by have e := kEnd_one (kp := false) ha hb; exact congrArg (fun l => Value.string (str l)) e) ?_
      refine Q.val rfl rfl rfl rfl (fun w16 hE => R.slA rfl) ?_
      refine Q.val rfl rfl rfl rfl (fun w16 hE => R.bytesStr rfl (Bs.of_blk (B13.ext0 hE) la (by simp) 64 ha.symm).cells ha.symm) ?_
      refine Q.val rfl rfl rfl rfl (fun w16 hE => R.eqStr rfl rfl) ?_
      first | refine Q.val rfl rfl rfl rfl (fun w16 hE => R.pickT rfl rfl) ?_ | refine Q.val rfl rfl rfl rfl (fun w16 hE => R.pickF rfl rfl) ?_
      refine Q.val rfl rfl rfl rfl (fun w16 hE => R.mv rfl) ?_
      refine Q.isT 81 rfl (by simp) ?_
      refine Q.val rfl rfl rfl rfl (fun w16 hE => R.mv rfl) ?_
      refine Q.val rfl rfl rfl rfl (fun w16 hE => R.slL rfl rfl (by decide) (by omega)) ?_
      refine Q.val rfl rfl rfl rfl (fun w16 hE => R.bytesStr rfl ((L11.ext0 hE).drop 128 c11 (by omega) (by omega)).cells (by rw [List.length_drop, hkl]; decide)) ?_
      refine Q.be 84 rfl (show _ = Value.string (str (List.replicate 128 0)) by rw [kEnd_rest ha hb]) ?_
      refine Q.new (A := IsBs 128 (List.replicate 128 0)) (IsBs.keep _ _) rfl rfl rfl (fun w16 hE => (R.make rfl rfl (by decide) (by decide) (by decide) (by decide)).mono (fun _ _ h => h.bs (l := List.replicate 128 0) (Eq.trans (congrArg (fun k => (madeCells (Value.int .u8 0).cells k).toList) (show (128 : Int).toNat * 1 = 128 by decide)) (madeCells_bytes 128)) (show (128 : Int).toNat = (List.replicate 128 (0 : UInt8)).length by rw [List.length_replicate]; decide))) ?_
      refine Q.val rfl rfl rfl rfl (fun w16 hE => fun v hv => by obtain ⟨x1, y1, rfl, _, hv⟩ := hv; exact R.bytesStr rfl hv.cells hv.len) ?_
      refine Q.val rfl rfl rfl rfl (fun w16 hE => R.eqStr rfl rfl) ?_
      first | refine Q.val rfl rfl rfl rfl (fun w16 hE => R.pickT rfl rfl) ?_ | refine Q.val rfl rfl rfl rfl (fun w16 hE => R.pickF rfl rfl) ?_
      refine Q.val rfl rfl rfl rfl (fun w16 hE => R.mv rfl) ?_
      refine Q.isT 89 rfl (by simp) ?_
      refine Q.val rfl rfl rfl rfl (fun w16 hE => R.mv rfl) ?_
      refine Q.call (.bool false) rfl rfl rfl go41 (fun w16 hE => ⟨_, rfl, (doff_ok d _ 4 S6 _ (D.ext0 hE)).mono (by rintro _ _ ⟨rfl, rfl⟩; exact ⟨rfl, Ext.refl _ _⟩)⟩) ?_
      refine Q.val rfl rfl rfl rfl (fun w16 hE => R.not rfl) ?_
      first | refine Q.val rfl rfl rfl rfl (fun w16 hE => R.pickT rfl rfl) ?_ | refine Q.val rfl rfl rfl rfl (fun w16 hE => R.pickF rfl rfl) ?_
      refine Q.val rfl rfl rfl rfl (fun w16 hE => R.mv rfl) ?_
      refine Q.isT 94 rfl (by rfl) ?_
      refine Q.val rfl rfl rfl rfl (fun w16 hE => R.mv rfl) ?_
      refine Q.call (.int .i64 0) rfl rfl rfl go38 (fun w16 hE => ⟨_, rfl, (dwaiting_ok d _ 4 S6 _ (D.ext0 hE)).mono (by rintro _ _ ⟨rfl, rfl⟩; exact ⟨rfl, Ext.refl _ _⟩)⟩) ?_
      refine Q.val rfl rfl rfl rfl (fun w16 hE => R.eqI rfl rfl) ?_
      first | refine Q.val rfl rfl rfl rfl (fun w16 hE => R.pickT rfl rfl) ?_ | refine Q.val rfl rfl rfl rfl (fun w16 hE => R.pickF rfl rfl) ?_
      refine Q.val rfl rfl rfl rfl (fun w16 hE => R.as rfl) ?_
      refine Q.nil (fun w16 e16 => ?_)
      intro v85 _
      replace E := E.trans0 e16
      refine N.seq ?_
      refine G.ret1 rfl rfl ?_
      first | exact ⟨rfl, E⟩ | exact ⟨congrArg Value.bool (by simp), E⟩

end Go.Proofs.Ytjmlcodlnohgdaa
