/-
  The walks of the laws on image.
-/
import Derived.Test.YtjmlcodlnohgdaaImage7
import Derived.Test.YtjmlcodlnohgdaaImage4
set_option linter.unusedVariables false
set_option linter.unusedSimpArgs false
namespace Go.Proofs.Ytjmlcodlnohgdaa
open Go Brv Brv.Image
theorem tab1 {w : World} {g : Nat} {o : WriteV} {U : TypeId} {fz : Nat × Nat} (h : Blk w g (o.cells ++ []).toArray U fz) : Tab w (some ⟨g, 0, none⟩) 1 2 ([o].map WriteV.cells) :=
  ⟨Cells.of_blk h 0 _ (fun j v hj => by simpa using hj), rfl, fun vs hv => by rw [List.map_singleton, List.mem_singleton] at hv; rw [hv]; rfl⟩
theorem image_first_ok  (w : World) : Meets Try.prog 16 [] w (fun v w' => v = .bool true ∧ Ext [] w w') := by
  refine Meets.enter Try.func16 rfl 106 rfl (Nat.le_of_ble_eq_true rfl) ?_
  have E := Ext.refl [] w
  refine G.seq ?_
  refine G.region ?_
  refine L.val rfl rfl (R.as rfl) ?_
  refine L.nil ?_
  refine N.seq ?_
  refine G.seq ?_
  refine G.region ?_
  refine L.callF rfl rfl rfl go17 (inew_ok 2 _ (by decide) (by decide)) ?_
  rintro _ w1 ⟨d1, rfl, e1, O1⟩
  replace E := E.trans0 e1
  have D1 : DiskAt w1 d1 x2 := O1.at
  have hE1 := E.size
  refine L.val rfl rfl (R.mv rfl) ?_
  refine L.val rfl rfl (R.ext rfl rfl) ?_
  refine L.val rfl rfl (R.ext rfl rfl) ?_
  refine L.val rfl rfl (R.as rfl) ?_
  refine L.val rfl rfl (R.as rfl) ?_
  refine L.nil ?_
  refine N.seq ?_
  refine G.seq ?_
  refine G.region ?_
  refine L.do rfl rfl (R.make rfl rfl (by decide) (by decide) (by decide) (by decide)) ?_
  rintro _ w2 ⟨b3, rfl, hb3, hs2, e2, B3⟩
  have hE1b := E.size
  replace E := E.trans0 e2
  refine L.val rfl rfl (R.as rfl) ?_
  refine L.nil ?_
  refine N.seq ?_
  refine G.seq ?_
  refine G.region ?_
  refine L.val rfl rfl (R.mv rfl) ?_
  refine L.val rfl rfl (R.idx rfl rfl (by decide) (by decide) _ rfl) ?_
  refine L.be 19 rfl (show _ = Value.pointer (some ⟨b3, 3, none⟩) by rw [Go.Addr.add_lit]; rfl) ?_
  refine L.set rfl (R.st rfl rfl B3 (by simp [madeCells, Value.cells]) rfl) ?_
  rintro w3 ⟨e3, hs3, B3⟩
  have L3 : Bs w3 (some ⟨b3, 0, none⟩) 64 wB := Bs.of_blk B3 wB (by rw [Array.toList_setIfInBounds, madeCells_bytes]; rfl) 64 rfl
  replace E := E.news2 e3 (by omega)
  replace D1 : DiskAt w3 d1 x2 := O1.at.ext0 (e2.news2 e3 (by omega))
  refine L.nil ?_
  refine N.seq ?_
  refine G.seq ?_
  refine G.region ?_
  refine L.val rfl rfl (R.mv rfl) ?_
  refine L.val rfl rfl (R.mv rfl) ?_
  refine L.val rfl rfl (R.build (cs := #[.int .i64 1, .slice (some ⟨b3, 0, none⟩) 64 64]) rfl rfl) ?_
  refine L.do rfl rfl (R.buildA rfl rfl rfl rfl rfl) ?_
  rintro _ w4 ⟨c4, rfl, hc4, hs4, e4, C4⟩
  replace E := E.trans0 e4
  replace D1 := D1.ext0 e4
  replace L3 := L3.ext0 e4
  obtain ⟨o1, ho1⟩ : ∃ o : WriteV, o = ⟨1, some ⟨b3, 0, none⟩, 64, 64, wB⟩ := ⟨_, rfl⟩
  have To1 : Tab w4 (some ⟨c4, 0, none⟩) 1 2 ([o1].map WriteV.cells) := tab1 (by rw [ho1]; exact C4)
  have Ko1 : ∀ u ∈ [o1], Bs w4 u.B'a u.B'n u.B' := by intro u hu; rw [List.mem_singleton.1 hu, ho1]; exact L3
  have Vo1 : [o1].map wv = [(1, wB)] := by rw [ho1]; rfl
  refine L.callF rfl rfl rfl go19 (iwith_ok d1 x2 _ 1 1 [o1] _ D1 To1 Ko1 (by decide)) ?_
  rintro _ w5 ⟨e5, hA, _⟩
  rw [Vo1, f1] at hA
  obtain ⟨d4, rfl, D4⟩ := hA rfl
  replace E := E.trans0 e5
  replace D1 := D1.ext0 e5
  replace L3 := L3.ext0 e5
  refine L.val rfl rfl (R.mv rfl) ?_
  refine L.val rfl rfl (R.ext rfl rfl) ?_
  refine L.val rfl rfl (R.ext rfl rfl) ?_
  refine L.val rfl rfl (R.as rfl) ?_
  refine L.val rfl rfl (R.as rfl) ?_
  refine L.nil ?_
  refine N.seq ?_
  refine G.seq ?_
  refine G.region ?_
  refine L.val rfl rfl (R.mv rfl) ?_
  refine L.val rfl rfl (R.mv rfl) ?_
  refine L.val rfl rfl (R.build (cs := #[.int .i64 2, .slice (some ⟨b3, 0, none⟩) 64 64]) rfl rfl) ?_
  refine L.do rfl rfl (R.buildA rfl rfl rfl rfl rfl) ?_
  rintro _ w6 ⟨c6, rfl, hc6, hs6, e6, C6⟩
  replace E := E.trans0 e6
  replace D1 := D1.ext0 e6
  replace L3 := L3.ext0 e6
  replace D4 := D4.ext0 e6
  obtain ⟨o2, ho2⟩ : ∃ o : WriteV, o = ⟨2, some ⟨b3, 0, none⟩, 64, 64, wB⟩ := ⟨_, rfl⟩
  have To2 : Tab w6 (some ⟨c6, 0, none⟩) 1 2 ([o2].map WriteV.cells) := tab1 (by rw [ho2]; exact C6)
  have Ko2 : ∀ u ∈ [o2], Bs w6 u.B'a u.B'n u.B' := by intro u hu; rw [List.mem_singleton.1 hu, ho2]; exact L3
  have Vo2 : [o2].map wv = [(2, wB)] := by rw [ho2]; rfl
  refine L.callF rfl rfl rfl go19 (iwith_ok d1 x2 _ 1 1 [o2] _ D1 To2 Ko2 (by decide)) ?_
  rintro _ w7 ⟨e7, _, hA⟩
  rw [Vo2, f2] at hA
  obtain rfl := hA (by decide)
  replace E := E.trans0 e7
  replace D4 := D4.ext0 e7
  replace D1 := D1.ext0 e7
  replace L3 := L3.ext0 e7
  refine L.val rfl rfl (R.mv rfl) ?_
  refine L.val rfl rfl (R.ext rfl rfl) ?_
  refine L.val rfl rfl (R.ext rfl rfl) ?_
  refine L.val rfl rfl (R.as rfl) ?_
  refine L.val rfl rfl (R.as rfl) ?_
  refine L.nil ?_
  refine N.seq ?_
  refine G.seq ?_
  refine G.region ?_
  refine L.val rfl rfl (R.mv rfl) ?_
  refine L.val rfl rfl (R.mv rfl) ?_
  refine L.val rfl rfl (R.slH rfl rfl (by decide) (by decide)) ?_
  refine L.be 39 rfl (show _ = Value.slice (some ⟨b3, 0, none⟩) 5 64 by rw [subA_zero]; rfl) ?_
  refine L.val rfl rfl (R.build (cs := #[.int .i64 0, .slice (some ⟨b3, 0, none⟩) 5 64]) rfl rfl) ?_
  refine L.do rfl rfl (R.buildA rfl rfl rfl rfl rfl) ?_
  rintro _ w8 ⟨c8, rfl, hc8, hs8, e8, C8⟩
  replace E := E.trans0 e8
  replace D1 := D1.ext0 e8
  replace L3 := L3.ext0 e8
  replace D4 := D4.ext0 e8
  obtain ⟨o3, ho3⟩ : ∃ o : WriteV, o = ⟨0, some ⟨b3, 0, none⟩, 5, 64, (wB.take 5)⟩ := ⟨_, rfl⟩
  have To3 : Tab w8 (some ⟨c8, 0, none⟩) 1 2 ([o3].map WriteV.cells) := tab1 (by rw [ho3]; exact C8)
  have Ko3 : ∀ u ∈ [o3], Bs w8 u.B'a u.B'n u.B' := by intro u hu; rw [List.mem_singleton.1 hu, ho3]; exact L3.pre 5 (by decide)
  have Vo3 : [o3].map wv = [(0, (wB.take 5))] := by rw [ho3]; rfl
  refine L.callF rfl rfl rfl go19 (iwith_ok d1 x2 _ 1 1 [o3] _ D1 To3 Ko3 (by decide)) ?_
  rintro _ w9 ⟨e9, _, hA⟩
  rw [Vo3, f3] at hA
  obtain rfl := hA (by decide)
  replace E := E.trans0 e9
  replace D4 := D4.ext0 e9
  replace D1 := D1.ext0 e9
  replace L3 := L3.ext0 e9
  refine L.val rfl rfl (R.mv rfl) ?_
  refine L.val rfl rfl (R.ext rfl rfl) ?_
  refine L.val rfl rfl (R.ext rfl rfl) ?_
  refine L.val rfl rfl (R.as rfl) ?_
  refine L.val rfl rfl (R.as rfl) ?_
  refine L.nil ?_
  refine N.seq ?_
  refine G.seq ?_
  refine G.region ?_
  refine L.val rfl rfl (R.mv rfl) ?_
  refine L.callF rfl rfl rfl go18 (iget_ok d4 x1 1 _ D4) ?_
  rintro _ w10 ⟨a10, c10, M10, rfl, e10, o10, _⟩
  rw [f4, if_pos f4'] at *
  replace E := E.trans0 e10
  replace D4 := D4.ext0 e10
  replace D1 := D1.ext0 e10
  replace L3 := L3.ext0 e10
  have L10 := Bs.of_own o10
  refine L.val rfl rfl (R.mv rfl) ?_
  refine L.val rfl rfl (R.ext rfl rfl) ?_
  refine L.val rfl rfl (R.ext rfl rfl) ?_
  refine L.val rfl rfl (R.as rfl) ?_
  refine L.val rfl rfl (R.as rfl) ?_
  refine L.nil ?_
  refine N.seq ?_
  refine G.seq ?_
  refine G.region ?_
  refine L.val rfl rfl (R.mv rfl) ?_
  refine L.val rfl rfl (R.mv rfl) ?_
  refine L.callF rfl rfl rfl go26 (idiff_ok _ _ _ _ _ D1.o D4.o) ?_
  rintro _ w11 ⟨a11, c11, M11, rfl, e11, o11, _⟩
  rw [f5] at *
  replace E := E.trans0 e11
  replace D4 := D4.ext0 e11
  replace L10 := L10.ext0 e11
  replace D1 := D1.ext0 e11
  replace L3 := L3.ext0 e11
  obtain ⟨q11, rfl, hq11⟩ := o11.cells 0 (num 1) rfl
  refine L.val rfl rfl (R.as rfl) ?_
  refine L.nil ?_
  refine N.seq ?_
  refine G.seq ?_
  refine G.region ?_
  refine L.val rfl rfl (R.mv rfl) ?_
  refine L.val rfl rfl (R.eqI rfl rfl) ?_
  refine L.val rfl rfl (R.mv rfl) ?_
  refine L.isT 55 rfl (by rfl) ?_
  refine L.val rfl rfl (R.mv rfl) ?_
  refine L.val rfl rfl (R.eqI rfl rfl) ?_
  first | refine L.val rfl rfl (R.pickT rfl rfl) ?_ | refine L.val rfl rfl (R.pickF rfl rfl) ?_
  refine L.val rfl rfl (R.mv rfl) ?_
  refine L.isT 59 rfl (by rfl) ?_
  refine L.val rfl rfl (R.mv rfl) ?_
  refine L.val rfl rfl (R.eqI rfl rfl) ?_
  first | refine L.val rfl rfl (R.pickT rfl rfl) ?_ | refine L.val rfl rfl (R.pickF rfl rfl) ?_
  refine L.val rfl rfl (R.mv rfl) ?_
  refine L.isT 63 rfl (by rfl) ?_
  refine L.val rfl rfl (R.mv rfl) ?_
  refine L.val rfl rfl (R.eqI rfl rfl) ?_
  first | refine L.val rfl rfl (R.pickT rfl rfl) ?_ | refine L.val rfl rfl (R.pickF rfl rfl) ?_
  refine L.val rfl rfl (R.mv rfl) ?_
  refine L.isT 67 rfl (by rfl) ?_
  refine L.val rfl rfl (R.mv rfl) ?_
  refine L.val rfl rfl (R.eqI rfl rfl) ?_
  first | refine L.val rfl rfl (R.pickT rfl rfl) ?_ | refine L.val rfl rfl (R.pickF rfl rfl) ?_
  refine L.val rfl rfl (R.mv rfl) ?_
  refine L.isT 71 rfl (by rfl) ?_
  refine L.val rfl rfl (R.mv rfl) ?_
  refine L.val rfl rfl (R.bytesStr rfl L10.cells L10.len) ?_
  refine L.val rfl rfl (R.mv rfl) ?_
  refine L.val rfl rfl (R.bytesStr rfl L3.cells L3.len) ?_
  refine L.val rfl rfl (R.eqStr rfl rfl) ?_
  first | refine L.val rfl rfl (R.pickT rfl rfl) ?_ | refine L.val rfl rfl (R.pickF rfl rfl) ?_
  refine L.val rfl rfl (R.mv rfl) ?_
  refine L.isT 78 rfl (by simp) ?_
  refine L.val rfl rfl (R.mv rfl) ?_
  refine L.val rfl rfl (R.lenS rfl) ?_
  refine L.val rfl rfl (R.eqI rfl rfl) ?_
  first | refine L.val rfl rfl (R.pickT rfl rfl) ?_ | refine L.val rfl rfl (R.pickF rfl rfl) ?_
  refine L.val rfl rfl (R.mv rfl) ?_
  refine L.isT 83 rfl (by rfl) ?_
  refine L.val rfl rfl (R.mv rfl) ?_
  refine L.val rfl rfl (R.idx rfl rfl (by decide) (by decide) _ rfl) ?_
  refine L.val rfl rfl (R.ld rfl (v := num 1) hq11) ?_
  refine L.val rfl rfl (R.eqI rfl rfl) ?_
  first | refine L.val rfl rfl (R.pickT rfl rfl) ?_ | refine L.val rfl rfl (R.pickF rfl rfl) ?_
  refine L.val rfl rfl (R.mv rfl) ?_
  refine L.isT 89 rfl (by rfl) ?_
  refine L.val rfl rfl (R.mv rfl) ?_
  refine L.val rfl rfl (R.mv rfl) ?_
  refine L.callF rfl rfl rfl go22 (isame_ok _ _ _ _ _ D1.o D4.o) ?_
  rintro _ w12 ⟨rfl, e12⟩
  replace E := E.trans0 e12
  rw [decide_eq_false f6]
  replace D1 := D1.ext0 e12
  refine L.val rfl rfl (R.not rfl) ?_
  first | refine L.val rfl rfl (R.pickT rfl rfl) ?_ | refine L.val rfl rfl (R.pickF rfl rfl) ?_
  refine L.val rfl rfl (R.mv rfl) ?_
  refine L.isT 95 rfl (by rfl) ?_
  refine L.val rfl rfl (R.mv rfl) ?_
  refine L.val rfl rfl (R.mv rfl) ?_
  refine L.callF rfl rfl rfl go22 (isame_ok _ _ _ _ _ D1.o D1.o) ?_
  rintro _ w13 ⟨rfl, e13⟩
  replace E := E.trans0 e13
  rw [decide_eq_true rfl]
  replace D1 := D1.ext0 e13
  first | refine L.val rfl rfl (R.pickT rfl rfl) ?_ | refine L.val rfl rfl (R.pickF rfl rfl) ?_
  refine L.val rfl rfl (R.mv rfl) ?_
  refine L.isT 100 rfl (by rfl) ?_
  refine L.val rfl rfl (R.mv rfl) ?_
  refine L.callF rfl rfl rfl go21 (ibytes_ok _ _ _ D1.o) ?_
  rintro _ w14 ⟨a14, c14, M14, rfl, e14, o14, _⟩
  replace E := E.trans0 e14
  refine L.val rfl rfl (R.lenS rfl) ?_
  refine L.val rfl rfl (R.eqI rfl rfl) ?_
  first | refine L.val rfl rfl (R.pickT rfl rfl) ?_ | refine L.val rfl rfl (R.pickF rfl rfl) ?_
  refine L.val rfl rfl (R.as rfl) ?_
  refine L.nil ?_
  refine N.seq ?_
  refine G.ret1 rfl rfl ?_
  exact ⟨congrArg Value.bool (by decide +kernel), E⟩

end Go.Proofs.Ytjmlcodlnohgdaa
