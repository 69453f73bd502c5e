/-
  The walks of the laws on dev.
-/
import Derived.Test.YtjmlcodlnohgdaaDev7
import Derived.Test.YtjmlcodlnohgdaaDev5
import Derived.Test.YtjmlcodlnohgdaaDev4
set_option linter.unusedVariables false
set_option linter.unusedSimpArgs false
namespace Go.Proofs.Ytjmlcodlnohgdaa
open Go Brv Brv.Image Brv.Dev
theorem dev_first_ok  (w : World) : Meets Try.prog 32 [] w (fun v w' => v = .bool true ∧ Ext [] w w') := by
  refine Meets.enter Try.func32 rfl 112 rfl (Nat.le_of_ble_eq_true rfl) ?_
  have E := Ext.refl [] w
  refine G.seq ?_
  refine G.region ?_
  refine L.val rfl rfl (R.as rfl) ?_
  refine L.nil ?_
  refine N.seq ?_
  refine G.seq ?_
  refine G.region ?_
  refine L.callF rfl rfl rfl go33 (dnew_ok 3 _ (by decide) (by decide)) ?_
  rintro _ w1 ⟨d, S, rfl, e1, D, hS⟩
  replace E := E.trans0 e1
  have hsz1 := e1.size
  refine L.val rfl rfl (R.mv rfl) ?_
  refine L.val rfl rfl (R.ext rfl rfl) ?_
  refine L.val rfl rfl (R.ext rfl rfl) ?_
  refine L.val rfl rfl (R.as rfl) ?_
  refine L.val rfl rfl (R.as rfl) ?_
  refine L.nil ?_
  refine N.seq ?_
  refine G.seq ?_
  refine G.seq ?_
  refine G.region ?_
  refine L.val rfl rfl (R.mv rfl) ?_
  refine L.val rfl rfl (R.eqNilP rfl rfl) ?_
  refine L.val rfl rfl (R.mv rfl) ?_
  refine L.isF 19 rfl (by rfl) ?_
  refine L.val rfl rfl (R.mv rfl) ?_
  refine L.val rfl rfl (R.neI rfl rfl) ?_
  first | refine L.val rfl rfl (R.pickT rfl rfl) ?_ | refine L.val rfl rfl (R.pickF rfl rfl) ?_
  refine L.nil ?_
  refine N.seq ?_
  refine G.condF rfl ?_
  refine G.skip ?_
  refine N.seq ?_
  refine G.seq ?_
  refine G.region ?_
  refine L.do rfl rfl (R.make rfl rfl (by decide) (by decide) (by decide) (by decide)) ?_
  rintro _ w2 ⟨b3, rfl, hb3, hs2, e2, B3⟩
  have hE1b := E.size
  have D1 := D
  have hlt1 := D.lt
  refine L.val rfl rfl (R.as rfl) ?_
  refine L.nil ?_
  refine N.seq ?_
  refine G.seq ?_
  refine G.region ?_
  refine L.val rfl rfl (R.mv rfl) ?_
  refine L.val rfl rfl (R.idx rfl rfl (by decide) (by decide) _ rfl) ?_
  refine L.be 25 rfl (show _ = Value.pointer (some ⟨b3, 0, none⟩) by rw [Go.Addr.add_lit]; rfl) ?_
  refine L.set rfl (R.st rfl rfl B3 (by simp [madeCells, Value.cells]) rfl) ?_
  rintro w3 ⟨e3, hs3, B3⟩
  have L3 : Bs w3 (some ⟨b3, 0, none⟩) 64 b7 := Bs.of_blk B3 b7 (by rw [Array.toList_setIfInBounds, madeCells_bytes]; rfl) 64 rfl
  have n3 := e2.news2 e3 (by omega)
  replace E := E.trans0 n3
  replace D := D1.ext0 n3
  have nb3 : b3 ∉ S := fun h => by have := hlt1 _ h; omega
  have lb3 := B3.lt
  refine L.nil ?_
  refine N.seq ?_
  refine G.seq ?_
  refine G.region ?_
  refine L.val rfl rfl (R.mv rfl) ?_
  refine L.val rfl rfl (R.mv rfl) ?_
  refine L.callF rfl rfl rfl go34 (dwrite_ok d (newV 3) 3 S 1 _ 64 64 b7 _ D (by decide) (by decide) L3 (by decide) (by decide) (fun q hq => by cases (effA.of hq); exact ⟨nb3, lb3⟩)) ?_
  rintro _ w4 ⟨rfl, S1, e4, D⟩
  rw [fu1]
  replace D : DevAt w4 d u1 3 S1 := D
  have hE4 := E.size
  replace E := E.fresh e4.1 hS
  replace hS := e4.fresh hS hE4
  have hsz4 := e4.1.size
  replace L3 := L3.ext e4.1 (fun q hq hm => by cases hq; exact nb3 hm)
  replace nb3 := fun h => (e4.2 b3 h).elim nb3 (by omega)
  replace lb3 := Nat.lt_of_lt_of_le lb3 hsz4
  refine L.val rfl rfl (R.as rfl) ?_
  refine L.nil ?_
  refine N.seq ?_
  refine G.seq ?_
  refine G.region ?_
  refine L.val rfl rfl (R.mv rfl) ?_
  refine L.callF rfl rfl rfl go35 (dread_ok d u1 3 S1 1 1 _ D (by decide +kernel)) ?_
  rintro _ w5 ⟨a5, c5, M5, rfl, e5, o5, hM5⟩
  rw [fu1r] at *
  have hlt5 := D.lt
  replace E := E.trans0 e5
  have hsz5 := e5.size
  replace D := D.ext0 e5
  replace L3 := L3.ext0 e5
  replace lb3 := Nat.lt_of_lt_of_le lb3 hsz5
  have L5 := Bs.of_own o5
  obtain ⟨x5, cx5, rfl, rfl, X5, hx5, _⟩ := o5.set 0 (by decide)
  have lx5 := X5.lt
  have nx5 : x5 ∉ S1 := fun h => by have := hlt5 _ h; have := hM5 x5 (by simp); omega
  refine L.val rfl rfl (R.mv rfl) ?_
  refine L.val rfl rfl (R.ext rfl rfl) ?_
  refine L.val rfl rfl (R.ext rfl rfl) ?_
  refine L.val rfl rfl (R.as rfl) ?_
  refine L.val rfl rfl (R.as rfl) ?_
  refine L.nil ?_
  refine N.seq ?_
  refine G.seq ?_
  refine G.region ?_
  refine L.val rfl rfl (R.mv rfl) ?_
  refine L.callF rfl rfl rfl go42 (dcrash_ok d u1 3 S1 none 0 [] _ D (by decide +kernel) (Cells.nil _ _) (fun p hp => by cases hp)) ?_
  rintro _ w6 ⟨S2, e6, D⟩
  replace D : DevAt w6 d u2 3 S2 := D
  have hE6 := E.size
  replace E := E.fresh e6.1 hS
  replace hS := e6.fresh hS hE6
  have hsz6 := e6.1.size
  replace L3 := L3.ext e6.1 (fun q hq hm => by cases hq; exact nb3 hm)
  replace nb3 := fun h => (e6.2 b3 h).elim nb3 (by omega)
  replace lb3 := Nat.lt_of_lt_of_le lb3 hsz6
  replace L5 := L5.ext e6.1 (fun q hq hm => by cases hq; exact nx5 hm)
  replace nx5 := fun h => (e6.2 x5 h).elim nx5 (by omega)
  replace lx5 := Nat.lt_of_lt_of_le lx5 hsz6
  refine L.nil ?_
  refine N.seq ?_
  refine G.seq ?_
  refine G.region ?_
  refine L.val rfl rfl (R.mv rfl) ?_
  refine L.callF rfl rfl rfl go35 (dread_ok d u2 3 S2 1 1 _ D (by decide +kernel)) ?_
  rintro _ w7 ⟨a7, c7, M7, rfl, e7, o7, hM7⟩
  rw [fu2r] at *
  have hlt7 := D.lt
  replace E := E.trans0 e7
  have hsz7 := e7.size
  replace D := D.ext0 e7
  replace L3 := L3.ext0 e7
  replace lb3 := Nat.lt_of_lt_of_le lb3 hsz7
  replace L5 := L5.ext0 e7
  replace lx5 := Nat.lt_of_lt_of_le lx5 hsz7
  have L7 := Bs.of_own o7
  obtain ⟨x7, cx7, rfl, rfl, X7, hx7, _⟩ := o7.set 0 (by decide)
  have lx7 := X7.lt
  have nx7 : x7 ∉ S2 := fun h => by have := hlt7 _ h; have := hM7 x7 (by simp); omega
  refine L.val rfl rfl (R.mv rfl) ?_
  refine L.val rfl rfl (R.ext rfl rfl) ?_
  refine L.val rfl rfl (R.ext rfl rfl) ?_
  refine L.val rfl rfl (R.as rfl) ?_
  refine L.val rfl rfl (R.as rfl) ?_
  refine L.nil ?_
  refine N.seq ?_
  refine G.seq ?_
  refine G.region ?_
  refine L.val rfl rfl (R.mv rfl) ?_
  refine L.val rfl rfl (R.mv rfl) ?_
  refine L.callF rfl rfl rfl go34 (dwrite_ok d u2 3 S2 2 _ 64 64 b7 _ D (by decide +kernel) (by decide +kernel) L3 (by decide) (by decide) (fun q hq => by cases (effA.of hq); exact ⟨nb3, lb3⟩)) ?_
  rintro _ w8 ⟨rfl, S3, e8, D⟩
  rw [fu3]
  replace D : DevAt w8 d u3 3 S3 := D
  have hE8 := E.size
  replace E := E.fresh e8.1 hS
  replace hS := e8.fresh hS hE8
  have hsz8 := e8.1.size
  replace L3 := L3.ext e8.1 (fun q hq hm => by cases hq; exact nb3 hm)
  replace nb3 := fun h => (e8.2 b3 h).elim nb3 (by omega)
  replace lb3 := Nat.lt_of_lt_of_le lb3 hsz8
  replace L5 := L5.ext e8.1 (fun q hq hm => by cases hq; exact nx5 hm)
  replace nx5 := fun h => (e8.2 x5 h).elim nx5 (by omega)
  replace lx5 := Nat.lt_of_lt_of_le lx5 hsz8
  replace L7 := L7.ext e8.1 (fun q hq hm => by cases hq; exact nx7 hm)
  replace nx7 := fun h => (e8.2 x7 h).elim nx7 (by omega)
  replace lx7 := Nat.lt_of_lt_of_le lx7 hsz8
  refine L.val rfl rfl (R.mv rfl) ?_
  refine L.callF rfl rfl rfl go36 (dflush_ok d u3 3 S3 _ D (by decide +kernel) (by decide +kernel)) ?_
  rintro _ w9 ⟨rfl, S4, e9, D⟩
  rw [fu4]
  replace D : DevAt w9 d u4 3 S4 := D
  have hE9 := E.size
  replace E := E.fresh e9.1 hS
  replace hS := e9.fresh hS hE9
  have hsz9 := e9.1.size
  replace L3 := L3.ext e9.1 (fun q hq hm => by cases hq; exact nb3 hm)
  replace nb3 := fun h => (e9.2 b3 h).elim nb3 (by omega)
  replace lb3 := Nat.lt_of_lt_of_le lb3 hsz9
  replace L5 := L5.ext e9.1 (fun q hq hm => by cases hq; exact nx5 hm)
  replace nx5 := fun h => (e9.2 x5 h).elim nx5 (by omega)
  replace lx5 := Nat.lt_of_lt_of_le lx5 hsz9
  replace L7 := L7.ext e9.1 (fun q hq hm => by cases hq; exact nx7 hm)
  replace nx7 := fun h => (e9.2 x7 h).elim nx7 (by omega)
  replace lx7 := Nat.lt_of_lt_of_le lx7 hsz9
  refine L.val rfl rfl (R.as rfl) ?_
  refine L.val rfl rfl (R.as rfl) ?_
  refine L.nil ?_
  refine N.seq ?_
  refine G.seq ?_
  refine G.region ?_
  refine L.val rfl rfl (R.mv rfl) ?_
  refine L.callF rfl rfl rfl go42 (dcrash_ok d u4 3 S4 none 0 [] _ D (by decide +kernel) (Cells.nil _ _) (fun p hp => by cases hp)) ?_
  rintro _ w10 ⟨S5, e10, D⟩
  replace D : DevAt w10 d u5 3 S5 := D
  have hE10 := E.size
  replace E := E.fresh e10.1 hS
  replace hS := e10.fresh hS hE10
  have hsz10 := e10.1.size
  replace L3 := L3.ext e10.1 (fun q hq hm => by cases hq; exact nb3 hm)
  replace nb3 := fun h => (e10.2 b3 h).elim nb3 (by omega)
  replace lb3 := Nat.lt_of_lt_of_le lb3 hsz10
  replace L5 := L5.ext e10.1 (fun q hq hm => by cases hq; exact nx5 hm)
  replace nx5 := fun h => (e10.2 x5 h).elim nx5 (by omega)
  replace lx5 := Nat.lt_of_lt_of_le lx5 hsz10
  replace L7 := L7.ext e10.1 (fun q hq hm => by cases hq; exact nx7 hm)
  replace nx7 := fun h => (e10.2 x7 h).elim nx7 (by omega)
  replace lx7 := Nat.lt_of_lt_of_le lx7 hsz10
  refine L.nil ?_
  refine N.seq ?_
  refine G.seq ?_
  refine G.region ?_
  refine L.val rfl rfl (R.mv rfl) ?_
  refine L.callF rfl rfl rfl go35 (dread_ok d u5 3 S5 2 1 _ D (by decide +kernel)) ?_
  rintro _ w11 ⟨a11, c11, M11, rfl, e11, o11, hM11⟩
  rw [fu5r] at *
  have hlt11 := D.lt
  replace E := E.trans0 e11
  have hsz11 := e11.size
  replace D := D.ext0 e11
  replace L3 := L3.ext0 e11
  replace lb3 := Nat.lt_of_lt_of_le lb3 hsz11
  replace L5 := L5.ext0 e11
  replace lx5 := Nat.lt_of_lt_of_le lx5 hsz11
  replace L7 := L7.ext0 e11
  replace lx7 := Nat.lt_of_lt_of_le lx7 hsz11
  have L11 := Bs.of_own o11
  obtain ⟨x11, cx11, rfl, rfl, X11, hx11, _⟩ := o11.set 0 (by decide)
  have lx11 := X11.lt
  have nx11 : x11 ∉ S5 := fun h => by have := hlt11 _ h; have := hM11 x11 (by simp); omega
  refine L.val rfl rfl (R.mv rfl) ?_
  refine L.val rfl rfl (R.ext rfl rfl) ?_
  refine L.val rfl rfl (R.ext rfl rfl) ?_
  refine L.val rfl rfl (R.as rfl) ?_
  refine L.val rfl rfl (R.as rfl) ?_
  refine L.nil ?_
  refine N.seq ?_
  refine G.seq ?_
  refine G.region ?_
  obtain ⟨p5, hp5, hc5⟩ := L5.at 0 (by decide)
  obtain ⟨p7, hp7, hc7⟩ := L7.at 0 (by decide)
  obtain ⟨p11, hp11, hc11⟩ := L11.at 0 (by decide)
  cases hp5
  cases hp7
  cases hp11
  refine L.val rfl rfl (R.mv rfl) ?_
  refine L.val rfl rfl (R.eqI rfl rfl) ?_
  refine L.val rfl rfl (R.mv rfl) ?_
  refine L.isT 55 rfl (by rfl) ?_
  refine L.val rfl rfl (R.mv rfl) ?_
  refine L.val rfl rfl (R.eqI rfl rfl) ?_
  first | refine L.val rfl rfl (R.pickT rfl rfl) ?_ | refine L.val rfl rfl (R.pickF rfl rfl) ?_
  refine L.val rfl rfl (R.mv rfl) ?_
  refine L.isT 59 rfl (by rfl) ?_
  refine L.val rfl rfl (R.mv rfl) ?_
  refine L.val rfl rfl (R.eqI rfl rfl) ?_
  first | refine L.val rfl rfl (R.pickT rfl rfl) ?_ | refine L.val rfl rfl (R.pickF rfl rfl) ?_
  refine L.val rfl rfl (R.mv rfl) ?_
  refine L.isT 63 rfl (by rfl) ?_
  refine L.val rfl rfl (R.mv rfl) ?_
  refine L.val rfl rfl (R.lenS rfl) ?_
  refine L.val rfl rfl (R.eqI rfl rfl) ?_
  first | refine L.val rfl rfl (R.pickT rfl rfl) ?_ | refine L.val rfl rfl (R.pickF rfl rfl) ?_
  refine L.val rfl rfl (R.mv rfl) ?_
  refine L.isT 68 rfl (by rfl) ?_
  refine L.val rfl rfl (R.mv rfl) ?_
  refine L.val rfl rfl (R.idx rfl rfl (by decide) (by decide) _ rfl) ?_
  refine L.val rfl rfl (R.ld rfl hc5) ?_
  refine L.val rfl rfl (R.eqI rfl rfl) ?_
  first | refine L.val rfl rfl (R.pickT rfl rfl) ?_ | refine L.val rfl rfl (R.pickF rfl rfl) ?_
  refine L.val rfl rfl (R.mv rfl) ?_
  refine L.isT 74 rfl (by rfl) ?_
  refine L.val rfl rfl (R.mv rfl) ?_
  refine L.val rfl rfl (R.lenS rfl) ?_
  refine L.val rfl rfl (R.eqI rfl rfl) ?_
  first | refine L.val rfl rfl (R.pickT rfl rfl) ?_ | refine L.val rfl rfl (R.pickF rfl rfl) ?_
  refine L.val rfl rfl (R.mv rfl) ?_
  refine L.isT 79 rfl (by rfl) ?_
  refine L.val rfl rfl (R.mv rfl) ?_
  refine L.val rfl rfl (R.idx rfl rfl (by decide) (by decide) _ rfl) ?_
  refine L.val rfl rfl (R.ld rfl hc7) ?_
  refine L.val rfl rfl (R.eqI rfl rfl) ?_
  first | refine L.val rfl rfl (R.pickT rfl rfl) ?_ | refine L.val rfl rfl (R.pickF rfl rfl) ?_
  refine L.val rfl rfl (R.mv rfl) ?_
  refine L.isT 85 rfl (by rfl) ?_
  refine L.val rfl rfl (R.mv rfl) ?_
  refine L.val rfl rfl (R.lenS rfl) ?_
  refine L.val rfl rfl (R.eqI rfl rfl) ?_
  first | refine L.val rfl rfl (R.pickT rfl rfl) ?_ | refine L.val rfl rfl (R.pickF rfl rfl) ?_
  refine L.val rfl rfl (R.mv rfl) ?_
  refine L.isT 90 rfl (by rfl) ?_
  refine L.val rfl rfl (R.mv rfl) ?_
  refine L.val rfl rfl (R.idx rfl rfl (by decide) (by decide) _ rfl) ?_
  refine L.val rfl rfl (R.ld rfl hc11) ?_
  refine L.val rfl rfl (R.eqI rfl rfl) ?_
  first | refine L.val rfl rfl (R.pickT rfl rfl) ?_ | refine L.val rfl rfl (R.pickF rfl rfl) ?_
  refine L.val rfl rfl (R.mv rfl) ?_
  refine L.isT 96 rfl (by rfl) ?_
  refine L.val rfl rfl (R.mv rfl) ?_
  refine L.callF rfl rfl rfl go44 (dsize_ok d u5 3 S5 _ D) ?_
  rintro _ _ ⟨rfl, hw⟩
  obtain rfl := hw.symm
  refine L.val rfl rfl (R.eqI rfl rfl) ?_
  first | refine L.val rfl rfl (R.pickT rfl rfl) ?_ | refine L.val rfl rfl (R.pickF rfl rfl) ?_
  refine L.val rfl rfl (R.mv rfl) ?_
  refine L.isT 101 rfl (by rfl) ?_
  refine L.val rfl rfl (R.mv rfl) ?_
  refine L.callF rfl rfl rfl go39 (dcalls_ok d u5 3 S5 _ D) ?_
  rintro _ _ ⟨rfl, hw⟩
  obtain rfl := hw.symm
  refine L.val rfl rfl (R.eqI rfl rfl) ?_
  first | refine L.val rfl rfl (R.pickT rfl rfl) ?_ | refine L.val rfl rfl (R.pickF rfl rfl) ?_
  refine L.val rfl rfl (R.mv rfl) ?_
  refine L.isT 106 rfl (by rw [fu5c]; rfl) ?_
  refine L.val rfl rfl (R.mv rfl) ?_
  refine L.callF rfl rfl rfl go37 (dimage_ok d u5 3 S5 _ D) ?_
  rintro _ w12 ⟨a12, c12, M12, rfl, e12, _, _⟩
  replace E := E.trans0 e12
  refine L.val rfl rfl (R.lenS rfl) ?_
  refine L.val rfl rfl (R.eqI rfl rfl) ?_
  first | refine L.val rfl rfl (R.pickT rfl rfl) ?_ | refine L.val rfl rfl (R.pickF rfl rfl) ?_
  refine L.val rfl rfl (R.as rfl) ?_
  refine L.nil ?_
  refine N.seq ?_
  refine G.ret1 rfl rfl ?_
  exact ⟨congrArg Value.bool (by rw [fu5l]; rfl), E⟩

end Go.Proofs.Ytjmlcodlnohgdaa
