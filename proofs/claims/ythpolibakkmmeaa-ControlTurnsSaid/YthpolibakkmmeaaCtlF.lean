/-
  The walks of package control.
-/
import Derived.Test.YthpolibakkmmeaaCtl4
import Derived.Test.YthpolibakkmmeaaControlPure2
import Derived.Test.YthpolibakkmmeaaTyQ
set_option linter.unusedVariables false
set_option linter.unusedSimpArgs false
namespace Go.Proofs.Ythpolibakkmmeaa
open Go Brv Brv.Crc Brv.Pack Brv.Frame Brv.Image Brv.Dev Brv.Control
theorem control_first_ok  (w : World) : Meets Try.prog 71 [] w (fun v w' => v = .bool true ∧ Ext [] w w') := by
  refine Meets.enter Try.func71 rfl 77 rfl (Nat.le_of_ble_eq_true rfl) ?_
  have E := Ext.refl [] w
  refine G.seq ?_
  refine G.region ?_
  refine L.val rfl rfl (R.as rfl) ?_
  refine L.nil ?_
  refine N.seq ?_
  refine G.seq ?_
  refine G.region ?_
  refine L.callF rfl rfl rfl go78 (dnew_ok 4 _ (by decide) (by decide)) ?_
  rintro _ w1 ⟨d, S, rfl, e1, D, hS⟩
  replace E := E.trans0 e1
  refine L.val rfl rfl (R.mv rfl) ?_
  refine L.val rfl rfl (R.ext rfl rfl) ?_
  refine L.val rfl rfl (R.ext rfl rfl) ?_
  refine L.val rfl rfl (R.as rfl) ?_
  refine L.val rfl rfl (R.as rfl) ?_
  refine L.nil ?_
  refine N.seq ?_
  refine G.seq ?_
  refine G.region ?_
  refine L.val rfl rfl (R.build1 (cs := ctlC c4) rfl rfl rfl) ?_
  refine L.do rfl rfl (R.alloc) ?_
  rintro _ w2 ⟨b3, rfl, hb3, hs2, e2, B3⟩
  have hE2 := E.size
  have hlt2 := D.lt
  replace E := E.trans0 e2
  replace D := D.ext0 e2
  refine L.set rfl (R.stN rfl rfl B3 rfl (Nat.le_refl 7) (ctlC_one _)) ?_
  rintro w3 ⟨e3, hs3, B3x⟩
  replace D := D.ext e3 (fun y hy hm => by have h9 := hlt2 _ hy; rw [List.mem_singleton.1 hm] at h9; omega)
  replace B3 : Blk w3 b3 (ctlC c4) 121 (0, 0) := by rw [all_stored (by rfl)] at B3x; exact B3x
  replace E := E.trans e3 (M := []) (by simp) (by intro x hx; rw [List.mem_singleton.1 hx]; exact .inr (by omega))
  refine L.nil ?_
  refine N.seq ?_
  refine G.seq ?_
  refine G.region ?_
  refine L.val rfl rfl (R.mv rfl) ?_
  refine L.val rfl rfl (R.ldBN rfl B3 rfl) ?_
  refine L.callF rfl rfl rfl go80 (cwrite_ok d (newV 4) 4 S 1 c4 _ D (InC.of c4_ok) (by decide) (by decide)) ?_
  rintro _ w4 ⟨rfl, S1, g4, D1⟩
  rw [first_write] at D1 ⊢
  have hEw := E.size
  have n3 : b3 ∉ S := fun h => by have := hlt2 _ h; omega
  replace B3 := B3.ext g4.1 n3
  replace E := E.fresh g4.1 hS
  replace hS := g4.fresh hS hEw
  refine L.val rfl rfl (R.mv rfl) ?_
  refine L.val rfl rfl (R.ext rfl rfl) ?_
  refine L.val rfl rfl (R.ext rfl rfl) ?_
  refine L.do rfl rfl (R.alloc) ?_
  rintro _ w5 ⟨b4, rfl, hb4, hs5, e5, B4⟩
  have hE5 := E.size
  have hlt5 := D1.lt
  have hl5_B3 := B3.lt
  replace E := E.trans0 e5
  replace B3 := B3.ext0 e5
  replace D1 := D1.ext0 e5
  refine L.set rfl (R.stN rfl rfl B4 rfl (Nat.le_refl 7) (ctlC_one _)) ?_
  rintro w6 ⟨e6, hs6, B4x⟩
  replace B3 := B3.ext e6 (by simp; omega)
  replace D1 := D1.ext e6 (fun y hy hm => by have h9 := hlt5 _ hy; rw [List.mem_singleton.1 hm] at h9; omega)
  replace B4 : Blk w6 b4 (ctlC c5) 121 (0, 0) := by rw [all_stored (by rfl)] at B4x; exact B4x
  replace E := E.trans e6 (M := []) (by simp) (by intro x hx; rw [List.mem_singleton.1 hx]; exact .inr (by omega))
  refine L.val rfl rfl (R.as rfl) ?_
  refine L.nil ?_
  refine N.seq ?_
  refine G.seq ?_
  refine G.region ?_
  refine L.val rfl rfl (R.mv rfl) ?_
  refine L.callF rfl rfl rfl go81 (cread_ok d _ 4 S1 1 _ D1 (by decide)) ?_
  rintro _ w7 ⟨rfl, e7⟩
  rw [first_read]
  replace E := E.trans0 e7
  replace B3 := B3.ext0 e7
  replace B4 := B4.ext0 e7
  replace D1 := D1.ext0 e7
  refine L.val rfl rfl (R.mv rfl) ?_
  refine L.val rfl rfl (R.ext rfl rfl) ?_
  refine L.val rfl rfl (R.ext rfl rfl) ?_
  refine L.do rfl rfl (R.alloc) ?_
  rintro _ w8 ⟨b6, rfl, hb6, hs8, e8, B6⟩
  have hE8 := E.size
  have hlt8 := D1.lt
  have hl8_B3 := B3.lt
  have hl8_B4 := B4.lt
  replace E := E.trans0 e8
  replace B3 := B3.ext0 e8
  replace B4 := B4.ext0 e8
  replace D1 := D1.ext0 e8
  refine L.set rfl (R.stN rfl rfl B6 rfl (Nat.le_refl 7) (ctlC_one _)) ?_
  rintro w9 ⟨e9, hs9, B6x⟩
  replace B3 := B3.ext e9 (by simp; omega)
  replace B4 := B4.ext e9 (by simp; omega)
  replace D1 := D1.ext e9 (fun y hy hm => by have h9 := hlt8 _ hy; rw [List.mem_singleton.1 hm] at h9; omega)
  replace B6 : Blk w9 b6 (ctlC c5) 121 (0, 0) := by rw [all_stored (by rfl)] at B6x; exact B6x
  replace E := E.trans e9 (M := []) (by simp) (by intro x hx; rw [List.mem_singleton.1 hx]; exact .inr (by omega))
  refine L.val rfl rfl (R.as rfl) ?_
  refine L.nil ?_
  refine N.seq ?_
  refine G.seq ?_
  refine G.region ?_
  refine L.val rfl rfl (R.mv rfl) ?_
  refine L.callF rfl rfl rfl go81 (cread_ok d _ 4 S1 2 _ D1 (by decide)) ?_
  rintro _ w10 ⟨rfl, e10⟩
  rw [first_read2]
  replace E := E.trans0 e10
  replace B3 := B3.ext0 e10
  replace B4 := B4.ext0 e10
  replace B6 := B6.ext0 e10
  refine L.val rfl rfl (R.mv rfl) ?_
  refine L.val rfl rfl (R.ext rfl rfl) ?_
  refine L.val rfl rfl (R.ext rfl rfl) ?_
  refine L.do rfl rfl (R.alloc) ?_
  rintro _ w11 ⟨b8, rfl, hb8, hs11, e11, B8⟩
  have hE11 := E.size
  have hl11_B3 := B3.lt
  have hl11_B4 := B4.lt
  have hl11_B6 := B6.lt
  replace E := E.trans0 e11
  replace B3 := B3.ext0 e11
  replace B4 := B4.ext0 e11
  replace B6 := B6.ext0 e11
  refine L.set rfl (R.stN rfl rfl B8 rfl (Nat.le_refl 7) (ctlC_one _)) ?_
  rintro w12 ⟨e12, hs12, B8x⟩
  replace B3 := B3.ext e12 (by simp; omega)
  replace B4 := B4.ext e12 (by simp; omega)
  replace B6 := B6.ext e12 (by simp; omega)
  replace B8 : Blk w12 b8 (ctlC zeroC) 121 (0, 0) := by rw [all_stored (by rfl)] at B8x; exact B8x
  replace E := E.trans e12 (M := []) (by simp) (by intro x hx; rw [List.mem_singleton.1 hx]; exact .inr (by omega))
  refine L.val rfl rfl (R.as rfl) ?_
  refine L.nil ?_
  refine N.seq ?_
  refine G.seq ?_
  refine G.region ?_
  refine L.val rfl rfl (R.ldBN rfl B3 rfl) ?_
  refine L.callF rfl rfl rfl go77 (cput_ok c4 _) ?_
  rintro _ w13 ⟨⟨a13, k13, rfl, L13, hk13, _⟩, e13⟩
  replace E := E.trans0 e13
  rw [show putC c4 = ctlS c4 from if_pos c4_ok] at L13 hk13 ⊢
  have h64 := ctlS_length c4_ok
  replace B3 := B3.ext0 e13
  replace B4 := B4.ext0 e13
  replace B6 := B6.ext0 e13
  refine L.callF rfl rfl rfl go74 (cget_ok _ _ _ (ctlS c4) _ L13 hk13 (by omega)) ?_
  rintro _ w14 ⟨rfl, e14⟩
  rw [getC_put c4_ok]
  replace E := E.trans0 e14
  replace B3 := B3.ext0 e14
  replace B4 := B4.ext0 e14
  replace B6 := B6.ext0 e14
  refine L.val rfl rfl (R.mv rfl) ?_
  refine L.val rfl rfl (R.ext rfl rfl) ?_
  refine L.val rfl rfl (R.ext rfl rfl) ?_
  refine L.do rfl rfl (R.alloc) ?_
  rintro _ w15 ⟨b10, rfl, hb10, hs15, e15, B10⟩
  have hE15 := E.size
  have hl15_B3 := B3.lt
  have hl15_B4 := B4.lt
  have hl15_B6 := B6.lt
  replace E := E.trans0 e15
  replace B3 := B3.ext0 e15
  replace B4 := B4.ext0 e15
  replace B6 := B6.ext0 e15
  refine L.set rfl (R.stN rfl rfl B10 rfl (Nat.le_refl 7) (ctlC_one _)) ?_
  rintro w16 ⟨e16, hs16, B10x⟩
  replace B3 := B3.ext e16 (by simp; omega)
  replace B4 := B4.ext e16 (by simp; omega)
  replace B6 := B6.ext e16 (by simp; omega)
  replace B10 : Blk w16 b10 (ctlC c4) 121 (0, 0) := by rw [all_stored (by rfl)] at B10x; exact B10x
  replace E := E.trans e16 (M := []) (by simp) (by intro x hx; rw [List.mem_singleton.1 hx]; exact .inr (by omega))
  refine L.val rfl rfl (R.as rfl) ?_
  refine L.nil ?_
  refine N.seq ?_
  refine G.seq ?_
  refine G.region ?_
  refine L.val rfl rfl (R.mv rfl) ?_
  refine L.val rfl rfl (R.eqI rfl rfl) ?_
  refine L.val rfl rfl (R.mv rfl) ?_
  refine L.isT 41 rfl (by rfl) ?_
  refine L.val rfl rfl (R.fld rfl) ?_
  refine L.val rfl rfl (R.ldB (v := .int .i64 5) rfl B4 rfl) ?_
  refine L.val rfl rfl (R.eqI rfl rfl) ?_
  first | refine L.val rfl rfl (R.pickT rfl rfl) ?_ | refine L.val rfl rfl (R.pickF rfl rfl) ?_
  refine L.val rfl rfl (R.mv rfl) ?_
  refine L.isT 46 rfl (by rfl) ?_
  refine L.val rfl rfl (R.mv rfl) ?_
  refine L.val rfl rfl (R.eqI rfl rfl) ?_
  first | refine L.val rfl rfl (R.pickT rfl rfl) ?_ | refine L.val rfl rfl (R.pickF rfl rfl) ?_
  refine L.val rfl rfl (R.mv rfl) ?_
  refine L.isT 50 rfl (by rfl) ?_
  refine L.val rfl rfl (R.ldBN rfl B4 rfl) ?_
  refine L.val rfl rfl (R.ldBN rfl B6 rfl) ?_
  refine L.val rfl rfl (R.eqS rfl rfl rfl rfl (b := true) (by rw [eqL_ctl]; simp)) ?_
  first | refine L.val rfl rfl (R.pickT rfl rfl) ?_ | refine L.val rfl rfl (R.pickF rfl rfl) ?_
  refine L.val rfl rfl (R.mv rfl) ?_
  refine L.isT 55 rfl (by rfl) ?_
  refine L.val rfl rfl (R.mv rfl) ?_
  refine L.val rfl rfl (R.eqI rfl rfl) ?_
  first | refine L.val rfl rfl (R.pickT rfl rfl) ?_ | refine L.val rfl rfl (R.pickF rfl rfl) ?_
  refine L.val rfl rfl (R.mv rfl) ?_
  refine L.isT 59 rfl (by rfl) ?_
  refine L.val rfl rfl (R.mv rfl) ?_
  refine L.val rfl rfl (R.eqI rfl rfl) ?_
  first | refine L.val rfl rfl (R.pickT rfl rfl) ?_ | refine L.val rfl rfl (R.pickF rfl rfl) ?_
  refine L.val rfl rfl (R.mv rfl) ?_
  refine L.isT 63 rfl (by rfl) ?_
  refine L.val rfl rfl (R.ldBN rfl B10 rfl) ?_
  refine L.val rfl rfl (R.ldBN rfl B3 rfl) ?_
  refine L.val rfl rfl (R.eqS rfl rfl rfl rfl (b := true) (by rw [eqL_ctl]; simp)) ?_
  first | refine L.val rfl rfl (R.pickT rfl rfl) ?_ | refine L.val rfl rfl (R.pickF rfl rfl) ?_
  refine L.val rfl rfl (R.mv rfl) ?_
  refine L.isT 68 rfl (by rfl) ?_
  refine L.val rfl rfl (R.ldBN rfl B3 rfl) ?_
  refine L.callF rfl rfl rfl go76 (cright_ok c4 _) ?_
  rintro _ w17 ⟨rfl, e17⟩
  replace E := E.trans0 e17
  first | refine L.val rfl rfl (R.pickT rfl rfl) ?_ | refine L.val rfl rfl (R.pickF rfl rfl) ?_
  refine L.val rfl rfl (R.mv rfl) ?_
  refine L.isT 72 rfl (by rfl) ?_
  refine L.val rfl rfl (R.build (cs := ctlC zeroC) rfl rfl) ?_
  refine L.callF rfl rfl rfl go76 (cright_ok zeroC _) ?_
  rintro _ w18 ⟨rfl, e18⟩
  replace E := E.trans0 e18
  refine L.val rfl rfl (R.not rfl) ?_
  first | refine L.val rfl rfl (R.pickT rfl rfl) ?_ | refine L.val rfl rfl (R.pickF rfl rfl) ?_
  refine L.val rfl rfl (R.as rfl) ?_
  refine L.nil ?_
  refine N.seq ?_
  refine G.ret1 rfl rfl ?_
  exact ⟨rfl, E⟩

end Go.Proofs.Ythpolibakkmmeaa
