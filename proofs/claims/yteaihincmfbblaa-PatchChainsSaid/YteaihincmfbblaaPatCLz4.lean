/-
  Texts of this claim, put together.
-/
import Derived.Test.YteaihincmfbblaaPatCLz3
/-
  The walks of package patch.
-/
set_option linter.unusedVariables false
set_option linter.unusedSimpArgs false
set_option maxRecDepth 4000
namespace Go.Proofs.Yteaihincmfbblaa
open Go Brv Brv.Pack Brv.Shrink Brv.Patch
theorem applyY (d g e : Nat) (cur : Array Value) (ps0 : List Nat) (x : List UInt8) (a : Option Addr) (n c : Nat) (l : List UInt8) (w : World) (hd : DiskL w d g e cur ps0 x) (hb : Bs w a n l) (hc : n ≤ c) (hn : n ≤ 1000000) (he : (applyF rootD x l).2 = 0) : Meets Try.prog 9 [.pointer (some ⟨d, 0, none⟩), .slice a n c] w (fun v w' => ∃ p : World → Prop, (∃ d2 g2 e2 cur2 ps2, v = .tuple #[.pointer (some ⟨d2, 0, none⟩), .int .i64 0] ∧ p = fun w => DiskL w d2 g2 e2 cur2 ps2 (applyF rootD x l).1) ∧ Ext [] w w' ∧ ∀ w'', Ext [] w' w'' → p w'') := by
  cases hq : parseF l with
  | none => unfold applyF at he; rw [hq] at he; cases he
  | some q => exact apply_yes d g e cur ps0 x a n c l q w hd hb hc hn hq he
theorem applyN (d g e : Nat) (cur : Array Value) (ps0 : List Nat) (x : List UInt8) (a : Option Addr) (n c : Nat) (l : List UInt8) (w : World) (hd : DiskL w d g e cur ps0 x) (hb : Bs w a n l) (hc : n ≤ c) (hn : n ≤ 1000000) (he : (applyF rootD x l).2 ≠ 0) : Meets Try.prog 9 [.pointer (some ⟨d, 0, none⟩), .slice a n c] w (fun v w' => v = .tuple #[.pointer none, .int .i64 (applyF rootD x l).2] ∧ Ext [] w w') := by
  cases hq : parseF l with
  | none => exact apply_none d g e cur ps0 x a n c l w hd hb hc hn hq
  | some q => exact apply_no d g e cur ps0 x a n c l q w hd hb hc hn hq he
def root3 (a b c : Nat) : Nat := nodeN [nodeN [a, b], c]
theorem sums_three {x : List UInt8} (h : x.length / 64 = 3) : sumsT x (x.length / 64) = [sumN (Image.blk x 0), sumN (Image.blk x 1), sumN (Image.blk x 2)] := by
  have e : ∀ i, sumN ((x.drop (64 * i)).take 64) = sumN (Image.blk x i) := fun i => rfl
  have h0 : sumsT x 0 = [] := List.map_nil
  rw [h, sumsT_succ, sumsT_succ, sumsT_succ, e, e, e, h0]
  simp only [List.nil_append, List.cons_append]
theorem tree_three (a b c : Nat) : treeF [a, b, c] = [[a, b, c], [nodeN [a, b], c], [nodeN [nodeN [a, b], c]]] := by
  rw [treeF_more (by simp), treeF_more (by simp [nextR]), treeF_one (by simp [nextR])]
  simp only [nextR]
theorem rootD_top {x : List UInt8} {r : List (List Nat)} {a : Nat} (h : treeD x = r) (hl : r.getLast? = some [a]) : rootD x = a := by
  unfold rootD
  rw [h, hl]
  simp
theorem treeD_three {x : List UInt8} (h : x.length / 64 = 3) : treeD x = treeF [sumN (Image.blk x 0), sumN (Image.blk x 1), sumN (Image.blk x 2)] := by
  unfold treeD
  rw [if_neg (by rw [h]; decide), sums_three h]
theorem rootD_three {x : List UInt8} (h : x.length / 64 = 3) : rootD x = root3 (sumN (Image.blk x 0)) (sumN (Image.blk x 1)) (sumN (Image.blk x 2)) :=
  rootD_top (treeD_three h) (by rw [tree_three]; unfold root3; simp only [List.getLast?_cons_cons, List.getLast?_singleton])
def x3 : List UInt8 := (List.replicate (64 * 3) (0 : UInt8))
def w3 : List UInt8 := ((List.replicate 64 (0 : UInt8)).set 5 1)
def y3 : List UInt8 := Image.laid x3 1 w3
theorem y3_with : Image.withF x3 [((1 : Int), w3)] = (y3, 0) := by decide +kernel
theorem x3_ok : x3.length = 64 * Image.dn x3 ∧ 1 ≤ Image.dn x3 ∧ Image.dn x3 ≤ 64 := by decide +kernel
theorem y3_ok : y3.length = 64 * Image.dn y3 ∧ 1 ≤ Image.dn y3 ∧ Image.dn y3 ≤ 64 := by decide +kernel
theorem xy_dn : Image.dn x3 = Image.dn y3 := by decide +kernel
theorem xy_diff : Image.diffF x3 y3 = [1] := by decide +kernel
theorem xx_diff : Image.diffF x3 x3 = [] := by decide +kernel
theorem xy_root : rootD x3 ≠ rootD y3 := by
  rw [rootD_three (by decide +kernel), rootD_three (by decide +kernel)]
  decide +kernel
theorem xx_len : (makeF rootD x3 x3).length = 22 := by
  unfold makeF
  rw [List.length_append, head_len, xx_diff]; rfl
theorem rootD_all (x : List UInt8) : rootD x < 18446744073709551616 := by
  by_cases h : 1 ≤ x.length / 64
  · exact rootD_lt x h
  · unfold rootD treeD
    rw [if_pos (by omega)]; decide
theorem xy_apply : applyF rootD x3 (makeF rootD x3 y3) = (y3, 0) := apply_make rootD rootD_all x3_ok.1 y3_ok.1 xy_dn x3_ok.2.1 x3_ok.2.2
theorem xy_parse : parseF (makeF rootD x3 y3) = some ⟨Image.dn x3, rootD x3, rootD y3, (Image.diffF x3 y3).map fun k => (k, shrinkF (laidF (Image.blk x3 k) (Image.blk y3 k)))⟩ := parse_make rootD rootD_all x3_ok.1 y3_ok.1 xy_dn x3_ok.2.1 x3_ok.2.2
theorem yy_apply : applyF rootD y3 (makeF rootD x3 y3) = ([], 52) := by
  unfold applyF
  rw [xy_parse]
  simp only
  rw [if_neg (by have := y3_ok.1; have := xy_dn; omega), if_pos xy_root]

theorem setAt_set {v : Value} : ∀ {l : List Value} {k : Nat}, k < l.length → SetAt l k v (l.set k v)
  | x :: l, 0, _ => .here
  | x :: l, k + 1, h => .there (setAt_set (by simpa using h))
  | [], k, h => by simp at h

set_option maxHeartbeats 2000000 in
theorem first46_law  (w : World) : Meets Try.prog 6 [] w (fun v w' => v = .bool true ∧ Ext [] w w') := by
  refine Meets.law Try.func6 rfl 81 rfl (Nat.le_of_ble_eq_true rfl) (law_nil w) ?_
  refine SG.seq ?_
  refine SG.region ?_
  refine SL.val rfl rfl (fun w9 F9 S9 s => R.as rfl) ?_
  refine SL.nil ?_
  refine SN.seq ?_
  refine SG.seq ?_
  refine SG.region ?_
  refine SL.step rfl rfl (CS.callP rfl go20 (fun w9 F9 S9 s => inewP 3 w9 (by decide) (by decide))) ?_
  rintro _ _ ⟨_, ⟨d, g, e, cur, ps, rfl, rfl⟩, rfl⟩
  rw [show List.replicate (64 * 3) (0 : UInt8) = x3 from rfl]
  refine SL.val rfl rfl (fun w9 F9 S9 s => R.mv rfl) ?_
  refine SL.val rfl rfl (fun w9 F9 S9 s => R.ext rfl rfl) ?_
  refine SL.val rfl rfl (fun w9 F9 S9 s => R.ext rfl rfl) ?_
  refine SL.val rfl rfl (fun w9 F9 S9 s => R.as rfl) ?_
  refine SL.val rfl rfl (fun w9 F9 S9 s => R.as rfl) ?_
  refine SL.nil ?_
  refine SN.seq ?_
  refine SG.seq ?_
  refine SG.region ?_
  refine SL.step rfl rfl (CS.make rfl rfl (by decide) (by decide) (by decide) (by decide) (vbs (List.replicate 64 (0 : UInt8))) (madeCells_bytes 64)) ?_
  rintro _ _ ⟨b17, rfl, rfl⟩
  refine SL.val rfl rfl (fun w9 F9 S9 s => R.as rfl) ?_
  refine SL.nil ?_
  refine SN.seq ?_
  refine SG.seq ?_
  refine SG.region ?_
  refine SL.val rfl rfl (fun w9 F9 S9 s => R.mv rfl) ?_
  refine SL.val rfl rfl (fun w9 F9 S9 s => R.idxO (i := 5) rfl rfl (by decide) (by decide) rfl 5 (by decide)) ?_
  refine SL.step0 rfl (CS.st rfl rfl (show Sel _ (blk b17 (vbs (List.replicate 64 (0 : UInt8))) 5) _ from (by repeat (first | exact Sel.keep | exact Sel.here | apply Sel.there))) (cs' := vbs w3) (by rw [show vbs w3 = (vbs (List.replicate 64 (0 : UInt8))).set 5 (.int .u8 1) from rfl]; exact setAt_set (by rw [vbs_length, List.length_replicate]; decide)) rfl) ?_
  rintro _ _ rfl
  refine SL.nil ?_
  refine SN.imp (Imp.blkBs (l := w3) (show Sel _ (blk b17 (vbs w3) 5) _ from (by repeat (first | exact Sel.keep | exact Sel.here | apply Sel.there)))) ?_
  rw [show w3.length = 64 from rfl]
  refine SN.seq ?_
  refine SG.seq ?_
  refine SG.region ?_
  refine SL.val rfl rfl (fun w9 F9 S9 s => R.mv rfl) ?_
  refine SL.val rfl rfl (fun w9 F9 S9 s => R.mv rfl) ?_
  refine SL.val rfl rfl (fun w9 F9 S9 s => R.build (cs := (WriteV.cells (⟨1, some ⟨b17, 0, none⟩, 64, 64, w3⟩ : WriteV)).toArray) rfl rfl) ?_
  refine SL.step rfl rfl (CS.buildA rfl rfl rfl rfl rfl (cellsW [(⟨1, some ⟨b17, 0, none⟩, 64, 64, w3⟩ : WriteV)]) rfl) ?_
  rintro _ _ ⟨b24, rfl, rfl⟩
  refine SL.imp (Imp.blkSh (show Sel _ (blk b24 (cellsW [(⟨1, some ⟨b17, 0, none⟩, 64, 64, w3⟩ : WriteV)]) _) _ from (by repeat (first | exact Sel.keep | exact Sel.here | apply Sel.there))) (p := fun w => Cells w (some ⟨b24, 0, none⟩) (cellsW [(⟨1, some ⟨b17, 0, none⟩, 64, 64, w3⟩ : WriteV)])) (fun w h => Cells.of_blk h 0 _ (fun j v hj => by simpa using hj))) ?_
  refine SL.step rfl rfl (CS.callP rfl go21 (fun w9 F9 S9 s => iwithP d x3 (some ⟨b24, 0, none⟩) 1 1 [(⟨1, some ⟨b17, 0, none⟩, 64, 64, w3⟩ : WriteV)] w9 ⟨g, e, cur, ps, (s.sh (p := fun w => DiskL w d g e cur ps x3) (by repeat (first | exact Sel.keep | exact Sel.here | apply Sel.there)))⟩ (tabW (s.sh (p := fun w => Cells w (some ⟨b24, 0, none⟩) (cellsW [(⟨1, some ⟨b17, 0, none⟩, 64, 64, w3⟩ : WriteV)])) (by repeat (first | exact Sel.keep | exact Sel.here | apply Sel.there))) rfl) (fun o ho => by rw [List.mem_singleton.1 ho]; exact s.bs (a := some ⟨b17, 0, none⟩) (n := 64) (l := w3) (by repeat (first | exact Sel.keep | exact Sel.here | apply Sel.there))) (by decide) (by show (Image.withF x3 [((1 : Int), w3)]).2 = 0; rw [y3_with]))) ?_
  rintro _ _ ⟨_, ⟨d2, g2, e2, cur2, ps2, rfl, rfl⟩, rfl⟩
  rw [show (Image.withF x3 ([(⟨1, some ⟨b17, 0, none⟩, 64, 64, w3⟩ : WriteV)].map wv)).1 = y3 from congrArg Prod.fst y3_with]
  refine SL.val rfl rfl (fun w9 F9 S9 s => R.mv rfl) ?_
  refine SL.val rfl rfl (fun w9 F9 S9 s => R.ext rfl rfl) ?_
  refine SL.val rfl rfl (fun w9 F9 S9 s => R.ext rfl rfl) ?_
  refine SL.val rfl rfl (fun w9 F9 S9 s => R.as rfl) ?_
  refine SL.val rfl rfl (fun w9 F9 S9 s => R.as rfl) ?_
  refine SL.nil ?_
  refine SN.seq ?_
  refine SG.seq ?_
  refine SG.region ?_
  refine SL.val rfl rfl (fun w9 F9 S9 s => R.mv rfl) ?_
  refine SL.val rfl rfl (fun w9 F9 S9 s => R.mv rfl) ?_
  refine SL.step rfl rfl (CS.call rfl go8 (make_ok d g e cur ps x3 d2 g2 e2 cur2 ps2 y3 xy_dn) (by repeat (first | exact Sels.nil | apply Sels.cons | exact Sel.keep | exact Sel.here | apply Sel.there))) ?_
  rintro _ _ ⟨_, ⟨a6, c6, rfl, rfl, rfl⟩, rfl⟩
  refine SL.n1 ?_
  refine SL.val rfl rfl (fun w9 F9 S9 s => R.as rfl) ?_
  refine SL.nil ?_
  refine SN.fact (fun w9 F9 S9 s => s.ownL (show Sel _ (own 5 1 a6 (makeF rootD x3 y3).length c6 (vbs (makeF rootD x3 y3))) _ from (by repeat (first | exact Sel.keep | exact Sel.here | apply Sel.there)))) (fun hf9 => ?_)
  obtain ⟨_, hc6⟩ := hf9
  refine SN.imp (Imp.ownBs (show Sel _ (own 5 1 a6 (makeF rootD x3 y3).length c6 (vbs (makeF rootD x3 y3))) _ from (by repeat (first | exact Sel.keep | exact Sel.here | apply Sel.there)))) ?_
  have hml := make_len rootD x3 y3
  rw [xy_diff, show [1].length = 1 from rfl] at hml
  refine SN.seq ?_
  refine SG.seq ?_
  refine SG.region ?_
  refine SL.val rfl rfl (fun w9 F9 S9 s => R.mv rfl) ?_
  refine SL.val rfl rfl (fun w9 F9 S9 s => R.mv rfl) ?_
  refine SL.step rfl rfl (CS.callP rfl go9 (fun w9 F9 S9 s => applyY d g e cur ps x3 a6 (makeF rootD x3 y3).length c6 (makeF rootD x3 y3) w9 (s.sh (p := fun w => DiskL w d g e cur ps x3) (by repeat (first | exact Sel.keep | exact Sel.here | apply Sel.there))) (s.bs (a := a6) (l := makeF rootD x3 y3) (by repeat (first | exact Sel.keep | exact Sel.here | apply Sel.there))) hc6 (by omega) (by rw [xy_apply]))) ?_
  rintro _ _ ⟨_, ⟨d3, g3, e3, cur3, ps3, rfl, rfl⟩, rfl⟩
  rw [xy_apply]
  refine SL.val rfl rfl (fun w9 F9 S9 s => R.mv rfl) ?_
  refine SL.val rfl rfl (fun w9 F9 S9 s => R.ext rfl rfl) ?_
  refine SL.val rfl rfl (fun w9 F9 S9 s => R.ext rfl rfl) ?_
  refine SL.val rfl rfl (fun w9 F9 S9 s => R.as rfl) ?_
  refine SL.val rfl rfl (fun w9 F9 S9 s => R.as rfl) ?_
  refine SL.nil ?_
  refine SN.seq ?_
  refine SG.seq ?_
  refine SG.region ?_
  refine SL.val rfl rfl (fun w9 F9 S9 s => R.mv rfl) ?_
  refine SL.val rfl rfl (fun w9 F9 S9 s => R.mv rfl) ?_
  refine SL.step rfl rfl (CS.callR rfl go9 (fun w9 F9 S9 s => applyN d2 g2 e2 cur2 ps2 y3 a6 (makeF rootD x3 y3).length c6 (makeF rootD x3 y3) w9 (s.sh (p := fun w => DiskL w d2 g2 e2 cur2 ps2 y3) (by repeat (first | exact Sel.keep | exact Sel.here | apply Sel.there))) (s.bs (a := a6) (l := makeF rootD x3 y3) (by repeat (first | exact Sel.keep | exact Sel.here | apply Sel.there))) hc6 (by omega) (by rw [yy_apply]; decide))) ?_
  rintro _ _ ⟨rfl, rfl⟩
  rw [yy_apply]
  refine SL.val rfl rfl (fun w9 F9 S9 s => R.mv rfl) ?_
  refine SL.val rfl rfl (fun w9 F9 S9 s => R.ext rfl rfl) ?_
  refine SL.val rfl rfl (fun w9 F9 S9 s => R.ext rfl rfl) ?_
  refine SL.val rfl rfl (fun w9 F9 S9 s => R.as rfl) ?_
  refine SL.val rfl rfl (fun w9 F9 S9 s => R.as rfl) ?_
  refine SL.nil ?_
  refine SN.seq ?_
  refine SG.seq ?_
  refine SG.region ?_
  refine SL.val rfl rfl (fun w9 F9 S9 s => R.mv rfl) ?_
  refine SL.step rfl rfl (CS.call rfl go10 (blocks_yes a6 (makeF rootD x3 y3).length c6 (makeF rootD x3 y3) _ hc6 (by omega) xy_parse) (by repeat (first | exact Sels.nil | apply Sels.cons | exact Sel.keep | exact Sel.here | apply Sel.there))) ?_
  rintro _ _ ⟨_, ⟨a11, c11, rfl, rfl, rfl⟩, rfl⟩
  refine SL.n1 ?_
  refine SL.val rfl rfl (fun w9 F9 S9 s => R.mv rfl) ?_
  refine SL.val rfl rfl (fun w9 F9 S9 s => R.ext rfl rfl) ?_
  refine SL.val rfl rfl (fun w9 F9 S9 s => R.ext rfl rfl) ?_
  refine SL.val rfl rfl (fun w9 F9 S9 s => R.as rfl) ?_
  refine SL.val rfl rfl (fun w9 F9 S9 s => R.as rfl) ?_
  refine SL.nil ?_
  dsimp only
  rw [xy_diff]
  refine SN.fact (fun w9 F9 S9 s => numsP_pt (i := 0) (s.ownC (show Sel _ (own 3 1 a11 (1) c11 (nums ([1]))) _ from (by repeat (first | exact Sel.keep | exact Sel.here | apply Sel.there)))) (show [1][0]? = some 1 from rfl)) (fun hf9 => ?_)
  obtain ⟨q, hq⟩ := hf9
  refine SN.seq ?_
  refine SG.seq ?_
  refine SG.region ?_
  refine SL.val rfl rfl (fun w9 F9 S9 s => R.mv rfl) ?_
  refine SL.val rfl rfl (fun w9 F9 S9 s => R.mv rfl) ?_
  refine SL.step rfl rfl (CS.call rfl go8 (make_ok d g e cur ps x3 d g e cur ps x3 rfl) (by repeat (first | exact Sels.nil | apply Sels.cons | exact Sel.keep | exact Sel.here | apply Sel.there))) ?_
  rintro _ _ ⟨_, ⟨a50, c50, rfl, rfl, rfl⟩, rfl⟩
  refine SL.n1 ?_
  rw [xx_len]
  refine SL.val rfl rfl (fun w9 F9 S9 s => R.lenS rfl) ?_
  refine SL.val rfl rfl (fun w9 F9 S9 s => R.eqI rfl rfl) ?_
  refine SL.val rfl rfl (fun w9 F9 S9 s => R.mv rfl) ?_
  refine SL.isT 53 rfl (decide_eq_true rfl) ?_
  refine SL.val rfl rfl (fun w9 F9 S9 s => R.mv rfl) ?_
  refine SL.val rfl rfl (fun w9 F9 S9 s => R.eqI rfl rfl) ?_
  first | refine SL.val rfl rfl (fun w9 F9 S9 s => R.pickT rfl rfl) ?_ | refine SL.val rfl rfl (fun w9 F9 S9 s => R.pickF rfl rfl) ?_
  refine SL.val rfl rfl (fun w9 F9 S9 s => R.mv rfl) ?_
  refine SL.isT 57 rfl (decide_eq_true rfl) ?_
  refine SL.val rfl rfl (fun w9 F9 S9 s => R.mv rfl) ?_
  refine SL.val rfl rfl (fun w9 F9 S9 s => R.mv rfl) ?_
  refine SL.step rfl rfl (CS.callR rfl go12 (fun w9 F9 S9 s => isame_ok (some ⟨d3, 0, none⟩) (some ⟨d2, 0, none⟩) y3 y3 w9 (disk_o (s.sh (p := fun w => DiskL w d3 g3 e3 cur3 ps3 y3) (by repeat (first | exact Sel.keep | exact Sel.here | apply Sel.there)))) (disk_o (s.sh (p := fun w => DiskL w d2 g2 e2 cur2 ps2 y3) (by repeat (first | exact Sel.keep | exact Sel.here | apply Sel.there)))))) ?_
  rintro _ _ ⟨rfl, rfl⟩
  first | refine SL.val rfl rfl (fun w9 F9 S9 s => R.pickT rfl rfl) ?_ | refine SL.val rfl rfl (fun w9 F9 S9 s => R.pickF rfl rfl) ?_
  refine SL.val rfl rfl (fun w9 F9 S9 s => R.mv rfl) ?_
  refine SL.isT 62 rfl (decide_eq_true rfl) ?_
  refine SL.val rfl rfl (fun w9 F9 S9 s => R.mv rfl) ?_
  refine SL.val rfl rfl (fun w9 F9 S9 s => R.eqI rfl rfl) ?_
  first | refine SL.val rfl rfl (fun w9 F9 S9 s => R.pickT rfl rfl) ?_ | refine SL.val rfl rfl (fun w9 F9 S9 s => R.pickF rfl rfl) ?_
  refine SL.val rfl rfl (fun w9 F9 S9 s => R.mv rfl) ?_
  refine SL.isT 66 rfl (decide_eq_true rfl) ?_
  refine SL.val rfl rfl (fun w9 F9 S9 s => R.mv rfl) ?_
  refine SL.val rfl rfl (fun w9 F9 S9 s => R.lenS rfl) ?_
  refine SL.val rfl rfl (fun w9 F9 S9 s => R.eqI rfl rfl) ?_
  first | refine SL.val rfl rfl (fun w9 F9 S9 s => R.pickT rfl rfl) ?_ | refine SL.val rfl rfl (fun w9 F9 S9 s => R.pickF rfl rfl) ?_
  refine SL.val rfl rfl (fun w9 F9 S9 s => R.mv rfl) ?_
  refine SL.isT 71 rfl (decide_eq_true rfl) ?_
  refine SL.val rfl rfl (fun w9 F9 S9 s => R.mv rfl) ?_
  refine SL.val rfl rfl (fun w9 F9 S9 s => R.idx (i := 0) rfl rfl (by decide) (by decide) q hq) ?_
  refine SL.val rfl rfl (fun w9 F9 S9 s => R.ld (v := .int .i64 ((1 : Nat) : Int)) rfl (numsP_ld (i := 0) (s.ownC (show Sel _ (own 3 1 a11 (1) c11 (nums ([1]))) _ from (by repeat (first | exact Sel.keep | exact Sel.here | apply Sel.there)))) hq rfl)) ?_
  refine SL.val rfl rfl (fun w9 F9 S9 s => R.eqI rfl rfl) ?_
  first | refine SL.val rfl rfl (fun w9 F9 S9 s => R.pickT rfl rfl) ?_ | refine SL.val rfl rfl (fun w9 F9 S9 s => R.pickF rfl rfl) ?_
  refine SL.val rfl rfl (fun w9 F9 S9 s => R.mv rfl) ?_
  refine SL.isT 77 rfl (decide_eq_true rfl) ?_
  refine SL.val rfl rfl (fun w9 F9 S9 s => R.mv rfl) ?_
  refine SL.val rfl rfl (fun w9 F9 S9 s => R.eqI rfl rfl) ?_
  first | refine SL.val rfl rfl (fun w9 F9 S9 s => R.pickT rfl rfl) ?_ | refine SL.val rfl rfl (fun w9 F9 S9 s => R.pickF rfl rfl) ?_
  refine SL.val rfl rfl (fun w9 F9 S9 s => R.as rfl) ?_
  refine SL.nil ?_
  refine SN.seq ?_
  exact SG.ret1 rfl rfl ((Imp.sels (by repeat (first | exact Sels.nil | apply Sels.cons | exact Sel.keep | exact Sel.here | apply Sel.there)))) (congrArg Value.bool (decide_eq_true rfl))

end Go.Proofs.Yteaihincmfbblaa
/-
  Patches, as the document reads them.
-/
set_option linter.unusedVariables false
set_option linter.unusedSimpArgs false
namespace Brv.Patch
open Go Brv Brv.Pack Brv.Shrink Brv.Image
theorem unroot_long {l : List UInt8} (h : 8 ≤ l.length) : (unrootF l 0).2 = (l.drop 8, 0) ∧ rootP (unrootF l 0).1 = l.take 8 ∧ (unrootF l 0).1 < 18446744073709551616 := by
  have h1 : numF l 0 4 = (num (l.take 4), l.drop 4, 0) := numF_long (k := 4) (by decide) (by decide) (by omega)
  have h2 : numF (l.drop 4) 0 4 = (num ((l.drop 4).take 4), (l.drop 4).drop 4, 0) := numF_long (k := 4) (by decide) (by decide) (by rw [List.length_drop]; omega)
  have e : unrootF l 0 = (num (l.take 4) * 4294967296 + num ((l.drop 4).take 4), l.drop 8, 0) := by
    unfold unrootF
    rw [h1]
    simp only [h2, List.drop_drop]
  have l1 : (l.take 4).length = 4 := by rw [List.length_take]; omega
  have l2 : ((l.drop 4).take 4).length = 4 := by rw [List.length_take, List.length_drop]; omega
  have b1 := num_lt (l.take 4)
  have b2 := num_lt ((l.drop 4).take 4)
  rw [l1] at b1; rw [l2] at b2
  have p4 : (256 : Nat) ^ 4 = 4294967296 := rfl
  rw [p4] at b1 b2
  refine ⟨by rw [e], ?_, by rw [e]; show _ + _ < _; omega⟩
  rw [e]
  unfold rootP
  show be 4 ((num (l.take 4) * 4294967296 + num ((l.drop 4).take 4)) / 4294967296) ++ be 4 ((num (l.take 4) * 4294967296 + num ((l.drop 4).take 4)) % 4294967296) = _
  rw [show (num (l.take 4) * 4294967296 + num ((l.drop 4).take 4)) / 4294967296 = num (l.take 4) by omega, show (num (l.take 4) * 4294967296 + num ((l.drop 4).take 4)) % 4294967296 = num ((l.drop 4).take 4) by omega]
  have q1 := be_num (l.take 4)
  have q2 := be_num ((l.drop 4).take 4)
  rw [l1] at q1; rw [l2] at q2
  rw [q1, q2, ← List.take_add]
theorem root_inj {a b : Nat} (ha : a < 18446744073709551616) (hb : b < 18446744073709551616) (h : rootP a = rootP b) : a = b := by
  have h1 := unroot_root (v := a) [] ha
  have h2 := unroot_root (v := b) [] hb
  rw [h, h2] at h1
  exact (congrArg Prod.fst h1).symm
theorem qF_long {l : List UInt8} (h : 22 ≤ l.length) : qF l = ⟨(num ((l.drop 2).take 2), l.drop 4, 0), ((unrootF (l.drop 4) 0).1, l.drop 12, 0), ((unrootF (l.drop 12) 0).1, l.drop 20, 0), (num ((l.drop 20).take 2), l.drop 22, 0), partsF (num ((l.drop 20).take 2)) (l.drop 22) 0⟩ := by
  have h1 : numF l 0 2 = (num (l.take 2), l.drop 2, 0) := numF_long (k := 2) (by decide) (by decide) (by omega)
  have h2 : numF (l.drop 2) 0 2 = (num ((l.drop 2).take 2), (l.drop 2).drop 2, 0) := numF_long (k := 2) (by decide) (by decide) (by rw [List.length_drop]; omega)
  have h3 : numF (l.drop 20) 0 2 = (num ((l.drop 20).take 2), (l.drop 20).drop 2, 0) := numF_long (k := 2) (by decide) (by decide) (by rw [List.length_drop]; omega)
  have h4 := (unroot_long (l := l.drop 4) (by rw [List.length_drop]; omega)).1
  have h5 := (unroot_long (l := l.drop 12) (by rw [List.length_drop]; omega)).1
  rw [List.drop_drop] at h2 h3 h4 h5
  have e4 : unrootF (l.drop 4) 0 = ((unrootF (l.drop 4) 0).1, l.drop 12, 0) := Prod.ext rfl h4
  have e5 : unrootF (l.drop 12) 0 = ((unrootF (l.drop 12) 0).1, l.drop 20, 0) := Prod.ext rfl h5
  unfold qF
  simp only [h1, h2]
  rw [e4]
  simp only
  rw [e5]
  simp only [h3]
theorem unroot_short {l : List UInt8} {e : Int} (h : l.length < 8) : (unrootF l e).2.2 ≠ 0 := by
  unfold unrootF
  simp only
  by_cases he : e = 0
  · subst he
    by_cases h4 : 4 ≤ l.length
    · have h1 : numF l 0 4 = (num (l.take 4), l.drop 4, 0) := numF_long (k := 4) (by decide) (by decide) (by omega)
      rw [h1]
      exact numF_short (by simp only [List.length_drop]; omega)
    · exact numF_sticky (numF_short (by omega))
  · exact numF_sticky (numF_sticky he)
theorem parse_short {l : List UInt8} (h : l.length < 22) : parseF l = none := by
  unfold parseF
  refine if_neg (fun hk => ?_)
  have hq := hk.2.1
  have hst : ∀ (n : Nat) (l : List UInt8) (e : Int), e ≠ 0 → (partsF n l e).2.2 ≠ 0 := fun n l e he => by rw [partsF_sticky n he]; exact he
  have key : ∀ (x : Nat × List UInt8 × Int), x.2.2 ≠ 0 → (partsF (numF x.2.1 x.2.2 2).1 (numF x.2.1 x.2.2 2).2.1 (numF x.2.1 x.2.2 2).2.2).2.2 ≠ 0 := fun x hx => hst _ _ _ (numF_sticky hx)
  revert hq
  show (partsF (qF l).c.1 (qF l).c.2.1 (qF l).c.2.2).2.2 = 0 → False
  by_cases h2 : 2 ≤ l.length
  · have e1 : numF l 0 2 = (num (l.take 2), l.drop 2, 0) := numF_long (k := 2) (by decide) (by decide) (by omega)
    by_cases h4 : 4 ≤ l.length
    · have e2 : numF (l.drop 2) 0 2 = (num ((l.drop 2).take 2), (l.drop 2).drop 2, 0) := numF_long (k := 2) (by decide) (by decide) (by rw [List.length_drop]; omega)
      rw [List.drop_drop] at e2
      by_cases h12 : 12 ≤ l.length
      · have e3 : (unrootF (l.drop 4) 0).2 = (l.drop 12, 0) := by
          have := (unroot_long (l := l.drop 4) (by rw [List.length_drop]; omega)).1
          rw [List.drop_drop] at this
          exact this
        by_cases h20 : 20 ≤ l.length
        · have e4 : (unrootF (l.drop 12) 0).2 = (l.drop 20, 0) := by
            have := (unroot_long (l := l.drop 12) (by rw [List.length_drop]; omega)).1
            rw [List.drop_drop] at this
            exact this
          intro hq
          refine hst _ _ _ ?_ hq
          show (numF _ _ 2).2.2 ≠ 0
          simp only [e1, e2, e3, e4]
          exact numF_short (by rw [List.length_drop]; omega)
        · intro hq
          refine key (unrootF (l.drop 12) 0) (unroot_short (by rw [List.length_drop]; omega)) ?_
          have : qF l = qF l := rfl
          unfold qF at hq
          simp only [e1, e2, e3] at hq
          exact hq
      · intro hq
        refine key (unrootF (unrootF (l.drop 4) 0).2.1 (unrootF (l.drop 4) 0).2.2) (unroot_sticky (unroot_short (by rw [List.length_drop]; omega))) ?_
        unfold qF at hq
        simp only [e1, e2] at hq
        exact hq
    · intro hq
      have hs : (numF (l.drop 2) 0 2).2.2 ≠ 0 := numF_short (by rw [List.length_drop]; omega)
      refine key (unrootF (unrootF (numF (l.drop 2) 0 2).2.1 (numF (l.drop 2) 0 2).2.2).2.1 (unrootF (numF (l.drop 2) 0 2).2.1 (numF (l.drop 2) 0 2).2.2).2.2) (unroot_sticky (unroot_sticky hs)) ?_
      unfold qF at hq
      simp only [e1] at hq
      exact hq
  · intro hq
    have hs : (numF l 0 2).2.2 ≠ 0 := numF_short (by omega)
    have hk1 := hk.1
    rw [numF_no (fun hok => by have := hok.2.2.1; omega)] at hk1
    cases hk1
theorem magic_of {l : List UInt8} {a b : UInt8} (ha : l[0]? = some a) (hb : l[1]? = some b) : (numF l 0 2).1 = 256 * a.toNat + b.toNat := by
  have hl : 2 ≤ l.length := by have := (List.getElem?_eq_some_iff.1 hb).1; omega
  have h1 : numF l 0 2 = (num (l.take 2), l.drop 2, 0) := numF_long (k := 2) (by decide) (by decide) (by omega)
  match l, ha, hb with
  | x :: y :: r, ha, hb =>
    simp at ha hb
    subst ha; subst hb
    rw [h1]
    simp [num]
theorem right_app (bl : Nat) : ∀ (ps : List (Nat × List UInt8)) (last last' : Int) (k : Nat × List UInt8) (r : List (Nat × List UInt8)), (∀ r, rightF bl last (ps ++ r) = rightF bl last' r) → okP bl last' k → ∀ r, rightF bl last (ps ++ [k] ++ r) = rightF bl k.1 r := by
  intro ps last last' k r h hk r
  rw [List.append_assoc, h]
  show (decide (okP bl last' k) && rightF bl k.1 r) = _
  rw [decide_eq_true hk, Bool.true_and]
theorem partsF_step (n : Nat) (l : List UInt8) : partsF (n + 1) l 0 = (((numF l 0 2).1, (txtF (numF l 0 2).2.1 (numF l 0 2).2.2 65535).1) :: (partsF n (txtF (numF l 0 2).2.1 (numF l 0 2).2.2 65535).2.1 (txtF (numF l 0 2).2.1 (numF l 0 2).2.2 65535).2.2).1,
      (partsF n (txtF (numF l 0 2).2.1 (numF l 0 2).2.2 65535).2.1 (txtF (numF l 0 2).2.1 (numF l 0 2).2.2 65535).2.2).2) := by
  rw [partsF, if_neg (by decide), txt_most]
/-- The bytes of a root, as eight. -/
theorem rootP_be (v : Nat) : rootP v = [UInt8.ofNat (v / 256 ^ 7 % 256), UInt8.ofNat (v / 256 ^ 6 % 256), UInt8.ofNat (v / 256 ^ 5 % 256), UInt8.ofNat (v / 256 ^ 4 % 256), UInt8.ofNat (v / 256 ^ 3 % 256), UInt8.ofNat (v / 256 ^ 2 % 256), UInt8.ofNat (v / 256 ^ 1 % 256), UInt8.ofNat (v / 256 ^ 0 % 256)] := by
  unfold rootP
  simp only [be, List.nil_append, List.cons_append]
  have e : ∀ a b : Nat, a = b → UInt8.ofNat a = UInt8.ofNat b := fun a b h => by rw [h]
  simp only [List.cons.injEq, and_true]
  refine ⟨?_, ?_, ?_, ?_, ?_, ?_, ?_, ?_⟩ <;> first | trivial | (apply e; omega)
end Brv.Patch
/-
  The walks of package patch.
-/
set_option linter.unusedVariables false
set_option linter.unusedSimpArgs false
set_option maxRecDepth 4000
namespace Go.Proofs.Yteaihincmfbblaa
open Go Brv Brv.Pack Brv.Shrink Brv.Patch
theorem refNumS (s : Nat) (l : List UInt8) (e y : Int) (hl : l.length ≤ 70368744177664) : SpecS Try.prog 34 [.pointer (some ⟨s, 0, none⟩), .int .i64 y] [blk s [.string (str (l)), .int .i64 (e)] 87] (fun v H' => v = .int .i64 ((numF l e y).1 : Int) ∧ H' = [blk s [.string (str ((numF l e y).2.1)), .int .i64 ((numF l e y).2.2)] 87]) :=
  SpecS.ofBlk fun w hB => refnum_ok s l e y w hB hl
theorem refTxtS (s : Nat) (l : List UInt8) (e y : Int) (hl : l.length ≤ 70368744177664) : SpecS Try.prog 35 [.pointer (some ⟨s, 0, none⟩), .int .i64 y] [blk s [.string (str (l)), .int .i64 (e)] 87] (fun v H' => v = .string (str (txtF l e y).1) ∧ H' = [blk s [.string (str ((txtF l e y).2.1)), .int .i64 ((txtF l e y).2.2)] 87]) :=
  SpecS.ofBlk fun w hB => reftxt_ok s l e y w hB hl
theorem reflaidP (ao : Option Addr) (no co : Nat) (lo l : List UInt8) (w : World) (hbo : Bs w ao no lo) (hn : l.length ≤ 1000000) : Meets Try.prog 39 [.slice ao no co, .string (str l)] w (fun v w' => ∃ p : World → Prop, (∃ a1 c1, v = .slice a1 l.length c1 ∧ l.length ≤ c1 ∧ p = fun w => Bs w a1 l.length (laidF lo l)) ∧ Ext [] w w' ∧ ∀ w'', Ext [] w' w'' → p w'') :=
  (reflaid_ok ao no co lo l w hbo hn).mono fun v w' ⟨a1, c1, h1, h2, h3, h4⟩ => ⟨_, ⟨a1, c1, h1, h4, rfl⟩, h2, fun w'' h => h3.ext0 h⟩
theorem dgs_root (v : Nat) : dgs v 8 = rootP v := by rw [rootP_be]; rfl
theorem sub_blk (x : List UInt8) (k : Nat) : (x.drop (64 * (k : Int)).toNat).take ((64 * (k : Int) + 64).toNat - (64 * (k : Int)).toNat) = Image.blk x k := by
  rw [show (64 * (k : Int)).toNat = 64 * k by omega, show (64 * (k : Int) + 64).toNat = 64 * k + 64 by omega, Nat.add_sub_cancel_left]; rfl
theorem sub_blk2 (x : List UInt8) (k : Nat) : (x.take (64 * (k : Int) + 64).toNat).drop (64 * (k : Int)).toNat = Image.blk x k := by
  rw [show (64 * (k : Int)).toNat = 64 * k by omega, show (64 * (k : Int) + 64).toNat = 64 * k + 64 by omega, List.drop_take, Nat.add_sub_cancel_left]; rfl

theorem refroot_ok (x : List UInt8) (hx1 : 1 ≤ x.length / 64) (hx : x.length ≤ 100000) : SpecS Try.prog 38 [.string (str x)] [] (fun v9 H' => v9 = .string (str (rootP (rootD x))) ∧ H' = []) := by
  refine SpecS.enter Try.func38 rfl 15 rfl (Nat.le_of_ble_eq_true rfl) (fun o => ?_)
  obtain ⟨v, hv, hrt⟩ := treeD_top (x := x) hx1
  have hvl := rootD_lt x hx1
  rw [hrt] at hvl
  refine SG.seq ?_
  refine SG.region ?_
  refine SL.val rfl rfl (fun w9 F9 S9 s => R.as rfl) ?_
  refine SL.nil ?_
  refine SN.seq ?_
  refine SG.seq ?_
  refine SG.region ?_
  refine SL.val rfl rfl (fun w9 F9 S9 s => R.mv rfl) ?_
  refine SL.step rfl rfl (CS.call rfl go60 (rtree_ok x (by omega)) (by repeat (first | exact Sels.nil | apply Sels.cons | exact Sel.keep | exact Sel.here | apply Sel.there))) ?_
  rintro _ _ ⟨_, ⟨a3, n3, c3, Rr, rfl, rfl, hRr, rfl⟩, rfl⟩
  refine SL.n1 ?_
  obtain ⟨hRl, r9, hr9, hrl9⟩ := row_topp hRr hv
  refine SL.val rfl rfl (fun w9 F9 S9 s => R.as rfl) ?_
  refine SL.nil ?_
  have htl := treeD_len x
  rw [← hRr, List.length_map] at htl
  have hrm := List.mem_of_getElem? hr9
  refine SN.fact (fun w9 F9 S9 s => rows_pt (s.sh (p := (fun w => Cells w a3 (Rr.map URow.val) ∧ ∀ r ∈ Rr, URow.ok w r)) (by repeat (first | exact Sel.keep | exact Sel.here | apply Sel.there))).1 hr9) (fun hf9 => ?_)
  obtain ⟨q, hq⟩ := hf9
  refine SN.fact (fun w9 F9 S9 s => ((s.sh (p := (fun w => Cells w a3 (Rr.map URow.val) ∧ ∀ r ∈ Rr, URow.ok w r)) (by repeat (first | exact Sel.keep | exact Sel.here | apply Sel.there))).2 r9 hrm).len) (fun hf9 => ?_)
  have hn9 := hf9; clear hf9
  have hl1 : r9.l.length = 1 := by rw [hrl9]; rfl
  have hr0 : r9.l[0]? = some v := by rw [hrl9]; rfl
  refine SN.fact (fun w9 F9 S9 s => us_pt ((s.sh (p := (fun w => Cells w a3 (Rr.map URow.val) ∧ ∀ r ∈ Rr, URow.ok w r)) (by repeat (first | exact Sel.keep | exact Sel.here | apply Sel.there))).2 r9 hrm).cells hr0) (fun hf9 => ?_)
  obtain ⟨q2, hq2⟩ := hf9
  refine SN.seq ?_
  refine SG.seq ?_
  refine SG.region ?_
  refine SL.val rfl rfl (fun w9 F9 S9 s => R.mv rfl) ?_
  refine SL.val rfl rfl (fun w9 F9 S9 s => R.mv rfl) ?_
  refine SL.val rfl rfl (fun w9 F9 S9 s => R.lenS rfl) ?_
  refine SL.val rfl rfl (fun w9 F9 S9 s => R.sub' rfl rfl (by omega)) ?_
  refine SL.be 9 rfl (congrArg (Value.int .i64) (show (Rr.length : Int) - 1 = ((Rr.length - 1 : Nat) : Int) by omega)) ?_
  refine SL.val rfl rfl (fun w9 F9 S9 s => R.idx rfl rfl (by omega) (by omega) q hq) ?_
  refine SL.val rfl rfl (fun w9 F9 S9 s => R.ld (v := .slice r9.a r9.n r9.c) rfl (rows_ld (s.sh (p := (fun w => Cells w a3 (Rr.map URow.val) ∧ ∀ r ∈ Rr, URow.ok w r)) (by repeat (first | exact Sel.keep | exact Sel.here | apply Sel.there))).1 hq hr9)) ?_
  refine SL.val rfl rfl (fun w9 F9 S9 s => R.idx (i := 0) rfl rfl (by omega) (by omega) q2 hq2) ?_
  refine SL.val rfl rfl (fun w9 F9 S9 s => R.ld (v := .int .u64 (v : Int)) rfl (us_ld (i := 0) ((s.sh (p := (fun w => Cells w a3 (Rr.map URow.val) ∧ ∀ r ∈ Rr, URow.ok w r)) (by repeat (first | exact Sel.keep | exact Sel.here | apply Sel.there))).2 r9 hrm).cells hq2 hr0)) ?_
  refine SL.step rfl rfl (CS.call rfl go61 (eight_ok v (by omega)) (by repeat (first | exact Sels.nil | apply Sels.cons | exact Sel.keep | exact Sel.here | apply Sel.there))) ?_
  rintro _ _ ⟨_, ⟨rfl, rfl⟩, rfl⟩
  refine SL.n0 ?_
  refine SL.val rfl rfl (fun w9 F9 S9 s => R.as rfl) ?_
  refine SL.nil ?_
  refine SN.seq ?_
  exact SG.ret1 rfl rfl (Imp.sels Sels.nil) (⟨by rw [hrt, dgs_root], rfl⟩)

end Go.Proofs.Yteaihincmfbblaa
/-
  The walks of the laws on shrink.
-/
set_option linter.unusedVariables false
set_option linter.unusedSimpArgs false
namespace Go.Proofs.Yteaihincmfbblaa
open Go Brv Brv.Crc Brv.Shrink
theorem refgrow_ok (a : Option Addr) (n c : Nat) (l : List UInt8) (most : Int) (w : World) (hb : Bs w a n l) (hc : n ≤ c) (hn : n ≤ 1000000) : Meets Try.prog 36 [.slice a n c, .int .i64 most] w (fun v w' => v = .tuple #[.string (str (growF most l).1), .int .i64 (growF most l).2] ∧ Ext [] w w') := by
  refine Meets.enter Try.func36 rfl 77 rfl (Nat.le_of_ble_eq_true rfl) ?_
  have E := Ext.refl [] w
  have hl := hb.len
  refine G.seq ?_
  refine G.region ?_
  refine L.val rfl rfl (R.as rfl) ?_
  refine L.val rfl rfl (R.as rfl) ?_
  refine L.nil ?_
  refine N.seq ?_
  refine G.seq ?_
  refine G.seq ?_
  refine G.region ?_
  refine L.val rfl rfl (R.mv rfl) ?_
  refine L.val rfl rfl (R.lss rfl rfl) ?_
  refine L.nil ?_
  refine N.seq ?_
  refine G.cut (X := Unit) (fun _ => [(0, .slice a n c), (1, .int .i64 ((most.toNat : Nat) : Int))]) (fun _ w' => Ext [] w w') ?_ ?_
  · refine G.condP rfl (fun h0 => ?_) (fun h0 => ?_)
    · refine G.region ?_
      refine L.val rfl rfl (R.as rfl) ?_
      refine L.be 1 rfl (show Value.int .i64 0 = .int .i64 ((most.toNat : Nat) : Int) by congr 1; omega) ?_
      refine L.nil ?_
      exact N.handX () (Sub.cons rfl (Sub.cons rfl (Sub.nil _))) E
    · refine G.be 1 rfl (show Value.int .i64 most = .int .i64 ((most.toNat : Nat) : Int) by congr 1; omega) ?_
      refine G.skip ?_
      exact N.handX () (Sub.cons rfl (Sub.cons rfl (Sub.nil _))) E
  · rintro _ w1 E
    refine N.seq ?_
    refine G.seq ?_
    refine G.region ?_
    refine L.val rfl rfl (R.as rfl) ?_
    refine L.nil ?_
    refine N.seq ?_
    refine G.seq ?_
    refine G.seq ?_
    refine G.region ?_
    refine L.val rfl rfl (R.as rfl) ?_
    refine L.nil ?_
    refine N.seq ?_
    refine G.block ?_
    refine G.loop (X := Nat × List UInt8) (fun x => [(0, .slice a n c), (1, .int .i64 ((most.toNat : Nat) : Int)), (6, .string (str x.2)), (7, .int .i64 (x.1 : Int))]) (fun x w' => x.1 ≤ n ∧ growN most.toNat (l.drop x.1).length x.2 (l.drop x.1) = growF most l ∧ x.2.length ≤ 130 * x.1 ∧ Ext [] w w') (fun x => n - x.1) ((0, [])) (Sub.cons rfl (Sub.cons rfl (Sub.cons rfl (Sub.cons rfl (Sub.nil _))))) ⟨Nat.zero_le _, rfl, by simp, E⟩ ?_
    rintro ⟨i, acc⟩ w1 ⟨hi, hacc, hal, E⟩
    dsimp only at hi hacc hal
    refine G.sub [(0, .slice a n c), (1, .int .i64 ((most.toNat : Nat) : Int)), (6, .string (str acc)), (7, .int .i64 (i : Int))] (Sub.cons rfl (Sub.cons rfl (Sub.cons rfl (Sub.cons rfl (Sub.nil _))))) ?_
    refine G.seq ?_
    refine G.seq ?_
    refine G.region ?_
    refine L.val rfl rfl (R.mv rfl) ?_
    refine L.val rfl rfl (R.mv rfl) ?_
    refine L.val rfl rfl (R.lenS rfl) ?_
    refine L.val rfl rfl (R.lss rfl rfl) ?_
    refine L.nil ?_
    refine N.seq ?_
    refine G.condP rfl (fun h1 => ?_) (fun h1 => ?_)
    · have hil : i < l.length := by omega
      have hdr := List.drop_eq_getElem_cons hil
      obtain ⟨p, hp, hcl⟩ := hb.at i hil
      have hnb := l[i].toNat_lt
      refine G.skip ?_
      refine N.seq ?_
      refine G.block ?_
      refine G.seq ?_
      refine G.region ?_
      refine L.val rfl rfl (R.mv rfl) ?_
      refine L.val rfl rfl (R.mv rfl) ?_
      refine L.val rfl rfl (R.idx rfl rfl (by omega) (by omega) p hp) ?_
      refine L.val rfl rfl (R.ld rfl (cell?_ext0' hcl E)) ?_
      refine L.val rfl rfl (R.conv rfl _ (wrap_i64 (by omega))) ?_
      refine L.val rfl rfl (R.as rfl) ?_
      refine L.nil ?_
      refine N.seq ?_
      refine G.seq ?_
      refine G.region ?_
      refine L.val rfl rfl (R.as rfl) ?_
      refine L.nil ?_
      refine N.seq ?_
      refine G.seq ?_
      refine G.seq ?_
      refine G.region ?_
      refine L.val rfl rfl (R.mv rfl) ?_
      refine L.val rfl rfl (R.gtr rfl rfl) ?_
      refine L.nil ?_
      refine N.seq ?_
      refine G.condP rfl (fun h2 => ?_) (fun h2 => ?_)
      · refine G.seq ?_
        refine G.seq ?_
        refine G.region ?_
        refine L.val rfl rfl (R.mv rfl) ?_
        refine L.val rfl rfl (R.add rfl rfl (by omega)) ?_
        refine L.val rfl rfl (R.mv rfl) ?_
        refine L.val rfl rfl (R.lenS rfl) ?_
        refine L.val rfl rfl (R.geq rfl rfl) ?_
        refine L.nil ?_
        refine N.seq ?_
        refine G.condP rfl (fun h3 => ?_) (fun h3 => ?_)
        · have hpc : pieceF (l.drop i) = none := by rw [hdr, List.drop_of_length_le (by omega)]; exact pieceF_hi0 _ (by omega)
          rw [growN_bad _ _ _ _ (by intro e; rw [e] at hdr; cases hdr) (Nat.le_refl _) hpc] at hacc
          refine G.seq ?_
          refine G.region ?_
          refine L.val rfl rfl (R.as rfl) ?_
          refine L.val rfl rfl (R.as rfl) ?_
          refine L.nil ?_
          refine N.seq ?_
          refine G.ret2 rfl rfl rfl ?_
          rw [← hacc]; exact ⟨rfl, E⟩
        · have hi1 : i + 1 < l.length := by omega
          have hdr1 := List.drop_eq_getElem_cons hi1
          have hpc : pieceF (l.drop i) = some (List.replicate (l[i].toNat - 125) l[i + 1], l.drop (i + 2)) := by rw [hdr, hdr1]; exact pieceF_hi _ (by omega) _ _
          have hone : (l.drop (i + 1)).take 1 = [l[i + 1]] := by rw [hdr1, List.take_succ_cons, List.take_zero]
          have hb1 := hb.sub (i + 1) c 1 (by omega) (by omega)
          refine G.skip ?_
          refine N.seq ?_
          refine G.seq ?_
          refine G.seq ?_
          refine G.region ?_
          refine L.val rfl rfl (R.as rfl) ?_
          refine L.nil ?_
          refine N.seq ?_
          refine G.block ?_
          refine G.loop (X := Nat) (fun k => [(0, .slice a n c), (1, .int .i64 ((most.toNat : Nat) : Int)), (6, .string (str acc)), (7, .int .i64 (i : Int)), (8, .int .i64 (l[i].toNat : Int)), (9, .string (str (List.replicate k l[i + 1]))), (10, .int .i64 (k : Int))]) (fun k w' => k ≤ l[i].toNat - 125 ∧ Ext [] w w') (fun k => l[i].toNat - k) (0) (Sub.cons rfl (Sub.cons rfl (Sub.cons rfl (Sub.cons rfl (Sub.cons rfl (Sub.cons rfl (Sub.cons rfl (Sub.nil _)))))))) ⟨Nat.zero_le _, E⟩ ?_
          rintro k w2 ⟨hk, E⟩
          refine G.seq ?_
          refine G.seq ?_
          refine G.region ?_
          refine L.val rfl rfl (R.mv rfl) ?_
          refine L.val rfl rfl (R.mv rfl) ?_
          refine L.val rfl rfl (R.sub' rfl rfl (by omega)) ?_
          refine L.val rfl rfl (R.lss rfl rfl) ?_
          refine L.nil ?_
          refine N.seq ?_
          refine G.condP rfl (fun h4 => ?_) (fun h4 => ?_)
          · refine G.skip ?_
            refine N.seq ?_
            refine G.seq ?_
            refine G.block ?_
            refine G.region ?_
            refine L.val rfl rfl (R.mv rfl) ?_
            refine L.val rfl rfl (R.mv rfl) ?_
            refine L.val rfl rfl (R.mv rfl) ?_
            refine L.val rfl rfl (R.add rfl rfl (by omega)) ?_
            refine L.val rfl rfl (R.mv rfl) ?_
            refine L.val rfl rfl (R.add rfl rfl (by omega)) ?_
            refine L.val rfl rfl (R.slLH rfl rfl rfl (by omega) (by omega) (by omega)) ?_
            refine L.val rfl rfl (R.bytesStr rfl (hb1.ext0 E).cells (by rw [hone]; simp; omega)) ?_
            refine L.val rfl rfl (R.addStr rfl rfl (by rw [hone]; simp; omega)) ?_
            refine L.be 43 rfl (show Value.string (str (List.replicate k l[i + 1] ++ (l.drop (i + 1)).take 1)) = .string (str (List.replicate (k + 1) l[i + 1])) by rw [hone, ← List.replicate_succ']) ?_
            refine L.val rfl rfl (R.as rfl) ?_
            refine L.nil ?_
            refine N.block ?_
            refine N.seq ?_
            refine G.region ?_
            refine L.val rfl rfl (R.mv rfl) ?_
            refine L.val rfl rfl (R.add rfl rfl (by omega)) ?_
            refine L.val rfl rfl (R.as rfl) ?_
            refine L.nil ?_
            exact N.again (k + 1) (by omega) (Sub.cons rfl (Sub.cons rfl (Sub.cons rfl (Sub.cons rfl (Sub.cons rfl (Sub.cons rfl (Sub.cons rfl (Sub.nil _)))))))) ⟨by omega, E⟩
          · have hk2 : k = l[i].toNat - 125 := by omega
            rw [← hk2] at hpc
            have hlen : (List.replicate k l[i + 1]).length = k := List.length_replicate
            generalize List.replicate k l[i + 1] = pp at *
            refine G.exit _ rfl ?_
            refine N.seq ?_
            refine G.region ?_
            refine L.val rfl rfl (R.mv rfl) ?_
            refine L.val rfl rfl (R.add rfl rfl (by omega)) ?_
            refine L.val rfl rfl (R.as rfl) ?_
            refine L.nil ?_
            refine N.seq ?_
            refine G.seq ?_
            refine G.seq ?_
            refine G.region ?_
            refine L.val rfl rfl (R.mv rfl) ?_
            refine L.val rfl rfl (R.lenStr rfl) ?_
            refine L.val rfl rfl (R.mv rfl) ?_
            refine L.val rfl rfl (R.lenStr rfl) ?_
            have hs1 : (str acc).size = acc.length := str_size _
            have hs2 := str_size
            refine L.val rfl rfl (R.add rfl rfl (by rw [str_size, str_size]; omega)) ?_
            refine L.val rfl rfl (R.mv rfl) ?_
            refine L.val rfl rfl (R.gtr rfl rfl) ?_
            refine L.nil ?_
            refine N.seq ?_
            refine G.condP rfl (fun h6 => ?_) (fun h6 => ?_)
            · rw [str_size, str_size] at h6
              rw [growN_step _ _ _ _ _ _ (Nat.le_refl _) hpc, if_pos (by simp at hlen h6 ⊢; omega)] at hacc
              refine G.seq ?_
              refine G.region ?_
              refine L.val rfl rfl (R.as rfl) ?_
              refine L.val rfl rfl (R.as rfl) ?_
              refine L.nil ?_
              refine N.seq ?_
              refine G.ret2 rfl rfl rfl ?_
              rw [← hacc]; exact ⟨rfl, E⟩
            · rw [str_size, str_size] at h6
              refine G.skip ?_
              refine N.seq ?_
              refine G.region ?_
              refine L.val rfl rfl (R.mv rfl) ?_
              refine L.val rfl rfl (R.mv rfl) ?_
              refine L.val rfl rfl (R.addStr rfl rfl (by omega)) ?_
              refine L.val rfl rfl (R.as rfl) ?_
              refine L.nil ?_
              refine N.block ?_
              exact N.again (X := Nat × List UInt8) (i + 2, acc ++ pp) (by show n - (i + 2) < n - i; omega) (Sub.cons rfl (Sub.cons rfl (Sub.cons rfl (Sub.cons rfl (Sub.nil _))))) ⟨by show i + 2 ≤ n; omega, by show growN _ (l.drop (i + 2)).length (acc ++ _) (l.drop (i + 2)) = _; rw [← hacc, growN_step _ _ _ _ _ _ (Nat.le_refl _) hpc, if_neg (by simp at hlen h6 ⊢; omega)], by show (acc ++ _).length ≤ 130 * (i + 2); rw [List.length_append]; omega, E⟩
      · refine G.seq ?_
        refine G.seq ?_
        refine G.region ?_
        refine L.val rfl rfl (R.mv rfl) ?_
        refine L.val rfl rfl (R.mv rfl) ?_
        refine L.val rfl rfl (R.add rfl rfl (by omega)) ?_
        refine L.val rfl rfl (R.add rfl rfl (by omega)) ?_
        refine L.val rfl rfl (R.mv rfl) ?_
        refine L.val rfl rfl (R.lenS rfl) ?_
        refine L.val rfl rfl (R.geq rfl rfl) ?_
        refine L.nil ?_
        refine N.seq ?_
        refine G.condP rfl (fun h5 => ?_) (fun h5 => ?_)
        · have hpc : pieceF (l.drop i) = none := by rw [hdr, pieceF_lo _ (by omega), if_neg (by rw [List.length_drop]; omega)]
          rw [growN_bad _ _ _ _ (by intro e; rw [e] at hdr; cases hdr) (Nat.le_refl _) hpc] at hacc
          refine G.seq ?_
          refine G.region ?_
          refine L.val rfl rfl (R.as rfl) ?_
          refine L.val rfl rfl (R.as rfl) ?_
          refine L.nil ?_
          refine N.seq ?_
          refine G.ret2 rfl rfl rfl ?_
          rw [← hacc]; exact ⟨rfl, E⟩
        · have hpc : pieceF (l.drop i) = some ((l.drop (i + 1)).take (l[i].toNat + 1), l.drop (i + (l[i].toNat + 2))) := by rw [hdr, pieceF_lo _ (by omega), if_pos (by rw [List.length_drop]; omega), List.drop_drop, show i + 1 + (l[i].toNat + 1) = i + (l[i].toNat + 2) by omega]
          have hb1 := hb.sub (i + 1) c (l[i].toNat + 1) (by omega) (by omega)
          have hlen : ((l.drop (i + 1)).take (l[i].toNat + 1)).length = l[i].toNat + 1 := by rw [List.length_take, List.length_drop]; omega
          refine G.skip ?_
          refine N.seq ?_
          refine G.seq ?_
          refine G.region ?_
          refine L.val rfl rfl (R.mv rfl) ?_
          refine L.val rfl rfl (R.mv rfl) ?_
          refine L.val rfl rfl (R.add rfl rfl (by omega)) ?_
          refine L.val rfl rfl (R.mv rfl) ?_
          refine L.val rfl rfl (R.mv rfl) ?_
          refine L.val rfl rfl (R.add rfl rfl (by omega)) ?_
          refine L.val rfl rfl (R.add rfl rfl (by omega)) ?_
          refine L.val rfl rfl (R.slLH rfl rfl rfl (by omega) (by omega) (by omega)) ?_
          refine L.val rfl rfl (R.bytesStr rfl (hb1.ext0 E).cells (by rw [hlen]; omega)) ?_
          refine L.val rfl rfl (R.as rfl) ?_
          refine L.nil ?_
          refine N.seq ?_
          refine G.region ?_
          refine L.val rfl rfl (R.mv rfl) ?_
          refine L.val rfl rfl (R.mv rfl) ?_
          refine L.val rfl rfl (R.add rfl rfl (by omega)) ?_
          refine L.val rfl rfl (R.add rfl rfl (by omega)) ?_
          refine L.val rfl rfl (R.as rfl) ?_
          refine L.nil ?_
          refine N.seq ?_
          refine G.seq ?_
          refine G.seq ?_
          refine G.region ?_
          refine L.val rfl rfl (R.mv rfl) ?_
          refine L.val rfl rfl (R.lenStr rfl) ?_
          refine L.val rfl rfl (R.mv rfl) ?_
          refine L.val rfl rfl (R.lenStr rfl) ?_
          have hs1 : (str acc).size = acc.length := str_size _
          have hs2 := str_size
          refine L.val rfl rfl (R.add rfl rfl (by rw [str_size, str_size]; omega)) ?_
          refine L.val rfl rfl (R.mv rfl) ?_
          refine L.val rfl rfl (R.gtr rfl rfl) ?_
          refine L.nil ?_
          refine N.seq ?_
          refine G.condP rfl (fun h6 => ?_) (fun h6 => ?_)
          · rw [str_size, str_size] at h6
            rw [growN_step _ _ _ _ _ _ (Nat.le_refl _) hpc, if_pos (by simp at hlen h6 ⊢; omega)] at hacc
            refine G.seq ?_
            refine G.region ?_
            refine L.val rfl rfl (R.as rfl) ?_
            refine L.val rfl rfl (R.as rfl) ?_
            refine L.nil ?_
            refine N.seq ?_
            refine G.ret2 rfl rfl rfl ?_
            rw [← hacc]; exact ⟨rfl, E⟩
          · rw [str_size, str_size] at h6
            refine G.skip ?_
            refine N.seq ?_
            refine G.region ?_
            refine L.val rfl rfl (R.mv rfl) ?_
            refine L.val rfl rfl (R.mv rfl) ?_
            refine L.val rfl rfl (R.addStr rfl rfl (by omega)) ?_
            refine L.val rfl rfl (R.as rfl) ?_
            refine L.nil ?_
            refine N.block ?_
            exact N.again (X := Nat × List UInt8) (i + (l[i].toNat + 2), acc ++ (l.drop (i + 1)).take (l[i].toNat + 1)) (by show n - (i + (l[i].toNat + 2)) < n - i; omega) (Sub.cons rfl (Sub.cons rfl (Sub.cons rfl (Sub.cons rfl (Sub.nil _))))) ⟨by show i + (l[i].toNat + 2) ≤ n; omega, by show growN _ (l.drop (i + (l[i].toNat + 2))).length (acc ++ _) (l.drop (i + (l[i].toNat + 2))) = _; rw [← hacc, growN_step _ _ _ _ _ _ (Nat.le_refl _) hpc, if_neg (by simp at hlen h6 ⊢; omega)], by show (acc ++ _).length ≤ 130 * (i + (l[i].toNat + 2)); rw [List.length_append]; omega, E⟩
    · have hin : i = l.length := by omega
      rw [hin, List.drop_length, growN_nil] at hacc
      refine G.exit _ rfl ?_
      refine N.seq ?_
      refine G.seq ?_
      refine G.region ?_
      refine L.val rfl rfl (R.mv rfl) ?_
      refine L.val rfl rfl (R.as rfl) ?_
      refine L.val rfl rfl (R.as rfl) ?_
      refine L.nil ?_
      refine N.seq ?_
      refine G.ret2 rfl rfl rfl ?_
      rw [← hacc]; exact ⟨rfl, E⟩

end Go.Proofs.Yteaihincmfbblaa
/-
  The walks of package patch.
-/
set_option linter.unusedVariables false
set_option linter.unusedSimpArgs false
set_option maxRecDepth 4000
namespace Go.Proofs.Yteaihincmfbblaa
open Go Brv Brv.Pack Brv.Shrink Brv.Patch
theorem strs_one (x : List (List UInt8)) : ∀ u ∈ x.map (fun d => Value.string (str d)), u.oneCell' = true := fun u hu => by obtain ⟨v, _, rfl⟩ := List.mem_map.1 hu; rfl
structure RpS where
  i : Nat
  l : List UInt8
  last : Int
  ps : List (Nat × List UInt8)
  ka : Option Addr
  kc : Nat
  da : Option Addr
  dc : Nat
def grown (ps : List (Nat × List UInt8)) : List (List UInt8) := ps.map fun k => (growF 64 k.2).1
theorem grown_app (a b : List (Nat × List UInt8)) : grown (a ++ b) = grown a ++ grown b := by simp [grown]

set_option maxHeartbeats 2000000 in
theorem refparse_no (a : Option Addr) (n c : Nat) (l : List UInt8) (hc : n ≤ c) (hn : n ≤ 1000000) (hpf : parseF l = none) : SpecS Try.prog 15 [.slice a n c] [bs a n l] (fun v H' => ∃ vs : List Value, vs.length = 5 ∧ (∀ u ∈ vs, u.oneCell' = true) ∧ v = .tuple #[.agg vs.toArray, .bool false] ∧ H' = []) := by
  refine SpecS.enter Try.func15 rfl 135 rfl (Nat.le_of_ble_eq_true rfl) (fun o => ?_)
  refine SG.fact (fun w9 F9 S9 s => (s.bs (a := a) (n := n) (l := l) (by repeat (first | exact Sel.keep | exact Sel.here | apply Sel.there))).len) (fun hf9 => ?_)
  have hln := hf9; clear hf9
  refine SG.seq ?_
  refine SG.region ?_
  refine SL.step rfl rfl (CS.alloc [.int .i64 0, .string ByteArray.empty, .string ByteArray.empty, .slice none 0 0, .slice none 0 0] rfl) ?_
  rintro _ _ ⟨b2, rfl, rfl⟩
  refine SL.val rfl rfl (fun w9 F9 S9 s => R.as rfl) ?_
  refine SL.nil ?_
  refine SN.seq ?_
  refine SG.seq ?_
  refine SG.seq ?_
  refine SG.region ?_
  refine SL.val rfl rfl (fun w9 F9 S9 s => R.mv rfl) ?_
  refine SL.val rfl rfl (fun w9 F9 S9 s => R.lenS rfl) ?_
  refine SL.val rfl rfl (fun w9 F9 S9 s => R.lss rfl rfl) ?_
  refine SL.val rfl rfl (fun w9 F9 S9 s => R.mv rfl) ?_
  refine SL.caseP 16 rfl (fun hg1_3 => ?_) (fun hg1_3 => ?_)
  · refine SL.pass rfl rfl ?_
    refine SL.pass rfl rfl ?_
    refine SL.pass rfl rfl ?_
    refine SL.pass rfl rfl ?_
    first | refine SL.val rfl rfl (fun w9 F9 S9 s => R.pickT rfl rfl) ?_ | refine SL.val rfl rfl (fun w9 F9 S9 s => R.pickF rfl rfl) ?_
    refine SL.val rfl rfl (fun w9 F9 S9 s => R.mv rfl) ?_
    refine SL.pass rfl rfl ?_
    refine SL.pass rfl rfl ?_
    refine SL.pass rfl rfl ?_
    refine SL.pass rfl rfl ?_
    first | refine SL.val rfl rfl (fun w9 F9 S9 s => R.pickT rfl rfl) ?_ | refine SL.val rfl rfl (fun w9 F9 S9 s => R.pickF rfl rfl) ?_
    refine SL.nil ?_
    refine SN.seq ?_
    refine SG.condT rfl ?_
    refine SG.seq ?_
    refine SG.region ?_
    refine SL.val rfl rfl (fun w9 F9 S9 s => R.build (cs := [.int .i64 0, .string ByteArray.empty, .string ByteArray.empty, .slice none 0 0, .slice none 0 0].toArray) rfl rfl) ?_
    refine SL.step0 rfl (CS.stA rfl rfl (by repeat (first | exact Sel.keep | exact Sel.here | apply Sel.there)) (by rfl) (by rfl) (by intro u hu; simp only [List.mem_cons, List.not_mem_nil, or_false] at hu; rcases hu with rfl | rfl | rfl | rfl | rfl <;> rfl)) ?_
    rintro _ _ rfl
    refine SL.val rfl rfl (fun w9 F9 S9 s => R.as rfl) ?_
    refine SL.nil ?_
    refine SN.seq ?_
    exact SG.retCT rfl rfl rfl (by repeat (first | exact Sel.keep | exact Sel.here | apply Sel.there)) (by rfl) (Imp.sels Sels.nil) (⟨_, rfl, by intro u hu; simp only [List.mem_cons, List.not_mem_nil, or_false] at hu; rcases hu with rfl | rfl | rfl | rfl | rfl <;> rfl, rfl, rfl⟩)
  · have h22 : 22 ≤ l.length := by omega
    obtain ⟨x0, hx0⟩ : ∃ x, l[0]? = some x := ⟨_, List.getElem?_eq_getElem (by omega)⟩
    obtain ⟨x1, hx1⟩ : ∃ x, l[1]? = some x := ⟨_, List.getElem?_eq_getElem (by omega)⟩
    refine SL.fact (fun w9 F9 S9 s => bs_pt (s.bs (a := a) (l := l) (by repeat (first | exact Sel.keep | exact Sel.here | apply Sel.there))) hx0) (fun hf9 => ?_)
    obtain ⟨q0, hq0⟩ := hf9
    have hmg := magic_of hx0 hx1
    have hu0 := x0.toNat_lt
    have hu1 := x1.toNat_lt
    refine SL.val rfl rfl (fun w9 F9 S9 s => R.mv rfl) ?_
    refine SL.val rfl rfl (fun w9 F9 S9 s => R.idx (i := 0) rfl rfl (by omega) (by omega) q0 hq0) ?_
    refine SL.val rfl rfl (fun w9 F9 S9 s => R.ld (v := .int .u8 (x0.toNat : Int)) rfl (bs_ld (i := 0) (s.bs (a := a) (l := l) (by repeat (first | exact Sel.keep | exact Sel.here | apply Sel.there))) hq0 hx0)) ?_
    refine SL.val rfl rfl (fun w9 F9 S9 s => R.neI rfl rfl) ?_
    first | refine SL.val rfl rfl (fun w9 F9 S9 s => R.pickT rfl rfl) ?_ | refine SL.val rfl rfl (fun w9 F9 S9 s => R.pickF rfl rfl) ?_
    refine SL.val rfl rfl (fun w9 F9 S9 s => R.mv rfl) ?_
    refine SL.caseP 22 rfl (fun hg1_9 => ?_) (fun hg1_9 => ?_)
    · refine SL.pass rfl rfl ?_
      refine SL.pass rfl rfl ?_
      refine SL.pass rfl rfl ?_
      refine SL.pass rfl rfl ?_
      first | refine SL.val rfl rfl (fun w9 F9 S9 s => R.pickT rfl rfl) ?_ | refine SL.val rfl rfl (fun w9 F9 S9 s => R.pickF rfl rfl) ?_
      refine SL.nil ?_
      refine SN.seq ?_
      refine SG.condT rfl ?_
      refine SG.seq ?_
      refine SG.region ?_
      refine SL.val rfl rfl (fun w9 F9 S9 s => R.build (cs := [.int .i64 0, .string ByteArray.empty, .string ByteArray.empty, .slice none 0 0, .slice none 0 0].toArray) rfl rfl) ?_
      refine SL.step0 rfl (CS.stA rfl rfl (by repeat (first | exact Sel.keep | exact Sel.here | apply Sel.there)) (by rfl) (by rfl) (by intro u hu; simp only [List.mem_cons, List.not_mem_nil, or_false] at hu; rcases hu with rfl | rfl | rfl | rfl | rfl <;> rfl)) ?_
      rintro _ _ rfl
      refine SL.val rfl rfl (fun w9 F9 S9 s => R.as rfl) ?_
      refine SL.nil ?_
      refine SN.seq ?_
      exact SG.retCT rfl rfl rfl (by repeat (first | exact Sel.keep | exact Sel.here | apply Sel.there)) (by rfl) (Imp.sels Sels.nil) (⟨_, rfl, by intro u hu; simp only [List.mem_cons, List.not_mem_nil, or_false] at hu; rcases hu with rfl | rfl | rfl | rfl | rfl <;> rfl, rfl, rfl⟩)
    · refine SL.val rfl rfl (fun w9 F9 S9 s => R.mv rfl) ?_
      refine SL.val rfl rfl (fun w9 F9 S9 s => R.idx (i := 1) rfl rfl (by omega) (by omega) q0 hq0) ?_
      refine SL.val rfl rfl (fun w9 F9 S9 s => R.ld (v := .int .u8 (x1.toNat : Int)) rfl (bs_ld (i := 1) (s.bs (a := a) (l := l) (by repeat (first | exact Sel.keep | exact Sel.here | apply Sel.there))) hq0 hx1)) ?_
      refine SL.val rfl rfl (fun w9 F9 S9 s => R.neI rfl rfl) ?_
      first | refine SL.val rfl rfl (fun w9 F9 S9 s => R.pickT rfl rfl) ?_ | refine SL.val rfl rfl (fun w9 F9 S9 s => R.pickF rfl rfl) ?_
      refine SL.nil ?_
      refine SN.seq ?_
      refine SG.condP rfl (fun h0 => ?_) (fun h0 => ?_)
      · refine SG.seq ?_
        refine SG.region ?_
        refine SL.val rfl rfl (fun w9 F9 S9 s => R.build (cs := [.int .i64 0, .string ByteArray.empty, .string ByteArray.empty, .slice none 0 0, .slice none 0 0].toArray) rfl rfl) ?_
        refine SL.step0 rfl (CS.stA rfl rfl (by repeat (first | exact Sel.keep | exact Sel.here | apply Sel.there)) (by rfl) (by rfl) (by intro u hu; simp only [List.mem_cons, List.not_mem_nil, or_false] at hu; rcases hu with rfl | rfl | rfl | rfl | rfl <;> rfl)) ?_
        rintro _ _ rfl
        refine SL.val rfl rfl (fun w9 F9 S9 s => R.as rfl) ?_
        refine SL.nil ?_
        refine SN.seq ?_
        exact SG.retCT rfl rfl rfl (by repeat (first | exact Sel.keep | exact Sel.here | apply Sel.there)) (by rfl) (Imp.sels Sels.nil) (⟨_, rfl, by intro u hu; simp only [List.mem_cons, List.not_mem_nil, or_false] at hu; rcases hu with rfl | rfl | rfl | rfl | rfl <;> rfl, rfl, rfl⟩)
      · have hm1 : (numF l 0 2).1 = 45229 := by omega
        have hQ := qF_long h22
        have hu4 := unroot_long (l := l.drop 4) (by rw [List.length_drop]; omega)
        have hu12 := unroot_long (l := l.drop 12) (by rw [List.length_drop]; omega)
        have l2 : (l.drop 2).length = l.length - 2 := List.length_drop
        have l4 : (l.drop 4).length = l.length - 4 := List.length_drop
        have l20 : (l.drop 20).length = l.length - 20 := List.length_drop
        have e2 : numF (l.drop 2) 0 2 = ((Pack.num ((l.drop 2).take 2)), l.drop 4, 0) := by have := numF_long (l := l.drop 2) (k := 2) (by decide) (by decide) (by omega); rw [List.drop_drop] at this; exact this
        have e20 : numF (l.drop 20) 0 2 = ((Pack.num ((l.drop 20).take 2)), l.drop 22, 0) := by have := numF_long (l := l.drop 20) (k := 2) (by decide) (by decide) (by omega); rw [List.drop_drop] at this; exact this
        have hc6 : (Pack.num ((l.drop 20).take 2)) < 65536 := by have := numF_lt (l.drop 20) 0 2 (by decide); rw [show ((2 : Nat) : Int) = 2 from rfl, e20] at this; exact this
        refine SG.skip ?_
        refine SN.seq ?_
        refine SG.seq ?_
        refine SG.region ?_
        refine SL.val rfl rfl (fun w9 F9 S9 s => R.mv rfl) ?_
        refine SL.val rfl rfl (fun w9 F9 S9 s => R.slL rfl rfl (by decide) (by omega)) ?_
        refine SL.val rfl rfl (fun w9 F9 S9 s => R.strB (l := l.drop 2) rfl ((s.bs (a := a) (l := l) (by repeat (first | exact Sel.keep | exact Sel.here | apply Sel.there))).drop 2 c (by omega) (by omega))) ?_
        refine SL.val rfl rfl (fun w9 F9 S9 s => R.build (cs := #[.string (str (l.drop 2)), .int .i64 0]) rfl rfl) ?_
        refine SL.step rfl rfl (CS.boxA rfl) ?_
        rintro _ _ ⟨b33, rfl, rfl⟩
        refine SL.val rfl rfl (fun w9 F9 S9 s => R.as rfl) ?_
        refine SL.nil ?_
        refine SN.seq ?_
        refine SG.seq ?_
        refine SG.region ?_
        refine SL.step rfl rfl (CS.alloc [.int .i64 0, .string ByteArray.empty, .string ByteArray.empty, .slice none 0 0, .slice none 0 0] rfl) ?_
        rintro _ _ ⟨b5, rfl, rfl⟩
        refine SL.nil ?_
        refine SN.seq ?_
        refine SG.seq ?_
        refine SG.region ?_
        refine SL.val rfl rfl (fun w9 F9 S9 s => R.mv rfl) ?_
        refine SL.step rfl rfl (CS.call rfl go34 (refNumS b33 (l.drop 2) 0 2 (by omega)) (by repeat (first | exact Sels.nil | apply Sels.cons | exact Sel.keep | exact Sel.here | apply Sel.there))) ?_
        rintro _ _ ⟨_, ⟨rfl, rfl⟩, rfl⟩
        refine SL.n1 ?_
        rw [e2]
        dsimp only
        refine SL.val rfl rfl (fun w9 F9 S9 s => R.fld rfl) ?_
        refine SL.step0 rfl (CS.st rfl rfl (show Sel _ (blk b5 _ _) _ from (by repeat (first | exact Sel.keep | exact Sel.here | apply Sel.there))) (by repeat (first | exact SetAt.here | apply SetAt.there)) rfl) ?_
        rintro _ _ rfl
        refine SL.nil ?_
        refine SN.seq ?_
        refine SG.seq ?_
        refine SG.region ?_
        refine SL.val rfl rfl (fun w9 F9 S9 s => R.mv rfl) ?_
        refine SL.val rfl rfl (fun w9 F9 S9 s => R.nilChk rfl) ?_
        refine SL.val rfl rfl (fun w9 F9 S9 s => R.fld rfl) ?_
        refine SL.val rfl rfl (fun w9 F9 S9 s => R.ldB rfl (s.cel (by repeat (first | exact SelB.blk | exact SelB.fz | apply SelB.there))) (by rfl)) ?_
        refine SL.val rfl rfl (fun w9 F9 S9 s => R.slStrH rfl rfl (by decide) (by omega)) ?_
        refine SL.be 41 rfl (congrArg (fun q => Value.string (str q)) (show _ = ((l.drop 4).take 8) from rfl)) ?_
        refine SL.val rfl rfl (fun w9 F9 S9 s => R.fld rfl) ?_
        refine SL.step0 rfl (CS.st rfl rfl (show Sel _ (blk b5 _ _) _ from (by repeat (first | exact Sel.keep | exact Sel.here | apply Sel.there))) (by repeat (first | exact SetAt.here | apply SetAt.there)) rfl) ?_
        rintro _ _ rfl
        refine SL.nil ?_
        refine SN.seq ?_
        refine SG.seq ?_
        refine SG.region ?_
        refine SL.val rfl rfl (fun w9 F9 S9 s => R.mv rfl) ?_
        refine SL.val rfl rfl (fun w9 F9 S9 s => R.nilChk rfl) ?_
        refine SL.val rfl rfl (fun w9 F9 S9 s => R.fld rfl) ?_
        refine SL.val rfl rfl (fun w9 F9 S9 s => R.ldB rfl (s.cel (by repeat (first | exact SelB.blk | exact SelB.fz | apply SelB.there))) (by rfl)) ?_
        refine SL.val rfl rfl (fun w9 F9 S9 s => R.slStr rfl rfl rfl (by decide) (by decide) (by omega)) ?_
        refine SL.be 47 rfl (congrArg (fun q => Value.string (str q)) (show _ = ((l.drop 12).take 8) by first | (rw [show (8 : Int).toNat = 8 from rfl, show (16 : Int).toNat = 16 from rfl, List.drop_drop]; done) | (rw [show (8 : Int).toNat = 8 from rfl, show (16 : Int).toNat = 16 from rfl, List.drop_take, List.drop_drop]))) ?_
        refine SL.val rfl rfl (fun w9 F9 S9 s => R.fld rfl) ?_
        refine SL.step0 rfl (CS.st rfl rfl (show Sel _ (blk b5 _ _) _ from (by repeat (first | exact Sel.keep | exact Sel.here | apply Sel.there))) (by repeat (first | exact SetAt.here | apply SetAt.there)) rfl) ?_
        rintro _ _ rfl
        refine SL.nil ?_
        refine SN.seq ?_
        refine SG.seq ?_
        refine SG.region ?_
        refine SL.val rfl rfl (fun w9 F9 S9 s => R.mv rfl) ?_
        refine SL.val rfl rfl (fun w9 F9 S9 s => R.mv rfl) ?_
        refine SL.val rfl rfl (fun w9 F9 S9 s => R.nilChk rfl) ?_
        refine SL.val rfl rfl (fun w9 F9 S9 s => R.fld rfl) ?_
        refine SL.val rfl rfl (fun w9 F9 S9 s => R.ldB rfl (s.cel (by repeat (first | exact SelB.blk | exact SelB.fz | apply SelB.there))) (by rfl)) ?_
        refine SL.val rfl rfl (fun w9 F9 S9 s => R.slStrL rfl rfl (by decide) (by omega)) ?_
        refine SL.be 54 rfl (congrArg (fun q => Value.string (str q)) (show _ = l.drop 20 by rw [show (16 : Int).toNat = 16 from rfl, List.drop_drop])) ?_
        refine SL.val rfl rfl (fun w9 F9 S9 s => R.nilChk rfl) ?_
        refine SL.val rfl rfl (fun w9 F9 S9 s => R.fld rfl) ?_
        refine SL.step0 rfl (CS.st rfl rfl (show Sel _ (blk b33 _ _) _ from (by repeat (first | exact Sel.keep | exact Sel.here | apply Sel.there))) (by repeat (first | exact SetAt.here | apply SetAt.there)) rfl) ?_
        rintro _ _ rfl
        refine SL.nil ?_
        refine SN.seq ?_
        refine SG.seq ?_
        refine SG.region ?_
        refine SL.val rfl rfl (fun w9 F9 S9 s => R.mv rfl) ?_
        refine SL.step rfl rfl (CS.call rfl go34 (refNumS b33 (l.drop 20) 0 2 (by omega)) (by repeat (first | exact Sels.nil | apply Sels.cons | exact Sel.keep | exact Sel.here | apply Sel.there))) ?_
        rintro _ _ ⟨_, ⟨rfl, rfl⟩, rfl⟩
        refine SL.n1 ?_
        rw [e20]
        dsimp only
        refine SL.val rfl rfl (fun w9 F9 S9 s => R.as rfl) ?_
        refine SL.nil ?_
        refine SN.seq ?_
        refine SG.seq ?_
        refine SG.region ?_
        refine SL.val rfl rfl (fun w9 F9 S9 s => R.as rfl) ?_
        refine SL.nil ?_
        refine SN.seq ?_
        refine SG.seq ?_
        refine SG.seq ?_
        refine SG.region ?_
        refine SL.val rfl rfl (fun w9 F9 S9 s => R.as rfl) ?_
        refine SL.nil ?_
        refine SN.seq ?_
        refine SG.block ?_
        refine SG.imp (Imp.ownNil 9 1) ?_
        refine SG.imp (Imp.ownNil 3 1) ?_
        refine SG.loop (X := RpS) (fun y => [(2, .pointer (some ⟨b2, 0, none⟩)), (4, .pointer (some ⟨b33, 0, none⟩)), (5, .pointer (some ⟨b5, 0, none⟩)), (6, .int .i64 ((Pack.num ((l.drop 20).take 2)) : Int)), (7, .int .i64 y.last), (8, .int .i64 (y.i : Int))]) (fun y => [blk b33 [.string (str (y.l)), .int .i64 (0)] 87, blk b5 [.int .i64 ((Pack.num ((l.drop 2).take 2)) : Int), .string (str (((l.drop 4).take 8))), .string (str (((l.drop 12).take 8))), .slice y.ka y.ps.length y.kc, .slice y.da y.ps.length y.dc] 41, own 3 1 y.ka (y.ps.length) y.kc (nums ((y.ps).map Prod.fst)), own 9 1 y.da (y.ps.length) y.dc ((grown (y.ps)).map (fun d => Value.string (str d))), blk b2 [.int .i64 0, .string ByteArray.empty, .string ByteArray.empty, .slice none 0 0, .slice none 0 0] 41]) (fun y => y.i ≤ (Pack.num ((l.drop 20).take 2)) ∧ y.ps.length ≤ y.i ∧ y.l.length ≤ l.length ∧ partsF (Pack.num ((l.drop 20).take 2)) (l.drop 22) 0 = (y.ps ++ (partsF ((Pack.num ((l.drop 20).take 2)) - y.i) y.l 0).1, (partsF ((Pack.num ((l.drop 20).take 2)) - y.i) y.l 0).2) ∧ ∀ r, rightF (Pack.num ((l.drop 2).take 2)) (-1) (y.ps ++ r) = rightF (Pack.num ((l.drop 2).take 2)) y.last r) (fun y => (Pack.num ((l.drop 20).take 2)) - y.i) (⟨0, l.drop 22, -1, [], none, 0, none, 0⟩) (Sub.cons rfl (Sub.cons rfl (Sub.cons rfl (Sub.cons rfl (Sub.cons rfl (Sub.cons rfl (Sub.nil _))))))) ((Imp.sels (by repeat (first | exact Sels.nil | apply Sels.cons | exact Sel.keep | exact Sel.here | apply Sel.there)))) (⟨Nat.zero_le _, Nat.le_refl _, by show (l.drop 22).length ≤ _; rw [List.length_drop]; omega, rfl, fun r => rfl⟩) ?_
        rintro ⟨i, ll, last, ps, ka, kc, da, dc⟩ ⟨hi, hpi, hll, hinv, hrt⟩
        dsimp only at hi hpi hll hinv hrt
        show SG _ _ _ _ _ [(2, .pointer (some ⟨b2, 0, none⟩)), (4, .pointer (some ⟨b33, 0, none⟩)), (5, .pointer (some ⟨b5, 0, none⟩)), (6, .int .i64 ((Pack.num ((l.drop 20).take 2)) : Int)), (7, .int .i64 last), (8, .int .i64 (i : Int))] [blk b33 [.string (str (ll)), .int .i64 (0)] 87, blk b5 [.int .i64 ((Pack.num ((l.drop 2).take 2)) : Int), .string (str (((l.drop 4).take 8))), .string (str (((l.drop 12).take 8))), .slice ka ps.length kc, .slice da ps.length dc] 41, own 3 1 ka (ps.length) kc (nums ((ps).map Prod.fst)), own 9 1 da (ps.length) dc ((grown (ps)).map (fun d => Value.string (str d))), blk b2 [.int .i64 0, .string ByteArray.empty, .string ByteArray.empty, .slice none 0 0, .slice none 0 0] 41] _
        refine SG.seq ?_
        refine SG.seq ?_
        refine SG.region ?_
        refine SL.val rfl rfl (fun w9 F9 S9 s => R.mv rfl) ?_
        refine SL.val rfl rfl (fun w9 F9 S9 s => R.mv rfl) ?_
        refine SL.val rfl rfl (fun w9 F9 S9 s => R.lss rfl rfl) ?_
        refine SL.nil ?_
        refine SN.seq ?_
        refine SG.condP rfl (fun h1 => ?_) (fun h1 => ?_)
        · have hcs : (Pack.num ((l.drop 20).take 2)) - i = ((Pack.num ((l.drop 20).take 2)) - (i + 1)) + 1 := by omega
          refine SG.skip ?_
          refine SN.seq ?_
          refine SG.seq ?_
          refine SG.block ?_
          refine SG.seq ?_
          refine SG.region ?_
          refine SL.val rfl rfl (fun w9 F9 S9 s => R.mv rfl) ?_
          refine SL.step rfl rfl (CS.call rfl go34 (refNumS b33 ll 0 2 (by omega)) (by repeat (first | exact Sels.nil | apply Sels.cons | exact Sel.keep | exact Sel.here | apply Sel.there))) ?_
          rintro _ _ ⟨_, ⟨rfl, rfl⟩, rfl⟩
          refine SL.n1 ?_
          obtain ⟨k0, hk0⟩ : ∃ z, z = numF ll 0 2 := ⟨_, rfl⟩
          rw [← hk0]
          have hkl : k0.2.1.length ≤ ll.length := by rw [hk0]; exact numF_length _ _ _
          refine SL.val rfl rfl (fun w9 F9 S9 s => R.as rfl) ?_
          refine SL.nil ?_
          refine SN.seq ?_
          refine SG.seq ?_
          refine SG.region ?_
          refine SL.val rfl rfl (fun w9 F9 S9 s => R.mv rfl) ?_
          refine SL.step rfl rfl (CS.call rfl go35 (refTxtS b33 k0.2.1 k0.2.2 65535 (by omega)) (by repeat (first | exact Sels.nil | apply Sels.cons | exact Sel.keep | exact Sel.here | apply Sel.there))) ?_
          rintro _ _ ⟨_, ⟨rfl, rfl⟩, rfl⟩
          refine SL.n1 ?_
          obtain ⟨t0, ht0⟩ : ∃ z, z = txtF k0.2.1 k0.2.2 65535 := ⟨_, rfl⟩
          rw [← ht0]
          have htl : t0.2.1.length ≤ k0.2.1.length := by rw [ht0]; exact txtF_length _ _ _
          have htx : t0.1.length ≤ 65535 := by rw [ht0]; exact txtF_le _ _ _
          have hst : partsF (Pack.num ((l.drop 20).take 2)) (l.drop 22) 0 = ((ps ++ [(k0.1, t0.1)]) ++ (partsF ((Pack.num ((l.drop 20).take 2)) - (i + 1)) t0.2.1 t0.2.2).1, (partsF ((Pack.num ((l.drop 20).take 2)) - (i + 1)) t0.2.1 t0.2.2).2) := by rw [hinv, hcs, partsF_step, ← hk0, ← ht0, List.append_assoc]; rfl
          refine SL.val rfl rfl (fun w9 F9 S9 s => R.as rfl) ?_
          refine SL.nil ?_
          refine SN.seq ?_
          refine SG.seq ?_
          refine SG.seq ?_
          refine SG.region ?_
          refine SL.val rfl rfl (fun w9 F9 S9 s => R.mv rfl) ?_
          refine SL.val rfl rfl (fun w9 F9 S9 s => R.nilChk rfl) ?_
          refine SL.val rfl rfl (fun w9 F9 S9 s => R.fld rfl) ?_
          refine SL.val rfl rfl (fun w9 F9 S9 s => R.ldB rfl (s.cel (by repeat (first | exact SelB.blk | exact SelB.fz | apply SelB.there))) (by rfl)) ?_
          refine SL.val rfl rfl (fun w9 F9 S9 s => R.neI rfl rfl) ?_
          refine SL.nil ?_
          refine SN.seq ?_
          refine SG.condP rfl (fun h2 => ?_) (fun h2 => ?_)
          · have hno : ¬ okQ (qF l) := fun h9 => by
              have h8 := h9.1
              rw [hQ] at h8
              have h7 : (partsF (Pack.num ((l.drop 20).take 2)) (l.drop 22) 0).2.2 = 0 := h8
              rw [hst, partsF_sticky _ h2] at h7
              exact h2 h7
            refine SG.seq ?_
            refine SG.region ?_
            refine SL.val rfl rfl (fun w9 F9 S9 s => R.build (cs := [.int .i64 0, .string ByteArray.empty, .string ByteArray.empty, .slice none 0 0, .slice none 0 0].toArray) rfl rfl) ?_
            refine SL.step0 rfl (CS.stA rfl rfl (by repeat (first | exact Sel.keep | exact Sel.here | apply Sel.there)) (by rfl) (by rfl) (by intro u hu; simp only [List.mem_cons, List.not_mem_nil, or_false] at hu; rcases hu with rfl | rfl | rfl | rfl | rfl <;> rfl)) ?_
            rintro _ _ rfl
            refine SL.val rfl rfl (fun w9 F9 S9 s => R.as rfl) ?_
            refine SL.nil ?_
            refine SN.seq ?_
            exact SG.retCT rfl rfl rfl (by repeat (first | exact Sel.keep | exact Sel.here | apply Sel.there)) (by rfl) (Imp.sels Sels.nil) (⟨_, rfl, by intro u hu; simp only [List.mem_cons, List.not_mem_nil, or_false] at hu; rcases hu with rfl | rfl | rfl | rfl | rfl <;> rfl, rfl, rfl⟩)
          · have ht0e : t0.2.2 = 0 := by omega
            rw [ht0e] at hst ⊢
            refine SG.skip ?_
            refine SN.seq ?_
            refine SG.seq ?_
            refine SG.region ?_
            refine SL.val rfl rfl (fun w9 F9 S9 s => R.mv rfl) ?_
            refine SL.step rfl rfl (CS.strBytes rfl) ?_
            rintro _ _ ⟨a76, c76, rfl, hc76, rfl⟩
            refine SL.step rfl rfl (CS.callR (φ := fun v => v = .tuple #[.string (str (growF 64 t0.1).1), .int .i64 (growF 64 t0.1).2]) rfl go36 (fun w9 F9 S9 s => refgrow_ok a76 t0.1.length c76 t0.1 64 w9 (s.bs (a := a76) (l := t0.1) (by repeat (first | exact Sel.keep | exact Sel.here | apply Sel.there))) hc76 (by omega))) ?_
            rintro _ _ ⟨rfl, rfl⟩
            refine SL.val rfl rfl (fun w9 F9 S9 s => R.mv rfl) ?_
            refine SL.val rfl rfl (fun w9 F9 S9 s => R.ext rfl rfl) ?_
            refine SL.val rfl rfl (fun w9 F9 S9 s => R.ext rfl rfl) ?_
            refine SL.val rfl rfl (fun w9 F9 S9 s => R.as rfl) ?_
            refine SL.val rfl rfl (fun w9 F9 S9 s => R.as rfl) ?_
            refine SL.nil ?_
            refine SN.seq ?_
            refine SG.seq ?_
            refine SG.seq ?_
            refine SG.region ?_
            refine SL.val rfl rfl (fun w9 F9 S9 s => R.mv rfl) ?_
            refine SL.val rfl rfl (fun w9 F9 S9 s => R.neI rfl rfl) ?_
            refine SL.val rfl rfl (fun w9 F9 S9 s => R.mv rfl) ?_
            refine SL.caseP 82 rfl (fun hg19_2 => ?_) (fun hg19_2 => ?_)
            · have hnk : ¬ okP (Pack.num ((l.drop 2).take 2)) last (k0.1, t0.1) := fun h9 => by have h8 : ((growF 64 t0.1).2 = 0 ∧ (growF 64 t0.1).1.length = 64) ∧ last < (k0.1 : Int) ∧ k0.1 < (Pack.num ((l.drop 2).take 2)) := h9; omega
              have hno : ¬ okQ (qF l) := fun h9 => by
                have h8 := h9.2.2.1
                rw [hQ] at h8
                have h7 : rightF (Pack.num ((l.drop 2).take 2)) (-1) (partsF (Pack.num ((l.drop 20).take 2)) (l.drop 22) 0).1 = true := h8
                rw [hst, List.append_assoc, hrt] at h7
                have h6 : (decide (okP (Pack.num ((l.drop 2).take 2)) last (k0.1, t0.1)) && _) = true := h7
                rw [Bool.and_eq_true, decide_eq_true_eq] at h6
                exact hnk h6.1
              refine SL.pass rfl rfl ?_
              refine SL.pass rfl rfl ?_
              refine SL.pass rfl rfl ?_
              first | refine SL.val rfl rfl (fun w9 F9 S9 s => R.pickT rfl rfl) ?_ | refine SL.val rfl rfl (fun w9 F9 S9 s => R.pickF rfl rfl) ?_
              refine SL.val rfl rfl (fun w9 F9 S9 s => R.mv rfl) ?_
              refine SL.pass rfl rfl ?_
              refine SL.pass rfl rfl ?_
              refine SL.pass rfl rfl ?_
              first | refine SL.val rfl rfl (fun w9 F9 S9 s => R.pickT rfl rfl) ?_ | refine SL.val rfl rfl (fun w9 F9 S9 s => R.pickF rfl rfl) ?_
              refine SL.val rfl rfl (fun w9 F9 S9 s => R.mv rfl) ?_
              refine SL.pass rfl rfl ?_
              refine SL.pass rfl rfl ?_
              refine SL.pass rfl rfl ?_
              refine SL.pass rfl rfl ?_
              first | refine SL.val rfl rfl (fun w9 F9 S9 s => R.pickT rfl rfl) ?_ | refine SL.val rfl rfl (fun w9 F9 S9 s => R.pickF rfl rfl) ?_
              refine SL.nil ?_
              refine SN.seq ?_
              refine SG.condT rfl ?_
              refine SG.seq ?_
              refine SG.region ?_
              refine SL.val rfl rfl (fun w9 F9 S9 s => R.build (cs := [.int .i64 0, .string ByteArray.empty, .string ByteArray.empty, .slice none 0 0, .slice none 0 0].toArray) rfl rfl) ?_
              refine SL.step0 rfl (CS.stA rfl rfl (by repeat (first | exact Sel.keep | exact Sel.here | apply Sel.there)) (by rfl) (by rfl) (by intro u hu; simp only [List.mem_cons, List.not_mem_nil, or_false] at hu; rcases hu with rfl | rfl | rfl | rfl | rfl <;> rfl)) ?_
              rintro _ _ rfl
              refine SL.val rfl rfl (fun w9 F9 S9 s => R.as rfl) ?_
              refine SL.nil ?_
              refine SN.seq ?_
              exact SG.retCT rfl rfl rfl (by repeat (first | exact Sel.keep | exact Sel.here | apply Sel.there)) (by rfl) (Imp.sels Sels.nil) (⟨_, rfl, by intro u hu; simp only [List.mem_cons, List.not_mem_nil, or_false] at hu; rcases hu with rfl | rfl | rfl | rfl | rfl <;> rfl, rfl, rfl⟩)
            · refine SL.val rfl rfl (fun w9 F9 S9 s => R.mv rfl) ?_
              refine SL.val rfl rfl (fun w9 F9 S9 s => R.lenT rfl) ?_
              refine SL.val rfl rfl (fun w9 F9 S9 s => R.neI rfl rfl) ?_
              first | refine SL.val rfl rfl (fun w9 F9 S9 s => R.pickT rfl rfl) ?_ | refine SL.val rfl rfl (fun w9 F9 S9 s => R.pickF rfl rfl) ?_
              refine SL.val rfl rfl (fun w9 F9 S9 s => R.mv rfl) ?_
              refine SL.caseP 87 rfl (fun hg19_7 => ?_) (fun hg19_7 => ?_)
              · have hnk : ¬ okP (Pack.num ((l.drop 2).take 2)) last (k0.1, t0.1) := fun h9 => by have h8 : ((growF 64 t0.1).2 = 0 ∧ (growF 64 t0.1).1.length = 64) ∧ last < (k0.1 : Int) ∧ k0.1 < (Pack.num ((l.drop 2).take 2)) := h9; omega
                have hno : ¬ okQ (qF l) := fun h9 => by
                  have h8 := h9.2.2.1
                  rw [hQ] at h8
                  have h7 : rightF (Pack.num ((l.drop 2).take 2)) (-1) (partsF (Pack.num ((l.drop 20).take 2)) (l.drop 22) 0).1 = true := h8
                  rw [hst, List.append_assoc, hrt] at h7
                  have h6 : (decide (okP (Pack.num ((l.drop 2).take 2)) last (k0.1, t0.1)) && _) = true := h7
                  rw [Bool.and_eq_true, decide_eq_true_eq] at h6
                  exact hnk h6.1
                refine SL.pass rfl rfl ?_
                refine SL.pass rfl rfl ?_
                refine SL.pass rfl rfl ?_
                first | refine SL.val rfl rfl (fun w9 F9 S9 s => R.pickT rfl rfl) ?_ | refine SL.val rfl rfl (fun w9 F9 S9 s => R.pickF rfl rfl) ?_
                refine SL.val rfl rfl (fun w9 F9 S9 s => R.mv rfl) ?_
                refine SL.pass rfl rfl ?_
                refine SL.pass rfl rfl ?_
                refine SL.pass rfl rfl ?_
                refine SL.pass rfl rfl ?_
                first | refine SL.val rfl rfl (fun w9 F9 S9 s => R.pickT rfl rfl) ?_ | refine SL.val rfl rfl (fun w9 F9 S9 s => R.pickF rfl rfl) ?_
                refine SL.nil ?_
                refine SN.seq ?_
                refine SG.condT rfl ?_
                refine SG.seq ?_
                refine SG.region ?_
                refine SL.val rfl rfl (fun w9 F9 S9 s => R.build (cs := [.int .i64 0, .string ByteArray.empty, .string ByteArray.empty, .slice none 0 0, .slice none 0 0].toArray) rfl rfl) ?_
                refine SL.step0 rfl (CS.stA rfl rfl (by repeat (first | exact Sel.keep | exact Sel.here | apply Sel.there)) (by rfl) (by rfl) (by intro u hu; simp only [List.mem_cons, List.not_mem_nil, or_false] at hu; rcases hu with rfl | rfl | rfl | rfl | rfl <;> rfl)) ?_
                rintro _ _ rfl
                refine SL.val rfl rfl (fun w9 F9 S9 s => R.as rfl) ?_
                refine SL.nil ?_
                refine SN.seq ?_
                exact SG.retCT rfl rfl rfl (by repeat (first | exact Sel.keep | exact Sel.here | apply Sel.there)) (by rfl) (Imp.sels Sels.nil) (⟨_, rfl, by intro u hu; simp only [List.mem_cons, List.not_mem_nil, or_false] at hu; rcases hu with rfl | rfl | rfl | rfl | rfl <;> rfl, rfl, rfl⟩)
              · refine SL.val rfl rfl (fun w9 F9 S9 s => R.mv rfl) ?_
                refine SL.val rfl rfl (fun w9 F9 S9 s => R.mv rfl) ?_
                refine SL.val rfl rfl (fun w9 F9 S9 s => R.leq rfl rfl) ?_
                first | refine SL.val rfl rfl (fun w9 F9 S9 s => R.pickT rfl rfl) ?_ | refine SL.val rfl rfl (fun w9 F9 S9 s => R.pickF rfl rfl) ?_
                refine SL.val rfl rfl (fun w9 F9 S9 s => R.mv rfl) ?_
                refine SL.caseP 92 rfl (fun hg19_12 => ?_) (fun hg19_12 => ?_)
                · have hnk : ¬ okP (Pack.num ((l.drop 2).take 2)) last (k0.1, t0.1) := fun h9 => by have h8 : ((growF 64 t0.1).2 = 0 ∧ (growF 64 t0.1).1.length = 64) ∧ last < (k0.1 : Int) ∧ k0.1 < (Pack.num ((l.drop 2).take 2)) := h9; omega
                  have hno : ¬ okQ (qF l) := fun h9 => by
                    have h8 := h9.2.2.1
                    rw [hQ] at h8
                    have h7 : rightF (Pack.num ((l.drop 2).take 2)) (-1) (partsF (Pack.num ((l.drop 20).take 2)) (l.drop 22) 0).1 = true := h8
                    rw [hst, List.append_assoc, hrt] at h7
                    have h6 : (decide (okP (Pack.num ((l.drop 2).take 2)) last (k0.1, t0.1)) && _) = true := h7
                    rw [Bool.and_eq_true, decide_eq_true_eq] at h6
                    exact hnk h6.1
                  refine SL.pass rfl rfl ?_
                  refine SL.pass rfl rfl ?_
                  refine SL.pass rfl rfl ?_
                  refine SL.pass rfl rfl ?_
                  first | refine SL.val rfl rfl (fun w9 F9 S9 s => R.pickT rfl rfl) ?_ | refine SL.val rfl rfl (fun w9 F9 S9 s => R.pickF rfl rfl) ?_
                  refine SL.nil ?_
                  refine SN.seq ?_
                  refine SG.condT rfl ?_
                  refine SG.seq ?_
                  refine SG.region ?_
                  refine SL.val rfl rfl (fun w9 F9 S9 s => R.build (cs := [.int .i64 0, .string ByteArray.empty, .string ByteArray.empty, .slice none 0 0, .slice none 0 0].toArray) rfl rfl) ?_
                  refine SL.step0 rfl (CS.stA rfl rfl (by repeat (first | exact Sel.keep | exact Sel.here | apply Sel.there)) (by rfl) (by rfl) (by intro u hu; simp only [List.mem_cons, List.not_mem_nil, or_false] at hu; rcases hu with rfl | rfl | rfl | rfl | rfl <;> rfl)) ?_
                  rintro _ _ rfl
                  refine SL.val rfl rfl (fun w9 F9 S9 s => R.as rfl) ?_
                  refine SL.nil ?_
                  refine SN.seq ?_
                  exact SG.retCT rfl rfl rfl (by repeat (first | exact Sel.keep | exact Sel.here | apply Sel.there)) (by rfl) (Imp.sels Sels.nil) (⟨_, rfl, by intro u hu; simp only [List.mem_cons, List.not_mem_nil, or_false] at hu; rcases hu with rfl | rfl | rfl | rfl | rfl <;> rfl, rfl, rfl⟩)
                · refine SL.val rfl rfl (fun w9 F9 S9 s => R.mv rfl) ?_
                  refine SL.val rfl rfl (fun w9 F9 S9 s => R.fld rfl) ?_
                  refine SL.val rfl rfl (fun w9 F9 S9 s => R.ldB (v := .int .i64 ((Pack.num ((l.drop 2).take 2)) : Int)) rfl (s.cel (by repeat (first | exact SelB.blk | exact SelB.fz | apply SelB.there))) (by rfl)) ?_
                  refine SL.val rfl rfl (fun w9 F9 S9 s => R.geq rfl rfl) ?_
                  first | refine SL.val rfl rfl (fun w9 F9 S9 s => R.pickT rfl rfl) ?_ | refine SL.val rfl rfl (fun w9 F9 S9 s => R.pickF rfl rfl) ?_
                  refine SL.nil ?_
                  refine SN.seq ?_
                  refine SG.condP rfl (fun h3 => ?_) (fun h3 => ?_)
                  · have hnk : ¬ okP (Pack.num ((l.drop 2).take 2)) last (k0.1, t0.1) := fun h9 => by have h8 : ((growF 64 t0.1).2 = 0 ∧ (growF 64 t0.1).1.length = 64) ∧ last < (k0.1 : Int) ∧ k0.1 < (Pack.num ((l.drop 2).take 2)) := h9; omega
                    have hno : ¬ okQ (qF l) := fun h9 => by
                      have h8 := h9.2.2.1
                      rw [hQ] at h8
                      have h7 : rightF (Pack.num ((l.drop 2).take 2)) (-1) (partsF (Pack.num ((l.drop 20).take 2)) (l.drop 22) 0).1 = true := h8
                      rw [hst, List.append_assoc, hrt] at h7
                      have h6 : (decide (okP (Pack.num ((l.drop 2).take 2)) last (k0.1, t0.1)) && _) = true := h7
                      rw [Bool.and_eq_true, decide_eq_true_eq] at h6
                      exact hnk h6.1
                    refine SG.seq ?_
                    refine SG.region ?_
                    refine SL.val rfl rfl (fun w9 F9 S9 s => R.build (cs := [.int .i64 0, .string ByteArray.empty, .string ByteArray.empty, .slice none 0 0, .slice none 0 0].toArray) rfl rfl) ?_
                    refine SL.step0 rfl (CS.stA rfl rfl (by repeat (first | exact Sel.keep | exact Sel.here | apply Sel.there)) (by rfl) (by rfl) (by intro u hu; simp only [List.mem_cons, List.not_mem_nil, or_false] at hu; rcases hu with rfl | rfl | rfl | rfl | rfl <;> rfl)) ?_
                    rintro _ _ rfl
                    refine SL.val rfl rfl (fun w9 F9 S9 s => R.as rfl) ?_
                    refine SL.nil ?_
                    refine SN.seq ?_
                    exact SG.retCT rfl rfl rfl (by repeat (first | exact Sel.keep | exact Sel.here | apply Sel.there)) (by rfl) (Imp.sels Sels.nil) (⟨_, rfl, by intro u hu; simp only [List.mem_cons, List.not_mem_nil, or_false] at hu; rcases hu with rfl | rfl | rfl | rfl | rfl <;> rfl, rfl, rfl⟩)
                  · have hok : okP (Pack.num ((l.drop 2).take 2)) last (k0.1, t0.1) := by show ((growF 64 t0.1).2 = 0 ∧ (growF 64 t0.1).1.length = 64) ∧ last < (k0.1 : Int) ∧ k0.1 < (Pack.num ((l.drop 2).take 2)); omega
                    refine SG.skip ?_
                    refine SN.seq ?_
                    refine SG.seq ?_
                    refine SG.region ?_
                    refine SL.val rfl rfl (fun w9 F9 S9 s => R.mv rfl) ?_
                    refine SL.val rfl rfl (fun w9 F9 S9 s => R.as rfl) ?_
                    refine SL.nil ?_
                    refine SN.seq ?_
                    refine SG.seq ?_
                    refine SG.region ?_
                    refine SL.val rfl rfl (fun w9 F9 S9 s => R.fld rfl) ?_
                    refine SL.val rfl rfl (fun w9 F9 S9 s => R.ldB (v := .slice ka ps.length kc) rfl (s.cel (by repeat (first | exact SelB.blk | exact SelB.fz | apply SelB.there))) (by rfl)) ?_
                    refine SL.val rfl rfl (fun w9 F9 S9 s => R.mv rfl) ?_
                    refine SL.step rfl rfl (CS.buildA rfl rfl rfl rfl rfl (nums [k0.1]) rfl) ?_
                    rintro _ _ ⟨b103, rfl, rfl⟩
                    refine SL.step rfl rfl (CS.app rfl rfl (show Sel _ (own 3 1 ka (ps.length) kc (nums (ps.map Prod.fst))) _ from (by repeat (first | exact Sel.keep | exact Sel.here | apply Sel.there))) (fun w9 F9 S9 s => s.blkC (show Sel _ (blk b103 (nums [k0.1]) _) _ from (by repeat (first | exact Sel.keep | exact Sel.here | apply Sel.there)))) rfl (numsP_one _) (by unfold maxLen; omega) (by omega)) ?_
                    rintro _ _ ⟨a104, c104, rfl, rfl⟩
                    refine SL.val rfl rfl (fun w9 F9 S9 s => R.fld rfl) ?_
                    refine SL.step0 rfl (CS.st rfl rfl (show Sel _ (blk b5 _ _) _ from (by repeat (first | exact Sel.keep | exact Sel.here | apply Sel.there))) (by repeat (first | exact SetAt.here | apply SetAt.there)) rfl) ?_
                    rintro _ _ rfl
                    refine SL.nil ?_
                    refine SN.seq ?_
                    refine SG.region ?_
                    refine SL.val rfl rfl (fun w9 F9 S9 s => R.fld rfl) ?_
                    refine SL.val rfl rfl (fun w9 F9 S9 s => R.ldB (v := .slice da ps.length dc) rfl (s.cel (by repeat (first | exact SelB.blk | exact SelB.fz | apply SelB.there))) (by rfl)) ?_
                    refine SL.val rfl rfl (fun w9 F9 S9 s => R.mv rfl) ?_
                    refine SL.step rfl rfl (CS.buildA rfl rfl rfl rfl rfl ((grown [(k0.1, t0.1)]).map (fun d => Value.string (str d))) rfl) ?_
                    rintro _ _ ⟨b109, rfl, rfl⟩
                    refine SL.step rfl rfl (CS.app rfl rfl (show Sel _ (own 9 1 da (ps.length) dc ((grown ps).map (fun d => Value.string (str d)))) _ from (by repeat (first | exact Sel.keep | exact Sel.here | apply Sel.there))) (fun w9 F9 S9 s => s.blkC (show Sel _ (blk b109 ((grown [(k0.1, t0.1)]).map (fun d => Value.string (str d))) _) _ from (by repeat (first | exact Sel.keep | exact Sel.here | apply Sel.there)))) rfl (strs_one _) (by unfold maxLen; omega) (by omega)) ?_
                    rintro _ _ ⟨a110, c110, rfl, rfl⟩
                    refine SL.val rfl rfl (fun w9 F9 S9 s => R.fld rfl) ?_
                    refine SL.step0 rfl (CS.st rfl rfl (show Sel _ (blk b5 _ _) _ from (by repeat (first | exact Sel.keep | exact Sel.here | apply Sel.there))) (by repeat (first | exact SetAt.here | apply SetAt.there)) rfl) ?_
                    rintro _ _ rfl
                    refine SL.nil ?_
                    have hinv2 : partsF (Pack.num ((l.drop 20).take 2)) (l.drop 22) 0 = ((ps ++ [(k0.1, t0.1)]) ++ (partsF ((Pack.num ((l.drop 20).take 2)) - (i + 1)) t0.2.1 0).1, (partsF ((Pack.num ((l.drop 20).take 2)) - (i + 1)) t0.2.1 0).2) := hst
                    refine SN.block ?_
                    refine SN.seq ?_
                    refine SG.region ?_
                    refine SL.val rfl rfl (fun w9 F9 S9 s => R.mv rfl) ?_
                    refine SL.val rfl rfl (fun w9 F9 S9 s => R.add rfl rfl (by omega)) ?_
                    refine SL.val rfl rfl (fun w9 F9 S9 s => R.as rfl) ?_
                    refine SL.nil ?_
                    exact SN.again (⟨i + 1, t0.2.1, (k0.1 : Int), ps ++ [(k0.1, t0.1)], a104, c104, a110, c110⟩) (by show (Pack.num ((l.drop 20).take 2)) - (i + 1) < (Pack.num ((l.drop 20).take 2)) - i; omega) (Sub.cons rfl (Sub.cons rfl (Sub.cons rfl (Sub.cons rfl (Sub.cons rfl (Sub.cons rfl (Sub.nil _))))))) ((show Imp _ _ by dsimp only; rw [List.length_append, List.map_append, grown_app, nums_append, List.map_append]; exact (Imp.sels (by repeat (first | exact Sels.nil | apply Sels.cons | exact Sel.keep | exact Sel.here | apply Sel.there))))) (⟨by show i + 1 ≤ (Pack.num ((l.drop 20).take 2)); omega, by show (ps ++ [(k0.1, t0.1)]).length ≤ i + 1; rw [List.length_append]; show ps.length + 1 ≤ i + 1; omega, by show t0.2.1.length ≤ _; omega, hinv2, right_app _ ps _ _ _ [] hrt hok⟩)
        · obtain rfl : i = (Pack.num ((l.drop 20).take 2)) := by omega
          have hP : partsF (Pack.num ((l.drop 20).take 2)) (l.drop 22) 0 = (ps, ll, 0) := by rw [hinv, show partsF ((Pack.num ((l.drop 20).take 2)) - (Pack.num ((l.drop 20).take 2))) ll 0 = ([], ll, 0) by rw [Nat.sub_self]; rfl, List.append_nil]
          have hrr : rightF (Pack.num ((l.drop 2).take 2)) (-1) ps = true := by have := hrt []; rw [List.append_nil] at this; rw [this]; rfl
          rw [hP] at hQ
          have hok : okQ (qF l) ↔ (ll = [] ∧ 1 ≤ (Pack.num ((l.drop 2).take 2)) ∧ (Pack.num ((l.drop 2).take 2)) ≤ 64) := by rw [hQ]; exact ⟨fun h9 => ⟨h9.2.1, h9.2.2.2⟩, fun h9 => ⟨rfl, h9.1, hrr, h9.2⟩⟩
          have hnok : ¬ okQ (qF l) := fun h9 => by
            rw [show parseF l = some (patQ (qF l)) from if_pos ⟨hm1, h9⟩] at hpf; cases hpf
          rw [hok] at hnok
          refine SG.exit _ rfl ?_
          refine SN.seq ?_
          refine SG.seq ?_
          refine SG.draw [23] [0, 1, 2, 3, 4, 5, 6, 7, 8, 9, 10, 11, 12, 13, 14, 15, 16, 17, 18, 19, 20, 21, 22, 23, 24] (by decide +kernel) rfl ?_
          refine SW.read rfl rfl rfl rfl (fun w9 F9 S9 s => R.ldBN rfl (s.cel (by repeat (first | exact SelB.blk | exact SelB.fz | apply SelB.there))) (by rfl)) ?_
          refine SW.pure rfl rfl rfl rfl (fun w9 => R.mv rfl) ?_
          refine SW.pure rfl rfl rfl rfl (fun w9 => R.nilChk rfl) ?_
          refine SW.pure rfl rfl rfl rfl (fun w9 => R.fld rfl) ?_
          refine SW.read rfl rfl rfl rfl (fun w9 F9 S9 s => R.ldB rfl (s.cel (by repeat (first | exact SelB.blk | exact SelB.fz | apply SelB.there))) (by rfl)) ?_
          refine SW.pure rfl rfl rfl rfl (fun w9 => R.eqI rfl rfl) ?_
          refine SW.pure rfl rfl rfl rfl (fun w9 => R.mv rfl) ?_
          refine SW.isT 118 rfl (decide_eq_true rfl) ?_
          refine SW.pure rfl rfl rfl rfl (fun w9 => R.mv rfl) ?_
          refine SW.pure rfl rfl rfl rfl (fun w9 => R.nilChk rfl) ?_
          refine SW.pure rfl rfl rfl rfl (fun w9 => R.fld rfl) ?_
          refine SW.read rfl rfl rfl rfl (fun w9 F9 S9 s => R.ldB rfl (s.cel (by repeat (first | exact SelB.blk | exact SelB.fz | apply SelB.there))) (by rfl)) ?_
          refine SW.pure rfl rfl rfl rfl (fun w9 => R.eqStr rfl rfl) ?_
          first | refine SW.pure rfl rfl rfl rfl (fun w9 => R.pickT rfl rfl) ?_ | refine SW.pure rfl rfl rfl rfl (fun w9 => R.pickF rfl rfl) ?_
          refine SW.pure rfl rfl rfl rfl (fun w9 => R.mv rfl) ?_
          refine SW.caseP 125 rfl (fun hg24_13 => ?_) (fun hg24_13 => ?_)
          · refine SW.pure rfl rfl rfl rfl (fun w9 => R.fld rfl) ?_
            refine SW.read rfl rfl rfl rfl (fun w9 F9 S9 s => R.ldB rfl (s.cel (by repeat (first | exact SelB.blk | exact SelB.fz | apply SelB.there))) (by rfl)) ?_
            refine SW.pure rfl rfl rfl rfl (fun w9 => R.geq rfl rfl) ?_
            first | refine SW.pure rfl rfl rfl rfl (fun w9 => R.pickT rfl rfl) ?_ | refine SW.pure rfl rfl rfl rfl (fun w9 => R.pickF rfl rfl) ?_
            refine SW.pure rfl rfl rfl rfl (fun w9 => R.mv rfl) ?_
            refine SW.caseP 130 rfl (fun hg24_18 => ?_) (fun hg24_18 => ?_)
            · refine SW.pure rfl rfl rfl rfl (fun w9 => R.fld rfl) ?_
              refine SW.read rfl rfl rfl rfl (fun w9 F9 S9 s => R.ldB rfl (s.cel (by repeat (first | exact SelB.blk | exact SelB.fz | apply SelB.there))) (by rfl)) ?_
              refine SW.pure rfl rfl rfl rfl (fun w9 => R.leq rfl rfl) ?_
              first | refine SW.pure rfl rfl rfl rfl (fun w9 => R.pickT rfl rfl) ?_ | refine SW.pure rfl rfl rfl rfl (fun w9 => R.pickF rfl rfl) ?_
              refine SW.step0 rfl rfl rfl (CS.stA rfl rfl (by repeat (first | exact Sel.keep | exact Sel.here | apply Sel.there)) (by rfl) (by rfl) (by intro u hu; simp only [List.mem_cons, List.not_mem_nil, or_false] at hu; rcases hu with rfl | rfl | rfl | rfl | rfl <;> rfl)) ?_
              rintro _ _ rfl
              refine ⟨⟨.inr (fun w9 F9 S9 s => R.ldB rfl (s.cel (by repeat (first | exact SelB.blk | exact SelB.fz | apply SelB.there))) (by rfl)), ⟨.inl (by decide +kernel), ⟨.inl (by decide +kernel), ⟨.inl (by decide +kernel), ⟨.inl (by decide +kernel), trivial⟩⟩⟩⟩⟩, ?_⟩
              refine SW.pure rfl rfl rfl rfl (fun w9 => R.as rfl) ?_
              refine SW.nil ?_
              refine SN.seq ?_
              exact SG.retCT rfl rfl rfl (by repeat (first | exact Sel.keep | exact Sel.here | apply Sel.there)) (by rfl) (Imp.sels Sels.nil) (⟨_, rfl, by intro u hu; simp only [List.mem_cons, List.not_mem_nil, or_false] at hu; rcases hu with rfl | rfl | rfl | rfl | rfl <;> rfl, congrArg (fun q9 => Value.tuple #[Value.agg _, Value.bool q9]) (decide_eq_false (show ¬ (((Pack.num ((l.drop 2).take 2)) : Int) ≤ 64) from fun h9 => hnok ⟨hg24_13, by omega, by omega⟩)), rfl⟩)
            · refine SW.pass (hd := rfl) rfl rfl rfl ?_
              refine SW.pass (hd := rfl) rfl rfl rfl ?_
              refine SW.pass (hd := rfl) rfl rfl rfl ?_
              first | refine SW.pure rfl rfl rfl rfl (fun w9 => R.pickT rfl rfl) ?_ | refine SW.pure rfl rfl rfl rfl (fun w9 => R.pickF rfl rfl) ?_
              refine SW.step0 rfl rfl rfl (CS.stA rfl rfl (by repeat (first | exact Sel.keep | exact Sel.here | apply Sel.there)) (by rfl) (by rfl) (by intro u hu; simp only [List.mem_cons, List.not_mem_nil, or_false] at hu; rcases hu with rfl | rfl | rfl | rfl | rfl <;> rfl)) ?_
              rintro _ _ rfl
              refine ⟨⟨.inl (by decide +kernel), ⟨.inl (by decide +kernel), ⟨.inl (by decide +kernel), ⟨.inl (by decide +kernel), trivial⟩⟩⟩⟩, ?_⟩
              refine SW.pure rfl rfl rfl rfl (fun w9 => R.as rfl) ?_
              refine SW.nil ?_
              refine SN.seq ?_
              exact SG.retCT rfl rfl rfl (by repeat (first | exact Sel.keep | exact Sel.here | apply Sel.there)) (by rfl) (Imp.sels Sels.nil) (⟨_, rfl, by intro u hu; simp only [List.mem_cons, List.not_mem_nil, or_false] at hu; rcases hu with rfl | rfl | rfl | rfl | rfl <;> rfl, rfl, rfl⟩)
          · refine SW.pass (hd := rfl) rfl rfl rfl ?_
            refine SW.pass (hd := rfl) rfl rfl rfl ?_
            refine SW.pass (hd := rfl) rfl rfl rfl ?_
            first | refine SW.pure rfl rfl rfl rfl (fun w9 => R.pickT rfl rfl) ?_ | refine SW.pure rfl rfl rfl rfl (fun w9 => R.pickF rfl rfl) ?_
            refine SW.pure rfl rfl rfl rfl (fun w9 => R.mv rfl) ?_
            refine SW.pass (hd := rfl) rfl rfl rfl ?_
            refine SW.pass (hd := rfl) rfl rfl rfl ?_
            refine SW.pass (hd := rfl) rfl rfl rfl ?_
            first | refine SW.pure rfl rfl rfl rfl (fun w9 => R.pickT rfl rfl) ?_ | refine SW.pure rfl rfl rfl rfl (fun w9 => R.pickF rfl rfl) ?_
            refine SW.step0 rfl rfl rfl (CS.stA rfl rfl (by repeat (first | exact Sel.keep | exact Sel.here | apply Sel.there)) (by rfl) (by rfl) (by intro u hu; simp only [List.mem_cons, List.not_mem_nil, or_false] at hu; rcases hu with rfl | rfl | rfl | rfl | rfl <;> rfl)) ?_
            rintro _ _ rfl
            refine ⟨⟨.inl (by decide +kernel), ⟨.inl (by decide +kernel), ⟨.inl (by decide +kernel), trivial⟩⟩⟩, ?_⟩
            refine SW.pure rfl rfl rfl rfl (fun w9 => R.as rfl) ?_
            refine SW.nil ?_
            refine SN.seq ?_
            exact SG.retCT rfl rfl rfl (by repeat (first | exact Sel.keep | exact Sel.here | apply Sel.there)) (by rfl) (Imp.sels Sels.nil) (⟨_, rfl, by intro u hu; simp only [List.mem_cons, List.not_mem_nil, or_false] at hu; rcases hu with rfl | rfl | rfl | rfl | rfl <;> rfl, rfl, rfl⟩)

set_option maxHeartbeats 2000000 in
theorem refparse_yes (a : Option Addr) (n c : Nat) (l : List UInt8) (q : Pat) (hc : n ≤ c) (hn : n ≤ 1000000) (hpf : parseF l = some q) : SpecS Try.prog 15 [.slice a n c] [bs a n l] (fun v H' => ∃ ka kc da dc, v = .tuple #[.agg ([.int .i64 (q.blocks : Int), .string (str (rootP q.old)), .string (str (rootP q.new)), .slice ka q.parts.length kc, .slice da q.parts.length dc]).toArray, .bool true] ∧ H' = [own 3 1 ka (q.parts.length) kc (nums (q.parts.map Prod.fst)), own 9 1 da (q.parts.length) dc ((grown q.parts).map (fun d => Value.string (str d)))]) := by
  refine SpecS.enter Try.func15 rfl 135 rfl (Nat.le_of_ble_eq_true rfl) (fun o => ?_)
  refine SG.fact (fun w9 F9 S9 s => (s.bs (a := a) (n := n) (l := l) (by repeat (first | exact Sel.keep | exact Sel.here | apply Sel.there))).len) (fun hf9 => ?_)
  have hln := hf9; clear hf9
  refine SG.seq ?_
  refine SG.region ?_
  refine SL.step rfl rfl (CS.alloc [.int .i64 0, .string ByteArray.empty, .string ByteArray.empty, .slice none 0 0, .slice none 0 0] rfl) ?_
  rintro _ _ ⟨b2, rfl, rfl⟩
  refine SL.val rfl rfl (fun w9 F9 S9 s => R.as rfl) ?_
  refine SL.nil ?_
  refine SN.seq ?_
  refine SG.seq ?_
  refine SG.seq ?_
  refine SG.region ?_
  refine SL.val rfl rfl (fun w9 F9 S9 s => R.mv rfl) ?_
  refine SL.val rfl rfl (fun w9 F9 S9 s => R.lenS rfl) ?_
  refine SL.val rfl rfl (fun w9 F9 S9 s => R.lss rfl rfl) ?_
  refine SL.val rfl rfl (fun w9 F9 S9 s => R.mv rfl) ?_
  refine SL.caseP 16 rfl (fun hg1_3 => ?_) (fun hg1_3 => ?_)
  · exact absurd (hpf.symm.trans (parse_short (by omega))) (by simp)
  · have h22 : 22 ≤ l.length := by omega
    obtain ⟨x0, hx0⟩ : ∃ x, l[0]? = some x := ⟨_, List.getElem?_eq_getElem (by omega)⟩
    obtain ⟨x1, hx1⟩ : ∃ x, l[1]? = some x := ⟨_, List.getElem?_eq_getElem (by omega)⟩
    refine SL.fact (fun w9 F9 S9 s => bs_pt (s.bs (a := a) (l := l) (by repeat (first | exact Sel.keep | exact Sel.here | apply Sel.there))) hx0) (fun hf9 => ?_)
    obtain ⟨q0, hq0⟩ := hf9
    have hmg := magic_of hx0 hx1
    have hu0 := x0.toNat_lt
    have hu1 := x1.toNat_lt
    refine SL.val rfl rfl (fun w9 F9 S9 s => R.mv rfl) ?_
    refine SL.val rfl rfl (fun w9 F9 S9 s => R.idx (i := 0) rfl rfl (by omega) (by omega) q0 hq0) ?_
    refine SL.val rfl rfl (fun w9 F9 S9 s => R.ld (v := .int .u8 (x0.toNat : Int)) rfl (bs_ld (i := 0) (s.bs (a := a) (l := l) (by repeat (first | exact Sel.keep | exact Sel.here | apply Sel.there))) hq0 hx0)) ?_
    refine SL.val rfl rfl (fun w9 F9 S9 s => R.neI rfl rfl) ?_
    first | refine SL.val rfl rfl (fun w9 F9 S9 s => R.pickT rfl rfl) ?_ | refine SL.val rfl rfl (fun w9 F9 S9 s => R.pickF rfl rfl) ?_
    refine SL.val rfl rfl (fun w9 F9 S9 s => R.mv rfl) ?_
    refine SL.caseP 22 rfl (fun hg1_9 => ?_) (fun hg1_9 => ?_)
    · exact absurd (hpf.symm.trans (if_neg (fun h9 => by have := h9.1; omega))) (by simp)
    · refine SL.val rfl rfl (fun w9 F9 S9 s => R.mv rfl) ?_
      refine SL.val rfl rfl (fun w9 F9 S9 s => R.idx (i := 1) rfl rfl (by omega) (by omega) q0 hq0) ?_
      refine SL.val rfl rfl (fun w9 F9 S9 s => R.ld (v := .int .u8 (x1.toNat : Int)) rfl (bs_ld (i := 1) (s.bs (a := a) (l := l) (by repeat (first | exact Sel.keep | exact Sel.here | apply Sel.there))) hq0 hx1)) ?_
      refine SL.val rfl rfl (fun w9 F9 S9 s => R.neI rfl rfl) ?_
      first | refine SL.val rfl rfl (fun w9 F9 S9 s => R.pickT rfl rfl) ?_ | refine SL.val rfl rfl (fun w9 F9 S9 s => R.pickF rfl rfl) ?_
      refine SL.nil ?_
      refine SN.seq ?_
      refine SG.condP rfl (fun h0 => ?_) (fun h0 => ?_)
      · exact absurd (hpf.symm.trans (if_neg (fun h9 => by have := h9.1; omega))) (by simp)
      · have hm1 : (numF l 0 2).1 = 45229 := by omega
        have hQ := qF_long h22
        have hu4 := unroot_long (l := l.drop 4) (by rw [List.length_drop]; omega)
        have hu12 := unroot_long (l := l.drop 12) (by rw [List.length_drop]; omega)
        have l2 : (l.drop 2).length = l.length - 2 := List.length_drop
        have l4 : (l.drop 4).length = l.length - 4 := List.length_drop
        have l20 : (l.drop 20).length = l.length - 20 := List.length_drop
        have e2 : numF (l.drop 2) 0 2 = ((Pack.num ((l.drop 2).take 2)), l.drop 4, 0) := by have := numF_long (l := l.drop 2) (k := 2) (by decide) (by decide) (by omega); rw [List.drop_drop] at this; exact this
        have e20 : numF (l.drop 20) 0 2 = ((Pack.num ((l.drop 20).take 2)), l.drop 22, 0) := by have := numF_long (l := l.drop 20) (k := 2) (by decide) (by decide) (by omega); rw [List.drop_drop] at this; exact this
        have hc6 : (Pack.num ((l.drop 20).take 2)) < 65536 := by have := numF_lt (l.drop 20) 0 2 (by decide); rw [show ((2 : Nat) : Int) = 2 from rfl, e20] at this; exact this
        refine SG.skip ?_
        refine SN.seq ?_
        refine SG.seq ?_
        refine SG.region ?_
        refine SL.val rfl rfl (fun w9 F9 S9 s => R.mv rfl) ?_
        refine SL.val rfl rfl (fun w9 F9 S9 s => R.slL rfl rfl (by decide) (by omega)) ?_
        refine SL.val rfl rfl (fun w9 F9 S9 s => R.strB (l := l.drop 2) rfl ((s.bs (a := a) (l := l) (by repeat (first | exact Sel.keep | exact Sel.here | apply Sel.there))).drop 2 c (by omega) (by omega))) ?_
        refine SL.val rfl rfl (fun w9 F9 S9 s => R.build (cs := #[.string (str (l.drop 2)), .int .i64 0]) rfl rfl) ?_
        refine SL.step rfl rfl (CS.boxA rfl) ?_
        rintro _ _ ⟨b33, rfl, rfl⟩
        refine SL.val rfl rfl (fun w9 F9 S9 s => R.as rfl) ?_
        refine SL.nil ?_
        refine SN.seq ?_
        refine SG.seq ?_
        refine SG.region ?_
        refine SL.step rfl rfl (CS.alloc [.int .i64 0, .string ByteArray.empty, .string ByteArray.empty, .slice none 0 0, .slice none 0 0] rfl) ?_
        rintro _ _ ⟨b5, rfl, rfl⟩
        refine SL.nil ?_
        refine SN.seq ?_
        refine SG.seq ?_
        refine SG.region ?_
        refine SL.val rfl rfl (fun w9 F9 S9 s => R.mv rfl) ?_
        refine SL.step rfl rfl (CS.call rfl go34 (refNumS b33 (l.drop 2) 0 2 (by omega)) (by repeat (first | exact Sels.nil | apply Sels.cons | exact Sel.keep | exact Sel.here | apply Sel.there))) ?_
        rintro _ _ ⟨_, ⟨rfl, rfl⟩, rfl⟩
        refine SL.n1 ?_
        rw [e2]
        dsimp only
        refine SL.val rfl rfl (fun w9 F9 S9 s => R.fld rfl) ?_
        refine SL.step0 rfl (CS.st rfl rfl (show Sel _ (blk b5 _ _) _ from (by repeat (first | exact Sel.keep | exact Sel.here | apply Sel.there))) (by repeat (first | exact SetAt.here | apply SetAt.there)) rfl) ?_
        rintro _ _ rfl
        refine SL.nil ?_
        refine SN.seq ?_
        refine SG.seq ?_
        refine SG.region ?_
        refine SL.val rfl rfl (fun w9 F9 S9 s => R.mv rfl) ?_
        refine SL.val rfl rfl (fun w9 F9 S9 s => R.nilChk rfl) ?_
        refine SL.val rfl rfl (fun w9 F9 S9 s => R.fld rfl) ?_
        refine SL.val rfl rfl (fun w9 F9 S9 s => R.ldB rfl (s.cel (by repeat (first | exact SelB.blk | exact SelB.fz | apply SelB.there))) (by rfl)) ?_
        refine SL.val rfl rfl (fun w9 F9 S9 s => R.slStrH rfl rfl (by decide) (by omega)) ?_
        refine SL.be 41 rfl (congrArg (fun q => Value.string (str q)) (show _ = ((l.drop 4).take 8) from rfl)) ?_
        refine SL.val rfl rfl (fun w9 F9 S9 s => R.fld rfl) ?_
        refine SL.step0 rfl (CS.st rfl rfl (show Sel _ (blk b5 _ _) _ from (by repeat (first | exact Sel.keep | exact Sel.here | apply Sel.there))) (by repeat (first | exact SetAt.here | apply SetAt.there)) rfl) ?_
        rintro _ _ rfl
        refine SL.nil ?_
        refine SN.seq ?_
        refine SG.seq ?_
        refine SG.region ?_
        refine SL.val rfl rfl (fun w9 F9 S9 s => R.mv rfl) ?_
        refine SL.val rfl rfl (fun w9 F9 S9 s => R.nilChk rfl) ?_
        refine SL.val rfl rfl (fun w9 F9 S9 s => R.fld rfl) ?_
        refine SL.val rfl rfl (fun w9 F9 S9 s => R.ldB rfl (s.cel (by repeat (first | exact SelB.blk | exact SelB.fz | apply SelB.there))) (by rfl)) ?_
        refine SL.val rfl rfl (fun w9 F9 S9 s => R.slStr rfl rfl rfl (by decide) (by decide) (by omega)) ?_
        refine SL.be 47 rfl (congrArg (fun q => Value.string (str q)) (show _ = ((l.drop 12).take 8) by first | (rw [show (8 : Int).toNat = 8 from rfl, show (16 : Int).toNat = 16 from rfl, List.drop_drop]; done) | (rw [show (8 : Int).toNat = 8 from rfl, show (16 : Int).toNat = 16 from rfl, List.drop_take, List.drop_drop]))) ?_
        refine SL.val rfl rfl (fun w9 F9 S9 s => R.fld rfl) ?_
        refine SL.step0 rfl (CS.st rfl rfl (show Sel _ (blk b5 _ _) _ from (by repeat (first | exact Sel.keep | exact Sel.here | apply Sel.there))) (by repeat (first | exact SetAt.here | apply SetAt.there)) rfl) ?_
        rintro _ _ rfl
        refine SL.nil ?_
        refine SN.seq ?_
        refine SG.seq ?_
        refine SG.region ?_
        refine SL.val rfl rfl (fun w9 F9 S9 s => R.mv rfl) ?_
        refine SL.val rfl rfl (fun w9 F9 S9 s => R.mv rfl) ?_
        refine SL.val rfl rfl (fun w9 F9 S9 s => R.nilChk rfl) ?_
        refine SL.val rfl rfl (fun w9 F9 S9 s => R.fld rfl) ?_
        refine SL.val rfl rfl (fun w9 F9 S9 s => R.ldB rfl (s.cel (by repeat (first | exact SelB.blk | exact SelB.fz | apply SelB.there))) (by rfl)) ?_
        refine SL.val rfl rfl (fun w9 F9 S9 s => R.slStrL rfl rfl (by decide) (by omega)) ?_
        refine SL.be 54 rfl (congrArg (fun q => Value.string (str q)) (show _ = l.drop 20 by rw [show (16 : Int).toNat = 16 from rfl, List.drop_drop])) ?_
        refine SL.val rfl rfl (fun w9 F9 S9 s => R.nilChk rfl) ?_
        refine SL.val rfl rfl (fun w9 F9 S9 s => R.fld rfl) ?_
        refine SL.step0 rfl (CS.st rfl rfl (show Sel _ (blk b33 _ _) _ from (by repeat (first | exact Sel.keep | exact Sel.here | apply Sel.there))) (by repeat (first | exact SetAt.here | apply SetAt.there)) rfl) ?_
        rintro _ _ rfl
        refine SL.nil ?_
        refine SN.seq ?_
        refine SG.seq ?_
        refine SG.region ?_
        refine SL.val rfl rfl (fun w9 F9 S9 s => R.mv rfl) ?_
        refine SL.step rfl rfl (CS.call rfl go34 (refNumS b33 (l.drop 20) 0 2 (by omega)) (by repeat (first | exact Sels.nil | apply Sels.cons | exact Sel.keep | exact Sel.here | apply Sel.there))) ?_
        rintro _ _ ⟨_, ⟨rfl, rfl⟩, rfl⟩
        refine SL.n1 ?_
        rw [e20]
        dsimp only
        refine SL.val rfl rfl (fun w9 F9 S9 s => R.as rfl) ?_
        refine SL.nil ?_
        refine SN.seq ?_
        refine SG.seq ?_
        refine SG.region ?_
        refine SL.val rfl rfl (fun w9 F9 S9 s => R.as rfl) ?_
        refine SL.nil ?_
        refine SN.seq ?_
        refine SG.seq ?_
        refine SG.seq ?_
        refine SG.region ?_
        refine SL.val rfl rfl (fun w9 F9 S9 s => R.as rfl) ?_
        refine SL.nil ?_
        refine SN.seq ?_
        refine SG.block ?_
        refine SG.imp (Imp.ownNil 9 1) ?_
        refine SG.imp (Imp.ownNil 3 1) ?_
        refine SG.loop (X := RpS) (fun y => [(2, .pointer (some ⟨b2, 0, none⟩)), (4, .pointer (some ⟨b33, 0, none⟩)), (5, .pointer (some ⟨b5, 0, none⟩)), (6, .int .i64 ((Pack.num ((l.drop 20).take 2)) : Int)), (7, .int .i64 y.last), (8, .int .i64 (y.i : Int))]) (fun y => [blk b33 [.string (str (y.l)), .int .i64 (0)] 87, blk b5 [.int .i64 ((Pack.num ((l.drop 2).take 2)) : Int), .string (str (((l.drop 4).take 8))), .string (str (((l.drop 12).take 8))), .slice y.ka y.ps.length y.kc, .slice y.da y.ps.length y.dc] 41, own 3 1 y.ka (y.ps.length) y.kc (nums ((y.ps).map Prod.fst)), own 9 1 y.da (y.ps.length) y.dc ((grown (y.ps)).map (fun d => Value.string (str d))), blk b2 [.int .i64 0, .string ByteArray.empty, .string ByteArray.empty, .slice none 0 0, .slice none 0 0] 41]) (fun y => y.i ≤ (Pack.num ((l.drop 20).take 2)) ∧ y.ps.length ≤ y.i ∧ y.l.length ≤ l.length ∧ partsF (Pack.num ((l.drop 20).take 2)) (l.drop 22) 0 = (y.ps ++ (partsF ((Pack.num ((l.drop 20).take 2)) - y.i) y.l 0).1, (partsF ((Pack.num ((l.drop 20).take 2)) - y.i) y.l 0).2) ∧ ∀ r, rightF (Pack.num ((l.drop 2).take 2)) (-1) (y.ps ++ r) = rightF (Pack.num ((l.drop 2).take 2)) y.last r) (fun y => (Pack.num ((l.drop 20).take 2)) - y.i) (⟨0, l.drop 22, -1, [], none, 0, none, 0⟩) (Sub.cons rfl (Sub.cons rfl (Sub.cons rfl (Sub.cons rfl (Sub.cons rfl (Sub.cons rfl (Sub.nil _))))))) ((Imp.sels (by repeat (first | exact Sels.nil | apply Sels.cons | exact Sel.keep | exact Sel.here | apply Sel.there)))) (⟨Nat.zero_le _, Nat.le_refl _, by show (l.drop 22).length ≤ _; rw [List.length_drop]; omega, rfl, fun r => rfl⟩) ?_
        rintro ⟨i, ll, last, ps, ka, kc, da, dc⟩ ⟨hi, hpi, hll, hinv, hrt⟩
        dsimp only at hi hpi hll hinv hrt
        show SG _ _ _ _ _ [(2, .pointer (some ⟨b2, 0, none⟩)), (4, .pointer (some ⟨b33, 0, none⟩)), (5, .pointer (some ⟨b5, 0, none⟩)), (6, .int .i64 ((Pack.num ((l.drop 20).take 2)) : Int)), (7, .int .i64 last), (8, .int .i64 (i : Int))] [blk b33 [.string (str (ll)), .int .i64 (0)] 87, blk b5 [.int .i64 ((Pack.num ((l.drop 2).take 2)) : Int), .string (str (((l.drop 4).take 8))), .string (str (((l.drop 12).take 8))), .slice ka ps.length kc, .slice da ps.length dc] 41, own 3 1 ka (ps.length) kc (nums ((ps).map Prod.fst)), own 9 1 da (ps.length) dc ((grown (ps)).map (fun d => Value.string (str d))), blk b2 [.int .i64 0, .string ByteArray.empty, .string ByteArray.empty, .slice none 0 0, .slice none 0 0] 41] _
        refine SG.seq ?_
        refine SG.seq ?_
        refine SG.region ?_
        refine SL.val rfl rfl (fun w9 F9 S9 s => R.mv rfl) ?_
        refine SL.val rfl rfl (fun w9 F9 S9 s => R.mv rfl) ?_
        refine SL.val rfl rfl (fun w9 F9 S9 s => R.lss rfl rfl) ?_
        refine SL.nil ?_
        refine SN.seq ?_
        refine SG.condP rfl (fun h1 => ?_) (fun h1 => ?_)
        · have hcs : (Pack.num ((l.drop 20).take 2)) - i = ((Pack.num ((l.drop 20).take 2)) - (i + 1)) + 1 := by omega
          refine SG.skip ?_
          refine SN.seq ?_
          refine SG.seq ?_
          refine SG.block ?_
          refine SG.seq ?_
          refine SG.region ?_
          refine SL.val rfl rfl (fun w9 F9 S9 s => R.mv rfl) ?_
          refine SL.step rfl rfl (CS.call rfl go34 (refNumS b33 ll 0 2 (by omega)) (by repeat (first | exact Sels.nil | apply Sels.cons | exact Sel.keep | exact Sel.here | apply Sel.there))) ?_
          rintro _ _ ⟨_, ⟨rfl, rfl⟩, rfl⟩
          refine SL.n1 ?_
          obtain ⟨k0, hk0⟩ : ∃ z, z = numF ll 0 2 := ⟨_, rfl⟩
          rw [← hk0]
          have hkl : k0.2.1.length ≤ ll.length := by rw [hk0]; exact numF_length _ _ _
          refine SL.val rfl rfl (fun w9 F9 S9 s => R.as rfl) ?_
          refine SL.nil ?_
          refine SN.seq ?_
          refine SG.seq ?_
          refine SG.region ?_
          refine SL.val rfl rfl (fun w9 F9 S9 s => R.mv rfl) ?_
          refine SL.step rfl rfl (CS.call rfl go35 (refTxtS b33 k0.2.1 k0.2.2 65535 (by omega)) (by repeat (first | exact Sels.nil | apply Sels.cons | exact Sel.keep | exact Sel.here | apply Sel.there))) ?_
          rintro _ _ ⟨_, ⟨rfl, rfl⟩, rfl⟩
          refine SL.n1 ?_
          obtain ⟨t0, ht0⟩ : ∃ z, z = txtF k0.2.1 k0.2.2 65535 := ⟨_, rfl⟩
          rw [← ht0]
          have htl : t0.2.1.length ≤ k0.2.1.length := by rw [ht0]; exact txtF_length _ _ _
          have htx : t0.1.length ≤ 65535 := by rw [ht0]; exact txtF_le _ _ _
          have hst : partsF (Pack.num ((l.drop 20).take 2)) (l.drop 22) 0 = ((ps ++ [(k0.1, t0.1)]) ++ (partsF ((Pack.num ((l.drop 20).take 2)) - (i + 1)) t0.2.1 t0.2.2).1, (partsF ((Pack.num ((l.drop 20).take 2)) - (i + 1)) t0.2.1 t0.2.2).2) := by rw [hinv, hcs, partsF_step, ← hk0, ← ht0, List.append_assoc]; rfl
          refine SL.val rfl rfl (fun w9 F9 S9 s => R.as rfl) ?_
          refine SL.nil ?_
          refine SN.seq ?_
          refine SG.seq ?_
          refine SG.seq ?_
          refine SG.region ?_
          refine SL.val rfl rfl (fun w9 F9 S9 s => R.mv rfl) ?_
          refine SL.val rfl rfl (fun w9 F9 S9 s => R.nilChk rfl) ?_
          refine SL.val rfl rfl (fun w9 F9 S9 s => R.fld rfl) ?_
          refine SL.val rfl rfl (fun w9 F9 S9 s => R.ldB rfl (s.cel (by repeat (first | exact SelB.blk | exact SelB.fz | apply SelB.there))) (by rfl)) ?_
          refine SL.val rfl rfl (fun w9 F9 S9 s => R.neI rfl rfl) ?_
          refine SL.nil ?_
          refine SN.seq ?_
          refine SG.condP rfl (fun h2 => ?_) (fun h2 => ?_)
          · have hno : ¬ okQ (qF l) := fun h9 => by
              have h8 := h9.1
              rw [hQ] at h8
              have h7 : (partsF (Pack.num ((l.drop 20).take 2)) (l.drop 22) 0).2.2 = 0 := h8
              rw [hst, partsF_sticky _ h2] at h7
              exact h2 h7
            exact absurd (hpf.symm.trans (if_neg (fun h9 => hno h9.2))) (by simp)
          · have ht0e : t0.2.2 = 0 := by omega
            rw [ht0e] at hst ⊢
            refine SG.skip ?_
            refine SN.seq ?_
            refine SG.seq ?_
            refine SG.region ?_
            refine SL.val rfl rfl (fun w9 F9 S9 s => R.mv rfl) ?_
            refine SL.step rfl rfl (CS.strBytes rfl) ?_
            rintro _ _ ⟨a76, c76, rfl, hc76, rfl⟩
            refine SL.step rfl rfl (CS.callR (φ := fun v => v = .tuple #[.string (str (growF 64 t0.1).1), .int .i64 (growF 64 t0.1).2]) rfl go36 (fun w9 F9 S9 s => refgrow_ok a76 t0.1.length c76 t0.1 64 w9 (s.bs (a := a76) (l := t0.1) (by repeat (first | exact Sel.keep | exact Sel.here | apply Sel.there))) hc76 (by omega))) ?_
            rintro _ _ ⟨rfl, rfl⟩
            refine SL.val rfl rfl (fun w9 F9 S9 s => R.mv rfl) ?_
            refine SL.val rfl rfl (fun w9 F9 S9 s => R.ext rfl rfl) ?_
            refine SL.val rfl rfl (fun w9 F9 S9 s => R.ext rfl rfl) ?_
            refine SL.val rfl rfl (fun w9 F9 S9 s => R.as rfl) ?_
            refine SL.val rfl rfl (fun w9 F9 S9 s => R.as rfl) ?_
            refine SL.nil ?_
            refine SN.seq ?_
            refine SG.seq ?_
            refine SG.seq ?_
            refine SG.region ?_
            refine SL.val rfl rfl (fun w9 F9 S9 s => R.mv rfl) ?_
            refine SL.val rfl rfl (fun w9 F9 S9 s => R.neI rfl rfl) ?_
            refine SL.val rfl rfl (fun w9 F9 S9 s => R.mv rfl) ?_
            refine SL.caseP 82 rfl (fun hg19_2 => ?_) (fun hg19_2 => ?_)
            · have hnk : ¬ okP (Pack.num ((l.drop 2).take 2)) last (k0.1, t0.1) := fun h9 => by have h8 : ((growF 64 t0.1).2 = 0 ∧ (growF 64 t0.1).1.length = 64) ∧ last < (k0.1 : Int) ∧ k0.1 < (Pack.num ((l.drop 2).take 2)) := h9; omega
              have hno : ¬ okQ (qF l) := fun h9 => by
                have h8 := h9.2.2.1
                rw [hQ] at h8
                have h7 : rightF (Pack.num ((l.drop 2).take 2)) (-1) (partsF (Pack.num ((l.drop 20).take 2)) (l.drop 22) 0).1 = true := h8
                rw [hst, List.append_assoc, hrt] at h7
                have h6 : (decide (okP (Pack.num ((l.drop 2).take 2)) last (k0.1, t0.1)) && _) = true := h7
                rw [Bool.and_eq_true, decide_eq_true_eq] at h6
                exact hnk h6.1
              exact absurd (hpf.symm.trans (if_neg (fun h9 => hno h9.2))) (by simp)
            · refine SL.val rfl rfl (fun w9 F9 S9 s => R.mv rfl) ?_
              refine SL.val rfl rfl (fun w9 F9 S9 s => R.lenT rfl) ?_
              refine SL.val rfl rfl (fun w9 F9 S9 s => R.neI rfl rfl) ?_
              first | refine SL.val rfl rfl (fun w9 F9 S9 s => R.pickT rfl rfl) ?_ | refine SL.val rfl rfl (fun w9 F9 S9 s => R.pickF rfl rfl) ?_
              refine SL.val rfl rfl (fun w9 F9 S9 s => R.mv rfl) ?_
              refine SL.caseP 87 rfl (fun hg19_7 => ?_) (fun hg19_7 => ?_)
              · have hnk : ¬ okP (Pack.num ((l.drop 2).take 2)) last (k0.1, t0.1) := fun h9 => by have h8 : ((growF 64 t0.1).2 = 0 ∧ (growF 64 t0.1).1.length = 64) ∧ last < (k0.1 : Int) ∧ k0.1 < (Pack.num ((l.drop 2).take 2)) := h9; omega
                have hno : ¬ okQ (qF l) := fun h9 => by
                  have h8 := h9.2.2.1
                  rw [hQ] at h8
                  have h7 : rightF (Pack.num ((l.drop 2).take 2)) (-1) (partsF (Pack.num ((l.drop 20).take 2)) (l.drop 22) 0).1 = true := h8
                  rw [hst, List.append_assoc, hrt] at h7
                  have h6 : (decide (okP (Pack.num ((l.drop 2).take 2)) last (k0.1, t0.1)) && _) = true := h7
                  rw [Bool.and_eq_true, decide_eq_true_eq] at h6
                  exact hnk h6.1
                exact absurd (hpf.symm.trans (if_neg (fun h9 => hno h9.2))) (by simp)
              · refine SL.val rfl rfl (fun w9 F9 S9 s => R.mv rfl) ?_
                refine SL.val rfl rfl (fun w9 F9 S9 s => R.mv rfl) ?_
                refine SL.val rfl rfl (fun w9 F9 S9 s => R.leq rfl rfl) ?_
                first | refine SL.val rfl rfl (fun w9 F9 S9 s => R.pickT rfl rfl) ?_ | refine SL.val rfl rfl (fun w9 F9 S9 s => R.pickF rfl rfl) ?_
                refine SL.val rfl rfl (fun w9 F9 S9 s => R.mv rfl) ?_
                refine SL.caseP 92 rfl (fun hg19_12 => ?_) (fun hg19_12 => ?_)
                · have hnk : ¬ okP (Pack.num ((l.drop 2).take 2)) last (k0.1, t0.1) := fun h9 => by have h8 : ((growF 64 t0.1).2 = 0 ∧ (growF 64 t0.1).1.length = 64) ∧ last < (k0.1 : Int) ∧ k0.1 < (Pack.num ((l.drop 2).take 2)) := h9; omega
                  have hno : ¬ okQ (qF l) := fun h9 => by
                    have h8 := h9.2.2.1
                    rw [hQ] at h8
                    have h7 : rightF (Pack.num ((l.drop 2).take 2)) (-1) (partsF (Pack.num ((l.drop 20).take 2)) (l.drop 22) 0).1 = true := h8
                    rw [hst, List.append_assoc, hrt] at h7
                    have h6 : (decide (okP (Pack.num ((l.drop 2).take 2)) last (k0.1, t0.1)) && _) = true := h7
                    rw [Bool.and_eq_true, decide_eq_true_eq] at h6
                    exact hnk h6.1
                  exact absurd (hpf.symm.trans (if_neg (fun h9 => hno h9.2))) (by simp)
                · refine SL.val rfl rfl (fun w9 F9 S9 s => R.mv rfl) ?_
                  refine SL.val rfl rfl (fun w9 F9 S9 s => R.fld rfl) ?_
                  refine SL.val rfl rfl (fun w9 F9 S9 s => R.ldB (v := .int .i64 ((Pack.num ((l.drop 2).take 2)) : Int)) rfl (s.cel (by repeat (first | exact SelB.blk | exact SelB.fz | apply SelB.there))) (by rfl)) ?_
                  refine SL.val rfl rfl (fun w9 F9 S9 s => R.geq rfl rfl) ?_
                  first | refine SL.val rfl rfl (fun w9 F9 S9 s => R.pickT rfl rfl) ?_ | refine SL.val rfl rfl (fun w9 F9 S9 s => R.pickF rfl rfl) ?_
                  refine SL.nil ?_
                  refine SN.seq ?_
                  refine SG.condP rfl (fun h3 => ?_) (fun h3 => ?_)
                  · have hnk : ¬ okP (Pack.num ((l.drop 2).take 2)) last (k0.1, t0.1) := fun h9 => by have h8 : ((growF 64 t0.1).2 = 0 ∧ (growF 64 t0.1).1.length = 64) ∧ last < (k0.1 : Int) ∧ k0.1 < (Pack.num ((l.drop 2).take 2)) := h9; omega
                    have hno : ¬ okQ (qF l) := fun h9 => by
                      have h8 := h9.2.2.1
                      rw [hQ] at h8
                      have h7 : rightF (Pack.num ((l.drop 2).take 2)) (-1) (partsF (Pack.num ((l.drop 20).take 2)) (l.drop 22) 0).1 = true := h8
                      rw [hst, List.append_assoc, hrt] at h7
                      have h6 : (decide (okP (Pack.num ((l.drop 2).take 2)) last (k0.1, t0.1)) && _) = true := h7
                      rw [Bool.and_eq_true, decide_eq_true_eq] at h6
                      exact hnk h6.1
                    exact absurd (hpf.symm.trans (if_neg (fun h9 => hno h9.2))) (by simp)
                  · have hok : okP (Pack.num ((l.drop 2).take 2)) last (k0.1, t0.1) := by show ((growF 64 t0.1).2 = 0 ∧ (growF 64 t0.1).1.length = 64) ∧ last < (k0.1 : Int) ∧ k0.1 < (Pack.num ((l.drop 2).take 2)); omega
                    refine SG.skip ?_
                    refine SN.seq ?_
                    refine SG.seq ?_
                    refine SG.region ?_
                    refine SL.val rfl rfl (fun w9 F9 S9 s => R.mv rfl) ?_
                    refine SL.val rfl rfl (fun w9 F9 S9 s => R.as rfl) ?_
                    refine SL.nil ?_
                    refine SN.seq ?_
                    refine SG.seq ?_
                    refine SG.region ?_
                    refine SL.val rfl rfl (fun w9 F9 S9 s => R.fld rfl) ?_
                    refine SL.val rfl rfl (fun w9 F9 S9 s => R.ldB (v := .slice ka ps.length kc) rfl (s.cel (by repeat (first | exact SelB.blk | exact SelB.fz | apply SelB.there))) (by rfl)) ?_
                    refine SL.val rfl rfl (fun w9 F9 S9 s => R.mv rfl) ?_
                    refine SL.step rfl rfl (CS.buildA rfl rfl rfl rfl rfl (nums [k0.1]) rfl) ?_
                    rintro _ _ ⟨b103, rfl, rfl⟩
                    refine SL.step rfl rfl (CS.app rfl rfl (show Sel _ (own 3 1 ka (ps.length) kc (nums (ps.map Prod.fst))) _ from (by repeat (first | exact Sel.keep | exact Sel.here | apply Sel.there))) (fun w9 F9 S9 s => s.blkC (show Sel _ (blk b103 (nums [k0.1]) _) _ from (by repeat (first | exact Sel.keep | exact Sel.here | apply Sel.there)))) rfl (numsP_one _) (by unfold maxLen; omega) (by omega)) ?_
                    rintro _ _ ⟨a104, c104, rfl, rfl⟩
                    refine SL.val rfl rfl (fun w9 F9 S9 s => R.fld rfl) ?_
                    refine SL.step0 rfl (CS.st rfl rfl (show Sel _ (blk b5 _ _) _ from (by repeat (first | exact Sel.keep | exact Sel.here | apply Sel.there))) (by repeat (first | exact SetAt.here | apply SetAt.there)) rfl) ?_
                    rintro _ _ rfl
                    refine SL.nil ?_
                    refine SN.seq ?_
                    refine SG.region ?_
                    refine SL.val rfl rfl (fun w9 F9 S9 s => R.fld rfl) ?_
                    refine SL.val rfl rfl (fun w9 F9 S9 s => R.ldB (v := .slice da ps.length dc) rfl (s.cel (by repeat (first | exact SelB.blk | exact SelB.fz | apply SelB.there))) (by rfl)) ?_
                    refine SL.val rfl rfl (fun w9 F9 S9 s => R.mv rfl) ?_
                    refine SL.step rfl rfl (CS.buildA rfl rfl rfl rfl rfl ((grown [(k0.1, t0.1)]).map (fun d => Value.string (str d))) rfl) ?_
                    rintro _ _ ⟨b109, rfl, rfl⟩
                    refine SL.step rfl rfl (CS.app rfl rfl (show Sel _ (own 9 1 da (ps.length) dc ((grown ps).map (fun d => Value.string (str d)))) _ from (by repeat (first | exact Sel.keep | exact Sel.here | apply Sel.there))) (fun w9 F9 S9 s => s.blkC (show Sel _ (blk b109 ((grown [(k0.1, t0.1)]).map (fun d => Value.string (str d))) _) _ from (by repeat (first | exact Sel.keep | exact Sel.here | apply Sel.there)))) rfl (strs_one _) (by unfold maxLen; omega) (by omega)) ?_
                    rintro _ _ ⟨a110, c110, rfl, rfl⟩
                    refine SL.val rfl rfl (fun w9 F9 S9 s => R.fld rfl) ?_
                    refine SL.step0 rfl (CS.st rfl rfl (show Sel _ (blk b5 _ _) _ from (by repeat (first | exact Sel.keep | exact Sel.here | apply Sel.there))) (by repeat (first | exact SetAt.here | apply SetAt.there)) rfl) ?_
                    rintro _ _ rfl
                    refine SL.nil ?_
                    have hinv2 : partsF (Pack.num ((l.drop 20).take 2)) (l.drop 22) 0 = ((ps ++ [(k0.1, t0.1)]) ++ (partsF ((Pack.num ((l.drop 20).take 2)) - (i + 1)) t0.2.1 0).1, (partsF ((Pack.num ((l.drop 20).take 2)) - (i + 1)) t0.2.1 0).2) := hst
                    refine SN.block ?_
                    refine SN.seq ?_
                    refine SG.region ?_
                    refine SL.val rfl rfl (fun w9 F9 S9 s => R.mv rfl) ?_
                    refine SL.val rfl rfl (fun w9 F9 S9 s => R.add rfl rfl (by omega)) ?_
                    refine SL.val rfl rfl (fun w9 F9 S9 s => R.as rfl) ?_
                    refine SL.nil ?_
                    exact SN.again (⟨i + 1, t0.2.1, (k0.1 : Int), ps ++ [(k0.1, t0.1)], a104, c104, a110, c110⟩) (by show (Pack.num ((l.drop 20).take 2)) - (i + 1) < (Pack.num ((l.drop 20).take 2)) - i; omega) (Sub.cons rfl (Sub.cons rfl (Sub.cons rfl (Sub.cons rfl (Sub.cons rfl (Sub.cons rfl (Sub.nil _))))))) ((show Imp _ _ by dsimp only; rw [List.length_append, List.map_append, grown_app, nums_append, List.map_append]; exact (Imp.sels (by repeat (first | exact Sels.nil | apply Sels.cons | exact Sel.keep | exact Sel.here | apply Sel.there))))) (⟨by show i + 1 ≤ (Pack.num ((l.drop 20).take 2)); omega, by show (ps ++ [(k0.1, t0.1)]).length ≤ i + 1; rw [List.length_append]; show ps.length + 1 ≤ i + 1; omega, by show t0.2.1.length ≤ _; omega, hinv2, right_app _ ps _ _ _ [] hrt hok⟩)
        · obtain rfl : i = (Pack.num ((l.drop 20).take 2)) := by omega
          have hP : partsF (Pack.num ((l.drop 20).take 2)) (l.drop 22) 0 = (ps, ll, 0) := by rw [hinv, show partsF ((Pack.num ((l.drop 20).take 2)) - (Pack.num ((l.drop 20).take 2))) ll 0 = ([], ll, 0) by rw [Nat.sub_self]; rfl, List.append_nil]
          have hrr : rightF (Pack.num ((l.drop 2).take 2)) (-1) ps = true := by have := hrt []; rw [List.append_nil] at this; rw [this]; rfl
          rw [hP] at hQ
          have hok : okQ (qF l) ↔ (ll = [] ∧ 1 ≤ (Pack.num ((l.drop 2).take 2)) ∧ (Pack.num ((l.drop 2).take 2)) ≤ 64) := by rw [hQ]; exact ⟨fun h9 => ⟨h9.2.1, h9.2.2.2⟩, fun h9 => ⟨rfl, h9.1, hrr, h9.2⟩⟩
          have hok2 : okQ (qF l) := Classical.byContradiction (fun h9 => by
            rw [show parseF l = none from if_neg (fun h8 => h9 h8.2)] at hpf; cases hpf)
          obtain ⟨hll0, hB1, hB64⟩ := hok.1 hok2
          have hqq : patQ (qF l) = q := by
            have := hpf
            rw [show parseF l = some (patQ (qF l)) from if_pos ⟨hm1, hok2⟩] at this
            exact Option.some.inj this
          rw [hQ] at hqq
          subst hqq
          refine SG.exit _ rfl ?_
          refine SN.seq ?_
          refine SG.seq ?_
          refine SG.draw [23] [0, 1, 2, 3, 4, 5, 6, 7, 8, 9, 10, 11, 12, 13, 14, 15, 16, 17, 18, 19, 20, 21, 22, 23, 24] (by decide +kernel) rfl ?_
          refine SW.read rfl rfl rfl rfl (fun w9 F9 S9 s => R.ldBN rfl (s.cel (by repeat (first | exact SelB.blk | exact SelB.fz | apply SelB.there))) (by rfl)) ?_
          refine SW.pure rfl rfl rfl rfl (fun w9 => R.mv rfl) ?_
          refine SW.pure rfl rfl rfl rfl (fun w9 => R.nilChk rfl) ?_
          refine SW.pure rfl rfl rfl rfl (fun w9 => R.fld rfl) ?_
          refine SW.read rfl rfl rfl rfl (fun w9 F9 S9 s => R.ldB rfl (s.cel (by repeat (first | exact SelB.blk | exact SelB.fz | apply SelB.there))) (by rfl)) ?_
          refine SW.pure rfl rfl rfl rfl (fun w9 => R.eqI rfl rfl) ?_
          refine SW.pure rfl rfl rfl rfl (fun w9 => R.mv rfl) ?_
          refine SW.isT 118 rfl (decide_eq_true rfl) ?_
          refine SW.pure rfl rfl rfl rfl (fun w9 => R.mv rfl) ?_
          refine SW.pure rfl rfl rfl rfl (fun w9 => R.nilChk rfl) ?_
          refine SW.pure rfl rfl rfl rfl (fun w9 => R.fld rfl) ?_
          refine SW.read rfl rfl rfl rfl (fun w9 F9 S9 s => R.ldB rfl (s.cel (by repeat (first | exact SelB.blk | exact SelB.fz | apply SelB.there))) (by rfl)) ?_
          refine SW.pure rfl rfl rfl rfl (fun w9 => R.eqStr rfl rfl) ?_
          first | refine SW.pure rfl rfl rfl rfl (fun w9 => R.pickT rfl rfl) ?_ | refine SW.pure rfl rfl rfl rfl (fun w9 => R.pickF rfl rfl) ?_
          refine SW.pure rfl rfl rfl rfl (fun w9 => R.mv rfl) ?_
          refine SW.isT 125 rfl (decide_eq_true hll0) ?_
          refine SW.pure rfl rfl rfl rfl (fun w9 => R.fld rfl) ?_
          refine SW.read rfl rfl rfl rfl (fun w9 F9 S9 s => R.ldB rfl (s.cel (by repeat (first | exact SelB.blk | exact SelB.fz | apply SelB.there))) (by rfl)) ?_
          refine SW.pure rfl rfl rfl rfl (fun w9 => R.geq rfl rfl) ?_
          first | refine SW.pure rfl rfl rfl rfl (fun w9 => R.pickT rfl rfl) ?_ | refine SW.pure rfl rfl rfl rfl (fun w9 => R.pickF rfl rfl) ?_
          refine SW.pure rfl rfl rfl rfl (fun w9 => R.mv rfl) ?_
          refine SW.isT 130 rfl (decide_eq_true (by omega)) ?_
          refine SW.pure rfl rfl rfl rfl (fun w9 => R.fld rfl) ?_
          refine SW.read rfl rfl rfl rfl (fun w9 F9 S9 s => R.ldB rfl (s.cel (by repeat (first | exact SelB.blk | exact SelB.fz | apply SelB.there))) (by rfl)) ?_
          refine SW.pure rfl rfl rfl rfl (fun w9 => R.leq rfl rfl) ?_
          first | refine SW.pure rfl rfl rfl rfl (fun w9 => R.pickT rfl rfl) ?_ | refine SW.pure rfl rfl rfl rfl (fun w9 => R.pickF rfl rfl) ?_
          refine SW.step0 rfl rfl rfl (CS.stA rfl rfl (by repeat (first | exact Sel.keep | exact Sel.here | apply Sel.there)) (by rfl) (by rfl) (by intro u hu; simp only [List.mem_cons, List.not_mem_nil, or_false] at hu; rcases hu with rfl | rfl | rfl | rfl | rfl <;> rfl)) ?_
          rintro _ _ rfl
          refine ⟨⟨.inr (fun w9 F9 S9 s => R.ldB rfl (s.cel (by repeat (first | exact SelB.blk | exact SelB.fz | apply SelB.there))) (by rfl)), ⟨.inl (by decide +kernel), ⟨.inl (by decide +kernel), ⟨.inl (by decide +kernel), ⟨.inl (by decide +kernel), trivial⟩⟩⟩⟩⟩, ?_⟩
          refine SW.pure rfl rfl rfl rfl (fun w9 => R.as rfl) ?_
          refine SW.nil ?_
          refine SN.seq ?_
          exact SG.retCT rfl rfl rfl (by repeat (first | exact Sel.keep | exact Sel.here | apply Sel.there)) (by rfl) ((show Imp _ [own 3 1 ka (ps.length) kc (nums (ps.map Prod.fst)), own 9 1 da (ps.length) dc ((grown ps).map (fun d => Value.string (str d)))] from (Imp.sels (by repeat (first | exact Sels.nil | apply Sels.cons | exact Sel.keep | exact Sel.here | apply Sel.there))))) (⟨ka, kc, da, dc, by rw [decide_eq_true (show ((Pack.num ((l.drop 2).take 2)) : Int) ≤ 64 by omega)]; show _ = Value.tuple #[.agg ([.int .i64 ((Pack.num ((l.drop 2).take 2)) : Int), .string (str (rootP (unrootF (l.drop 4) 0).1)), .string (str (rootP (unrootF (l.drop 12) 0).1)), .slice ka ps.length kc, .slice da ps.length dc]).toArray, .bool true]; rw [hu4.2.1, hu12.2.1], rfl⟩)

end Go.Proofs.Yteaihincmfbblaa
/-
  The walks of package patch.
-/
set_option linter.unusedVariables false
set_option linter.unusedSimpArgs false
set_option maxRecDepth 4000
namespace Go.Proofs.Yteaihincmfbblaa
open Go Brv Brv.Pack Brv.Shrink Brv.Patch
theorem strs_pt {w : World} {a : Option Addr} {i : Nat} {v : List UInt8} {l : List (List UInt8)} (h : Cells w a (l.map (fun d => Value.string (str d)))) (hx : l[i]? = some v) : ∃ q, a = some q :=
  let ⟨q, hq, _⟩ := h i (.string (str v)) (by rw [List.getElem?_map, hx]; rfl); ⟨q, hq⟩
theorem strs_ld {w : World} {a : Option Addr} {i : Nat} {v : List UInt8} {l : List (List UInt8)} {q : Addr} (h : Cells w a (l.map (fun d => Value.string (str d)))) (hq : a = some q) (hx : l[i]? = some v) : w.cell? (q.add ((i : Int).toNat * 1)) = some (.string (str v)) := by
  obtain ⟨p, hp, hc⟩ := h i (.string (str v)) (by rw [List.getElem?_map, hx]; rfl)
  rw [hq] at hp; cases hp
  rw [Int.toNat_natCast, Nat.mul_one]; exact hc
theorem parse_lt {l : List UInt8} {q : Pat} (h : parseF l = some q) : q.old < 18446744073709551616 ∧ q.new < 18446744073709551616 := by
  by_cases h22 : 22 ≤ l.length
  · unfold parseF at h
    split at h
    · cases h
      rw [qF_long h22]
      exact ⟨(unroot_long (l := l.drop 4) (by rw [List.length_drop]; omega)).2.2, (unroot_long (l := l.drop 12) (by rw [List.length_drop]; omega)).2.2⟩
    · cases h
  · rw [parse_short (by omega)] at h; cases h
theorem with_step {x : List UInt8} {l : List UInt8} {q : Pat} (h : parseF l = some q) (hx : x.length = 64 * Image.dn x) (hb : q.blocks = Image.dn x) {i : Nat} {k : Nat × List UInt8} (hk : q.parts[i]? = some k) :
    (Image.withF x ((q.parts.take (i + 1)).map (undoW x))).1 = Image.laid (Image.withF x ((q.parts.take i).map (undoW x))).1 k.1 (laidF (Image.blk x k.1) (growF 64 k.2).1) := by
  have hin := undo_in h hb
  have hin1 : ∀ w ∈ (q.parts.take i).map (undoW x), (0 ≤ w.1 ∧ w.1 < (Image.dn x : Int)) ∧ w.2.length = 64 := fun w hw => hin w (by
    obtain ⟨z, hz, rfl⟩ := List.mem_map.1 hw
    exact List.mem_map_of_mem (List.mem_of_mem_take hz))
  have h0 := with_ok hx hin1
  have hl := Image.withF_length (x := x) h0
  have hkk := hin (undoW x k) (List.mem_map_of_mem (List.mem_of_getElem? hk))
  rw [List.take_add_one, hk, List.map_append, Image.withF_append, if_pos h0]
  have hd : Image.dn (Image.withF x ((q.parts.take i).map (undoW x))).1 = Image.dn x := by unfold Image.dn; rw [hl]
  show (Image.withF _ [undoW x k]).1 = _
  rw [Image.withF_next (by rw [hd]; omega) hkk.2]
  rfl
theorem with_len {x : List UInt8} {l : List UInt8} {q : Pat} (h : parseF l = some q) (hx : x.length = 64 * Image.dn x) (hb : q.blocks = Image.dn x) (i : Nat) : (Image.withF x ((q.parts.take i).map (undoW x))).1.length = x.length :=
  Image.withF_length (x := x) (with_ok hx (fun w hw => undo_in h hb w (by
    obtain ⟨z, hz, rfl⟩ := List.mem_map.1 hw
    exact List.mem_map_of_mem (List.mem_of_mem_take hz))))

theorem refapply_none (x : List UInt8) (a : Option Addr) (n c : Nat) (l : List UInt8) (w : World) (hb : Bs w a n l) (hc : n ≤ c) (hn : n ≤ 1000000) (hx : x.length = 64 * Image.dn x) (h1 : 1 ≤ Image.dn x) (h64 : Image.dn x ≤ 64) (hpf : parseF l = none) : Meets Try.prog 17 [.string (str x), .slice a n c] w (fun v w' => v = .tuple #[.string (str (applyF rootD x l).1), .int .i64 (applyF rootD x l).2] ∧ Ext [] w w') := by
  refine Meets.law Try.func17 rfl 75 rfl (Nat.le_of_ble_eq_true rfl) (law_bs (hb) (law_nil w)) ?_
  refine SG.seq ?_
  refine SG.region ?_
  refine SL.val rfl rfl (fun w9 F9 S9 s => R.as rfl) ?_
  refine SL.val rfl rfl (fun w9 F9 S9 s => R.as rfl) ?_
  refine SL.nil ?_
  refine SN.seq ?_
  refine SG.seq ?_
  refine SG.region ?_
  refine SL.val rfl rfl (fun w9 F9 S9 s => R.mv rfl) ?_
  refine SL.step rfl rfl (CS.call rfl go15 (refparse_no a n c l hc hn hpf) (by repeat (first | exact Sels.nil | apply Sels.cons | exact Sel.keep | exact Sel.here | apply Sel.there))) ?_
  rintro _ _ ⟨_, ⟨vs, hvs5, hvs1, rfl, rfl, rfl⟩, rfl⟩
  refine SL.n0 ?_
  refine SL.val rfl rfl (fun w9 F9 S9 s => R.mv rfl) ?_
  refine SL.val rfl rfl (fun w9 F9 S9 s => R.ext rfl rfl) ?_
  refine SL.val rfl rfl (fun w9 F9 S9 s => R.ext rfl rfl) ?_
  refine SL.step rfl rfl (CS.alloc [.int .i64 0, .string ByteArray.empty, .string ByteArray.empty, .slice none 0 0, .slice none 0 0] rfl) ?_
  rintro _ _ ⟨b6, rfl, rfl⟩
  refine SL.step0 rfl (CS.stA (vs := vs) rfl rfl (by repeat (first | exact Sel.keep | exact Sel.here | apply Sel.there)) hvs5 (by rfl) hvs1) ?_
  rintro _ _ rfl
  refine SL.val rfl rfl (fun w9 F9 S9 s => R.as rfl) ?_
  refine SL.nil ?_
  refine SN.seq ?_
  refine SG.seq ?_
  refine SG.seq ?_
  refine SG.region ?_
  refine SL.val rfl rfl (fun w9 F9 S9 s => R.mv rfl) ?_
  refine SL.val rfl rfl (fun w9 F9 S9 s => R.not rfl) ?_
  refine SL.val rfl rfl (fun w9 F9 S9 s => R.mv rfl) ?_
  refine SL.isT 19 rfl (rfl) ?_
  refine SL.pass rfl rfl ?_
  refine SL.pass rfl rfl ?_
  refine SL.pass rfl rfl ?_
  refine SL.pass rfl rfl ?_
  refine SL.pass rfl rfl ?_
  refine SL.pass rfl rfl ?_
  first | refine SL.val rfl rfl (fun w9 F9 S9 s => R.pickT rfl rfl) ?_ | refine SL.val rfl rfl (fun w9 F9 S9 s => R.pickF rfl rfl) ?_
  refine SL.nil ?_
  refine SN.seq ?_
  refine SG.condT rfl ?_
  refine SG.seq ?_
  refine SG.region ?_
  refine SL.val rfl rfl (fun w9 F9 S9 s => R.as rfl) ?_
  refine SL.val rfl rfl (fun w9 F9 S9 s => R.as rfl) ?_
  refine SL.nil ?_
  refine SN.seq ?_
  exact SG.ret2 rfl rfl rfl ((Imp.sels (by repeat (first | exact Sels.nil | apply Sels.cons | exact Sel.keep | exact Sel.here | apply Sel.there)))) (by unfold applyF; rw [hpf]; rfl)

set_option maxHeartbeats 2000000 in
theorem refapply_some (x : List UInt8) (a : Option Addr) (n c : Nat) (l : List UInt8) (q : Pat) (w : World) (hb : Bs w a n l) (hc : n ≤ c) (hn : n ≤ 1000000) (hx : x.length = 64 * Image.dn x) (hx1 : 1 ≤ Image.dn x) (h64 : Image.dn x ≤ 64) (hpf : parseF l = some q) : Meets Try.prog 17 [.string (str x), .slice a n c] w (fun v w' => v = .tuple #[.string (str (applyF rootD x l).1), .int .i64 (applyF rootD x l).2] ∧ Ext [] w w') := by
  refine Meets.law Try.func17 rfl 75 rfl (Nat.le_of_ble_eq_true rfl) (law_bs (hb) (law_nil w)) ?_
  have hdx : Image.dn x = x.length / 64 := rfl
  obtain ⟨hrt, hb1, hb64⟩ := parse_some hpf
  have hfew := parts_few hpf
  have hall := right_all hrt
  obtain ⟨hlo, hln9⟩ := parse_lt hpf
  have hAF : applyF rootD x l = if 64 * q.blocks ≠ x.length then ([], 20) else if q.old ≠ rootD x then ([], 52) else if rootD (Image.withF x (q.parts.map (undoW x))).1 ≠ q.new then ([], 53) else ((Image.withF x (q.parts.map (undoW x))).1, 0) := by unfold applyF; rw [hpf]
  refine SG.seq ?_
  refine SG.region ?_
  refine SL.val rfl rfl (fun w9 F9 S9 s => R.as rfl) ?_
  refine SL.val rfl rfl (fun w9 F9 S9 s => R.as rfl) ?_
  refine SL.nil ?_
  refine SN.seq ?_
  refine SG.seq ?_
  refine SG.region ?_
  refine SL.val rfl rfl (fun w9 F9 S9 s => R.mv rfl) ?_
  refine SL.step rfl rfl (CS.call rfl go15 (refparse_yes a n c l q hc hn hpf) (by repeat (first | exact Sels.nil | apply Sels.cons | exact Sel.keep | exact Sel.here | apply Sel.there))) ?_
  rintro _ _ ⟨_, ⟨ka, kc, da, dc, rfl, rfl, rfl⟩, rfl⟩
  refine SL.n2 ?_
  refine SL.val rfl rfl (fun w9 F9 S9 s => R.mv rfl) ?_
  refine SL.val rfl rfl (fun w9 F9 S9 s => R.ext rfl rfl) ?_
  refine SL.val rfl rfl (fun w9 F9 S9 s => R.ext rfl rfl) ?_
  refine SL.step rfl rfl (CS.alloc [.int .i64 0, .string ByteArray.empty, .string ByteArray.empty, .slice none 0 0, .slice none 0 0] rfl) ?_
  rintro _ _ ⟨b6, rfl, rfl⟩
  refine SL.step0 rfl (CS.stA (vs := [.int .i64 (q.blocks : Int), .string (str (rootP q.old)), .string (str (rootP q.new)), .slice ka q.parts.length kc, .slice da q.parts.length dc]) rfl rfl (show Sel _ (blk b6 _ _) _ from (by repeat (first | exact Sel.keep | exact Sel.here | apply Sel.there))) (by rfl) (by rfl) (by intro u hu; simp only [List.mem_cons, List.not_mem_nil, or_false] at hu; rcases hu with rfl | rfl | rfl | rfl | rfl <;> rfl)) ?_
  rintro _ _ rfl
  refine SL.val rfl rfl (fun w9 F9 S9 s => R.as rfl) ?_
  refine SL.nil ?_
  refine SN.imp (Imp.fz (show Sel _ (blk b6 [.int .i64 (q.blocks : Int), .string (str (rootP q.old)), .string (str (rootP q.new)), .slice ka q.parts.length kc, .slice da q.parts.length dc] 41) _ from (by repeat (first | exact Sel.keep | exact Sel.here | apply Sel.there)))) ?_
  refine SN.imp (Imp.ownSh (show Sel _ (own 3 1 ka (q.parts.length) kc (nums (q.parts.map Prod.fst))) _ from (by repeat (first | exact Sel.keep | exact Sel.here | apply Sel.there))) (p := fun w => Cells w ka (nums (q.parts.map Prod.fst))) (fun w h => h)) ?_
  refine SN.imp (Imp.ownSh (show Sel _ (own 9 1 da (q.parts.length) dc ((grown q.parts).map (fun d => Value.string (str d)))) _ from (by repeat (first | exact Sel.keep | exact Sel.here | apply Sel.there))) (p := fun w => Cells w da ((grown q.parts).map (fun d => Value.string (str d)))) (fun w h => h)) ?_
  refine SN.seq ?_
  refine SG.seq ?_
  refine SG.seq ?_
  refine SG.region ?_
  refine SL.val rfl rfl (fun w9 F9 S9 s => R.mv rfl) ?_
  refine SL.val rfl rfl (fun w9 F9 S9 s => R.not rfl) ?_
  refine SL.val rfl rfl (fun w9 F9 S9 s => R.mv rfl) ?_
  refine SL.isF 19 rfl (rfl) ?_
  refine SL.val rfl rfl (fun w9 F9 S9 s => R.fld rfl) ?_
  refine SL.val rfl rfl (fun w9 F9 S9 s => R.ldB (v := .int .i64 (q.blocks : Int)) rfl (s.fz (show Sel _ (fz b6 [.int .i64 (q.blocks : Int), .string (str (rootP q.old)), .string (str (rootP q.new)), .slice ka q.parts.length kc, .slice da q.parts.length dc] 41) _ from (by repeat (first | exact Sel.keep | exact Sel.here | apply Sel.there)))) (by rfl)) ?_
  refine SL.val rfl rfl (fun w9 F9 S9 s => R.mul rfl rfl (by omega)) ?_
  refine SL.val rfl rfl (fun w9 F9 S9 s => R.mv rfl) ?_
  refine SL.val rfl rfl (fun w9 F9 S9 s => R.lenT rfl) ?_
  refine SL.val rfl rfl (fun w9 F9 S9 s => R.neI rfl rfl) ?_
  first | refine SL.val rfl rfl (fun w9 F9 S9 s => R.pickT rfl rfl) ?_ | refine SL.val rfl rfl (fun w9 F9 S9 s => R.pickF rfl rfl) ?_
  refine SL.nil ?_
  refine SN.seq ?_
  refine SG.condP rfl (fun h0 => ?_) (fun h0 => ?_)
  · have hA : applyF rootD x l = ([], 20) := by rw [hAF, if_pos (by omega)]
    refine SG.seq ?_
    refine SG.region ?_
    refine SL.val rfl rfl (fun w9 F9 S9 s => R.as rfl) ?_
    refine SL.val rfl rfl (fun w9 F9 S9 s => R.as rfl) ?_
    refine SL.nil ?_
    refine SN.seq ?_
    exact SG.ret2 rfl rfl rfl ((Imp.sels (by repeat (first | exact Sels.nil | apply Sels.cons | exact Sel.keep | exact Sel.here | apply Sel.there)))) (by first | (rw [hA]; done) | (rw [hA]; rfl))
  · have hbx : q.blocks = Image.dn x := by omega
    rw [if_neg (by omega)] at hAF
    have hwl := with_len hpf hx hbx
    refine SG.skip ?_
    refine SN.seq ?_
    refine SG.seq ?_
    refine SG.seq ?_
    refine SG.draw [3] [0, 1, 2, 3, 4] (by decide +kernel) rfl ?_
    refine SW.pure rfl rfl rfl rfl (fun w9 => R.fld rfl) ?_
    refine SW.read rfl rfl rfl rfl (fun w9 F9 S9 s => R.ldB (v := .string (str (rootP q.old))) rfl (s.fz (show Sel _ (fz b6 [.int .i64 (q.blocks : Int), .string (str (rootP q.old)), .string (str (rootP q.new)), .slice ka q.parts.length kc, .slice da q.parts.length dc] 41) _ from (by repeat (first | exact Sel.keep | exact Sel.here | apply Sel.there)))) (by rfl)) ?_
    refine SW.pure rfl rfl rfl rfl (fun w9 => R.mv rfl) ?_
    refine SW.step rfl rfl rfl rfl (CS.call rfl go38 (refroot_ok x (by omega) (by omega)) (by repeat (first | exact Sels.nil | apply Sels.cons | exact Sel.keep | exact Sel.here | apply Sel.there))) ?_
    rintro _ _ ⟨_, ⟨rfl, rfl⟩, rfl⟩
    refine ⟨⟨.inr (fun w9 F9 S9 s => R.ldB (v := .string (str (rootP q.old))) rfl (s.fz (show Sel _ (fz b6 [.int .i64 (q.blocks : Int), .string (str (rootP q.old)), .string (str (rootP q.new)), .slice ka q.parts.length kc, .slice da q.parts.length dc] 41) _ from (by repeat (first | exact Sel.keep | exact Sel.here | apply Sel.there)))) (by rfl)), trivial⟩, ?_⟩
    refine SW.n0 ?_
    refine SW.pure rfl rfl rfl rfl (fun w9 => R.neStr rfl rfl) ?_
    refine SW.nil ?_
    refine SN.seq ?_
    refine SG.condP rfl (fun h1 => ?_) (fun h1 => ?_)
    · have hA : applyF rootD x l = ([], 52) := by rw [hAF, if_pos (fun h9 => h1 (by rw [h9]))]
      refine SG.seq ?_
      refine SG.region ?_
      refine SL.val rfl rfl (fun w9 F9 S9 s => R.as rfl) ?_
      refine SL.val rfl rfl (fun w9 F9 S9 s => R.as rfl) ?_
      refine SL.nil ?_
      refine SN.seq ?_
      exact SG.ret2 rfl rfl rfl ((Imp.sels (by repeat (first | exact Sels.nil | apply Sels.cons | exact Sel.keep | exact Sel.here | apply Sel.there)))) (by first | (rw [hA]; done) | (rw [hA]; rfl))
    · rw [if_neg (fun h9 => h9 (root_inj hlo (rootD_lt x (by omega)) (Classical.not_not.1 h1)))] at hAF
      refine SG.skip ?_
      refine SN.seq ?_
      refine SG.seq ?_
      refine SG.region ?_
      refine SL.val rfl rfl (fun w9 F9 S9 s => R.mv rfl) ?_
      refine SL.val rfl rfl (fun w9 F9 S9 s => R.as rfl) ?_
      refine SL.nil ?_
      refine SN.seq ?_
      refine SG.seq ?_
      refine SG.seq ?_
      refine SG.region ?_
      refine SL.val rfl rfl (fun w9 F9 S9 s => R.fld rfl) ?_
      refine SL.val rfl rfl (fun w9 F9 S9 s => R.ldB (v := .slice ka q.parts.length kc) rfl (s.fz (show Sel _ (fz b6 [.int .i64 (q.blocks : Int), .string (str (rootP q.old)), .string (str (rootP q.new)), .slice ka q.parts.length kc, .slice da q.parts.length dc] 41) _ from (by repeat (first | exact Sel.keep | exact Sel.here | apply Sel.there)))) (by rfl)) ?_
      refine SL.val rfl rfl (fun w9 F9 S9 s => R.lenS rfl) ?_
      refine SL.val rfl rfl (fun w9 F9 S9 s => R.mv rfl) ?_
      refine SL.nil ?_
      refine SN.seq ?_
      refine SG.block ?_
      refine SG.loop (X := Nat) (fun i => [(0, .string (str x)), (6, .pointer (some ⟨b6, 0, none⟩)), (8, .string (str (Image.withF x ((q.parts.take i).map (undoW x))).1)), (34, .slice ka q.parts.length kc), (35, .int .i64 (q.parts.length : Int)), (36, .int .i64 (i : Int))]) (fun i => [fz b6 [.int .i64 (q.blocks : Int), .string (str (rootP q.old)), .string (str (rootP q.new)), .slice ka q.parts.length kc, .slice da q.parts.length dc] 41, sh (fun w => Cells w ka (nums (q.parts.map Prod.fst))), sh (fun w => Cells w da ((grown q.parts).map (fun d => Value.string (str d))))]) (fun i => i ≤ q.parts.length) (fun i => q.parts.length - i) (0) (Sub.cons rfl (Sub.cons rfl (Sub.cons rfl (Sub.cons rfl (Sub.cons rfl (Sub.cons rfl (Sub.nil _))))))) ((Imp.sels (by repeat (first | exact Sels.nil | apply Sels.cons | exact Sel.keep | exact Sel.here | apply Sel.there)))) (Nat.zero_le _) ?_
      intro i hi
      show SG _ _ _ _ _ [(0, .string (str x)), (6, .pointer (some ⟨b6, 0, none⟩)), (8, .string (str (Image.withF x ((q.parts.take i).map (undoW x))).1)), (34, .slice ka q.parts.length kc), (35, .int .i64 (q.parts.length : Int)), (36, .int .i64 (i : Int))] [fz b6 [.int .i64 (q.blocks : Int), .string (str (rootP q.old)), .string (str (rootP q.new)), .slice ka q.parts.length kc, .slice da q.parts.length dc] 41, sh (fun w => Cells w ka (nums (q.parts.map Prod.fst))), sh (fun w => Cells w da ((grown q.parts).map (fun d => Value.string (str d))))] _
      refine SG.seq ?_
      refine SG.region ?_
      refine SL.val rfl rfl (fun w9 F9 S9 s => R.lss rfl rfl) ?_
      refine SL.nil ?_
      refine SN.seq ?_
      refine SG.seq ?_
      refine SG.condP rfl (fun h2 => ?_) (fun h2 => ?_)
      · obtain ⟨k, hk⟩ : ∃ k, q.parts[i]? = some k := ⟨_, List.getElem?_eq_getElem (by omega)⟩
        have hkk : (q.parts.map Prod.fst)[i]? = some k.1 := by rw [List.getElem?_map, hk]; rfl
        have hkd : (grown q.parts)[i]? = some (growF 64 k.2).1 := by unfold grown; rw [List.getElem?_map, hk]; rfl
        obtain ⟨hg1, hg2, hg3⟩ := hall _ (List.mem_of_getElem? hk)
        refine SG.fact (fun w9 F9 S9 s => numsP_pt (s.sh (p := fun w => Cells w ka (nums (q.parts.map Prod.fst))) (by repeat (first | exact Sel.keep | exact Sel.here | apply Sel.there))) hkk) (fun hf9 => ?_)
        obtain ⟨qk, hqk⟩ := hf9
        refine SG.fact (fun w9 F9 S9 s => strs_pt (s.sh (p := fun w => Cells w da ((grown q.parts).map (fun d => Value.string (str d)))) (by repeat (first | exact Sel.keep | exact Sel.here | apply Sel.there))) hkd) (fun hf9 => ?_)
        obtain ⟨qd, hqd⟩ := hf9
        have hbx9 := Image.blk_length (x := x) (show k.1 < Image.dn x by omega)
        have hwi := hwl i
        have hstp := with_step hpf hx hbx hk
        refine SG.skip ?_
        refine SN.seq ?_
        refine SG.seq ?_
        refine SG.block ?_
        refine SG.seq ?_
        refine SG.region ?_
        refine SL.val rfl rfl (fun w9 F9 S9 s => R.mv rfl) ?_
        refine SL.val rfl rfl (fun w9 F9 S9 s => R.idx rfl rfl (by omega) (by omega) qk hqk) ?_
        refine SL.val rfl rfl (fun w9 F9 S9 s => R.ld (v := .int .i64 (k.1 : Int)) rfl (numsP_ld (s.sh (p := fun w => Cells w ka (nums (q.parts.map Prod.fst))) (by repeat (first | exact Sel.keep | exact Sel.here | apply Sel.there))) hqk hkk)) ?_
        refine SL.val rfl rfl (fun w9 F9 S9 s => R.as rfl) ?_
        refine SL.val rfl rfl (fun w9 F9 S9 s => R.as rfl) ?_
        refine SL.nil ?_
        refine SN.seq ?_
        refine SG.seq ?_
        refine SG.draw [7, 13] [0, 1, 2, 3, 4, 5, 6, 8, 9, 10, 11, 12, 7, 13, 14] (by decide +kernel) rfl ?_
        refine SW.pure rfl rfl rfl rfl (fun w9 => R.mv rfl) ?_
        refine SW.pure rfl rfl rfl rfl (fun w9 => R.mv rfl) ?_
        refine SW.pure rfl rfl rfl rfl (fun w9 => R.mul rfl rfl (by omega)) ?_
        refine SW.pure rfl rfl rfl rfl (fun w9 => R.mv rfl) ?_
        refine SW.pure rfl rfl rfl rfl (fun w9 => R.mul rfl rfl (by omega)) ?_
        refine SW.pure rfl rfl rfl rfl (fun w9 => R.add rfl rfl (by omega)) ?_
        refine SW.pure rfl rfl rfl rfl (fun w9 => R.slStr rfl rfl rfl (by omega) (by omega) (by omega)) ?_
        refine SW.be 47 rfl (congrArg (fun q => Value.string (str q)) (show _ = Image.blk x k.1 by first | exact sub_blk x k.1 | exact sub_blk2 x k.1)) ?_
        refine SW.pure rfl rfl rfl rfl (fun w9 => R.fld rfl) ?_
        refine SW.read rfl rfl rfl rfl (fun w9 F9 S9 s => R.ldB (v := .slice da q.parts.length dc) rfl (s.fz (show Sel _ (fz b6 [.int .i64 (q.blocks : Int), .string (str (rootP q.old)), .string (str (rootP q.new)), .slice ka q.parts.length kc, .slice da q.parts.length dc] 41) _ from (by repeat (first | exact Sel.keep | exact Sel.here | apply Sel.there)))) (by rfl)) ?_
        refine SW.pure rfl rfl rfl rfl (fun w9 => R.mv rfl) ?_
        refine SW.pure rfl rfl rfl rfl (fun w9 => R.idx rfl rfl (by omega) (by omega) qd hqd) ?_
        refine SW.read rfl rfl rfl rfl (fun w9 F9 S9 s => R.ld (v := .string (str (growF 64 k.2).1)) rfl (strs_ld (s.sh (p := fun w => Cells w da ((grown q.parts).map (fun d => Value.string (str d)))) (by repeat (first | exact Sel.keep | exact Sel.here | apply Sel.there))) hqd hkd)) ?_
        refine SW.step rfl rfl rfl rfl (CS.strBytes rfl) ?_
        rintro _ _ ⟨a48, c48, rfl, hc48, rfl⟩
        refine ⟨⟨.inr (fun w9 F9 S9 s => R.ld (v := .string (str (growF 64 k.2).1)) rfl (strs_ld (s.sh (p := fun w => Cells w da ((grown q.parts).map (fun d => Value.string (str d)))) (by repeat (first | exact Sel.keep | exact Sel.here | apply Sel.there))) hqd hkd)), ⟨.inr (fun w9 F9 S9 s => R.ldB (v := .slice da q.parts.length dc) rfl (s.fz (show Sel _ (fz b6 [.int .i64 (q.blocks : Int), .string (str (rootP q.old)), .string (str (rootP q.new)), .slice ka q.parts.length kc, .slice da q.parts.length dc] 41) _ from (by repeat (first | exact Sel.keep | exact Sel.here | apply Sel.there)))) (by rfl)), trivial⟩⟩, ?_⟩
        refine SW.step rfl rfl rfl rfl (CS.callP rfl go39 (fun w9 F9 S9 s => reflaidP a48 (Image.blk x k.1).length c48 (Image.blk x k.1) (growF 64 k.2).1 w9 (s.bs (a := a48) (l := Image.blk x k.1) (by repeat (first | exact Sel.keep | exact Sel.here | apply Sel.there))) (by omega))) ?_
        rintro _ _ ⟨_, ⟨a11, c11, rfl, hc11, rfl, rfl⟩, rfl⟩
        refine ⟨⟨.inl (by decide +kernel), ⟨.inl (by decide +kernel), trivial⟩⟩, ?_⟩
        refine SW.pure rfl rfl rfl rfl (fun w9 => R.as rfl) ?_
        refine SW.nil ?_
        refine SN.seq ?_
        refine SG.draw [] [0, 1, 2, 3, 4, 5, 6, 7, 8, 9, 10, 11, 12, 13] (by decide +kernel) rfl ?_
        refine SW.pure rfl rfl rfl rfl (fun w9 => R.mv rfl) ?_
        refine SW.pure rfl rfl rfl rfl (fun w9 => R.mv rfl) ?_
        refine SW.pure rfl rfl rfl rfl (fun w9 => R.mul rfl rfl (by omega)) ?_
        refine SW.pure rfl rfl rfl rfl (fun w9 => R.slStrH rfl rfl (by omega) (by omega)) ?_
        refine SW.pure rfl rfl rfl rfl (fun w9 => R.mv rfl) ?_
        refine SW.read rfl rfl rfl rfl (fun w9 F9 S9 s => R.strB rfl (s.bs (a := a11) (n := (growF 64 k.2).1.length) (l := laidF (Image.blk x k.1) (growF 64 k.2).1) (by repeat (first | exact Sel.keep | exact Sel.here | apply Sel.there)))) ?_
        refine SW.pure rfl rfl rfl rfl (fun w9 => R.addStr rfl rfl (by rw [List.length_take, laidF_length]; omega)) ?_
        refine SW.pure rfl rfl rfl rfl (fun w9 => R.mv rfl) ?_
        refine SW.pure rfl rfl rfl rfl (fun w9 => R.mv rfl) ?_
        refine SW.pure rfl rfl rfl rfl (fun w9 => R.mul rfl rfl (by omega)) ?_
        refine SW.pure rfl rfl rfl rfl (fun w9 => R.add rfl rfl (by omega)) ?_
        refine SW.pure rfl rfl rfl rfl (fun w9 => R.slStrL rfl rfl (by omega) (by omega)) ?_
        refine SW.pure rfl rfl rfl rfl (fun w9 => R.addStr rfl rfl (by simp only [List.length_append, List.length_take, List.length_drop, laidF_length]; omega)) ?_
        refine SW.pure rfl rfl rfl rfl (fun w9 => R.as rfl) ?_
        refine SW.nil ?_
        refine SN.be 8 rfl (congrArg (fun q => Value.string (str q)) (show _ = (Image.withF x ((q.parts.take (i + 1)).map (undoW x))).1 by rw [hstp, show (64 * (k.1 : Int)).toNat = 64 * k.1 by omega, show (64 * (k.1 : Int) + 64).toNat = 64 * k.1 + 64 by omega]; rfl)) ?_
        refine SN.block ?_
        refine SN.seq ?_
        refine SG.region ?_
        refine SL.val rfl rfl (fun w9 F9 S9 s => R.add rfl rfl (by omega)) ?_
        refine SL.val rfl rfl (fun w9 F9 S9 s => R.mv rfl) ?_
        refine SL.nil ?_
        exact SN.again (i + 1) (by show q.parts.length - (i + 1) < q.parts.length - i; omega) (Sub.cons rfl (Sub.cons rfl (Sub.cons rfl (Sub.cons rfl (Sub.cons rfl (Sub.cons rfl (Sub.nil _))))))) ((Imp.sels (by repeat (first | exact Sels.nil | apply Sels.cons | exact Sel.keep | exact Sel.here | apply Sel.there)))) (by show i + 1 ≤ q.parts.length; omega)
      · obtain rfl : i = q.parts.length := by omega
        rw [List.take_length]
        have hwe := hwl q.parts.length
        rw [List.take_length] at hwe
        refine SG.exit _ rfl ?_
        refine SN.seq ?_
        refine SG.seq ?_
        refine SG.seq ?_
        refine SG.draw [1] [0, 2, 3, 1, 4] (by decide +kernel) rfl ?_
        refine SW.pure rfl rfl rfl rfl (fun w9 => R.mv rfl) ?_
        refine SW.pure rfl rfl rfl rfl (fun w9 => R.fld rfl) ?_
        refine SW.read rfl rfl rfl rfl (fun w9 F9 S9 s => R.ldB (v := .string (str (rootP q.new))) rfl (s.fz (show Sel _ (fz b6 [.int .i64 (q.blocks : Int), .string (str (rootP q.old)), .string (str (rootP q.new)), .slice ka q.parts.length kc, .slice da q.parts.length dc] 41) _ from (by repeat (first | exact Sel.keep | exact Sel.here | apply Sel.there)))) (by rfl)) ?_
        refine SW.step rfl rfl rfl rfl (CS.call rfl go38 (refroot_ok (Image.withF x (q.parts.map (undoW x))).1 (by omega) (by omega)) (by repeat (first | exact Sels.nil | apply Sels.cons | exact Sel.keep | exact Sel.here | apply Sel.there))) ?_
        rintro _ _ ⟨_, ⟨rfl, rfl⟩, rfl⟩
        refine ⟨⟨.inr (fun w9 F9 S9 s => R.ldB (v := .string (str (rootP q.new))) rfl (s.fz (show Sel _ (fz b6 [.int .i64 (q.blocks : Int), .string (str (rootP q.old)), .string (str (rootP q.new)), .slice ka q.parts.length kc, .slice da q.parts.length dc] 41) _ from (by repeat (first | exact Sel.keep | exact Sel.here | apply Sel.there)))) (by rfl)), trivial⟩, ?_⟩
        refine SW.n0 ?_
        refine SW.pure rfl rfl rfl rfl (fun w9 => R.neStr rfl rfl) ?_
        refine SW.nil ?_
        refine SN.seq ?_
        refine SG.condP rfl (fun h3 => ?_) (fun h3 => ?_)
        · have hA : applyF rootD x l = ([], 53) := by rw [hAF, if_pos (fun h9 => h3 (by rw [h9]))]
          refine SG.seq ?_
          refine SG.region ?_
          refine SL.val rfl rfl (fun w9 F9 S9 s => R.as rfl) ?_
          refine SL.val rfl rfl (fun w9 F9 S9 s => R.as rfl) ?_
          refine SL.nil ?_
          refine SN.seq ?_
          exact SG.ret2 rfl rfl rfl ((Imp.sels (by repeat (first | exact Sels.nil | apply Sels.cons | exact Sel.keep | exact Sel.here | apply Sel.there)))) (by first | (rw [hA]; done) | (rw [hA]; rfl))
        · have hA : applyF rootD x l = ((Image.withF x (q.parts.map (undoW x))).1, 0) := by rw [hAF, if_neg (fun h9 => h9 (root_inj (rootD_lt _ (by omega)) hln9 (Classical.not_not.1 h3)))]
          refine SG.skip ?_
          refine SN.seq ?_
          refine SG.seq ?_
          refine SG.region ?_
          refine SL.val rfl rfl (fun w9 F9 S9 s => R.mv rfl) ?_
          refine SL.val rfl rfl (fun w9 F9 S9 s => R.as rfl) ?_
          refine SL.val rfl rfl (fun w9 F9 S9 s => R.as rfl) ?_
          refine SL.nil ?_
          refine SN.seq ?_
          exact SG.ret2 rfl rfl rfl ((Imp.sels (by repeat (first | exact Sels.nil | apply Sels.cons | exact Sel.keep | exact Sel.here | apply Sel.there)))) (by first | (rw [hA]; done) | (rw [hA]; rfl))

theorem refapply_ok (x : List UInt8) (a : Option Addr) (n c : Nat) (l : List UInt8) (w : World) (hb : Bs w a n l) (hc : n ≤ c) (hn : n ≤ 1000000) (hx : x.length = 64 * Image.dn x) (h1 : 1 ≤ Image.dn x) (h64 : Image.dn x ≤ 64) : Meets Try.prog 17 [.string (str x), .slice a n c] w (fun v w' => v = .tuple #[.string (str (applyF rootD x l).1), .int .i64 (applyF rootD x l).2] ∧ Ext [] w w') := by
  cases hq : parseF l with
  | none => exact refapply_none x a n c l w hb hc hn hx h1 h64 hq
  | some q => exact refapply_some x a n c l q w hb hc hn hx h1 h64 hq

end Go.Proofs.Yteaihincmfbblaa
/-
  The walks of package patch.
-/
set_option linter.unusedVariables false
set_option linter.unusedSimpArgs false
set_option maxRecDepth 4000
namespace Go.Proofs.Yteaihincmfbblaa
open Go Brv Brv.Pack Brv.Shrink Brv.Patch
theorem disks_yy (a0 a1 : Option Addr) (n0 n1 c0 c1 : Nat) (l0 l1 : List UInt8) (w : World) (hb0 : Bs w a0 n0 l0) (hc0 : n0 ≤ c0) (hb1 : Bs w a1 n1 l1) (hc1 : n1 ≤ c1) (hm : n0 ≤ 140737488351232 ∧ n1 ≤ 140737488351232) (hv0 : l0.length = 64 * Image.dn l0 ∧ 1 ≤ Image.dn l0 ∧ Image.dn l0 ≤ 64) (hv1 : l1.length = 64 * Image.dn l1 ∧ 1 ≤ Image.dn l1 ∧ Image.dn l1 ≤ 64) : Meets Try.prog 7 [.slice a0 n0 c0, .slice a1 n1 c1] w (fun v w' => ∃ p : World → Prop, (∃ d0 g0 e0 cur0 ps0 d1 g1 e1 cur1 ps1, v = .tuple #[.pointer (some ⟨d0, 0, none⟩), .pointer (some ⟨d1, 0, none⟩), .bool true] ∧ p = fun w => DiskL w d0 g0 e0 cur0 ps0 l0 ∧ DiskL w d1 g1 e1 cur1 ps1 l1) ∧ Ext [] w w' ∧ ∀ w'', Ext [] w' w'' → p w'') := by
  refine Meets.lawP (φ := fun v p => ∃ d0 g0 e0 cur0 ps0 d1 g1 e1 cur1 ps1, v = .tuple #[.pointer (some ⟨d0, 0, none⟩), .pointer (some ⟨d1, 0, none⟩), .bool true] ∧ p = fun w => DiskL w d0 g0 e0 cur0 ps0 l0 ∧ DiskL w d1 g1 e1 cur1 ps1 l1) Try.func7 rfl 29 rfl (Nat.le_of_ble_eq_true rfl) (law_bs (hb0) (law_bs (hb1) (law_nil w))) ?_
  refine SG.seq ?_
  refine SG.region ?_
  refine SL.val rfl rfl (fun w9 F9 S9 s => R.as rfl) ?_
  refine SL.val rfl rfl (fun w9 F9 S9 s => R.as rfl) ?_
  refine SL.val rfl rfl (fun w9 F9 S9 s => R.as rfl) ?_
  refine SL.nil ?_
  refine SN.seq ?_
  refine SG.seq ?_
  refine SG.region ?_
  refine SL.val rfl rfl (fun w9 F9 S9 s => R.mv rfl) ?_
  refine SL.step rfl rfl (CS.callP rfl go22 (fun w9 F9 S9 s => ifromP a0 n0 c0 l0 w9 (s.bs (l := l0) (by repeat (first | exact Sel.keep | exact Sel.here | apply Sel.there))) hc0 hv0)) ?_
  rintro _ _ ⟨_, ⟨d0, g0, e0, cur0, ps0, rfl, rfl⟩, rfl⟩
  refine SL.val rfl rfl (fun w9 F9 S9 s => R.mv rfl) ?_
  refine SL.val rfl rfl (fun w9 F9 S9 s => R.ext rfl rfl) ?_
  refine SL.val rfl rfl (fun w9 F9 S9 s => R.ext rfl rfl) ?_
  refine SL.val rfl rfl (fun w9 F9 S9 s => R.as rfl) ?_
  refine SL.val rfl rfl (fun w9 F9 S9 s => R.as rfl) ?_
  refine SL.nil ?_
  refine SN.seq ?_
  refine SG.seq ?_
  refine SG.region ?_
  refine SL.val rfl rfl (fun w9 F9 S9 s => R.mv rfl) ?_
  refine SL.step rfl rfl (CS.callP rfl go22 (fun w9 F9 S9 s => ifromP a1 n1 c1 l1 w9 (s.bs (l := l1) (by repeat (first | exact Sel.keep | exact Sel.here | apply Sel.there))) hc1 hv1)) ?_
  rintro _ _ ⟨_, ⟨d1, g1, e1, cur1, ps1, rfl, rfl⟩, rfl⟩
  refine SL.val rfl rfl (fun w9 F9 S9 s => R.mv rfl) ?_
  refine SL.val rfl rfl (fun w9 F9 S9 s => R.ext rfl rfl) ?_
  refine SL.val rfl rfl (fun w9 F9 S9 s => R.ext rfl rfl) ?_
  refine SL.val rfl rfl (fun w9 F9 S9 s => R.as rfl) ?_
  refine SL.val rfl rfl (fun w9 F9 S9 s => R.as rfl) ?_
  refine SL.nil ?_
  refine SN.seq ?_
  refine SG.seq ?_
  refine SG.region ?_
  refine SL.val rfl rfl (fun w9 F9 S9 s => R.mv rfl) ?_
  refine SL.val rfl rfl (fun w9 F9 S9 s => R.mv rfl) ?_
  refine SL.val rfl rfl (fun w9 F9 S9 s => R.mv rfl) ?_
  refine SL.val rfl rfl (fun w9 F9 S9 s => R.eqI rfl rfl) ?_
  refine SL.val rfl rfl (fun w9 F9 S9 s => R.mv rfl) ?_
  refine SL.isT 25 rfl (decide_eq_true (by decide)) ?_
  refine SL.val rfl rfl (fun w9 F9 S9 s => R.mv rfl) ?_
  refine SL.val rfl rfl (fun w9 F9 S9 s => R.eqI rfl rfl) ?_
  first | refine SL.val rfl rfl (fun w9 F9 S9 s => R.pickT rfl rfl) ?_ | refine SL.val rfl rfl (fun w9 F9 S9 s => R.pickF rfl rfl) ?_
  refine SL.val rfl rfl (fun w9 F9 S9 s => R.as rfl) ?_
  refine SL.val rfl rfl (fun w9 F9 S9 s => R.as rfl) ?_
  refine SL.val rfl rfl (fun w9 F9 S9 s => R.as rfl) ?_
  refine SL.nil ?_
  refine SN.imp (Imp.both (p := fun w => DiskL w d0 g0 e0 cur0 ps0 l0) (q := fun w => DiskL w d1 g1 e1 cur1 ps1 l1) (by repeat (first | exact Sel.keep | exact Sel.here | apply Sel.there)) (by repeat (first | exact Sel.keep | exact Sel.here | apply Sel.there))) ?_
  refine SN.seq ?_
  exact SG.ret3 rfl rfl rfl rfl ((show Imp _ [sh (fun w => DiskL w d0 g0 e0 cur0 ps0 l0 ∧ DiskL w d1 g1 e1 cur1 ps1 l1)] from (Imp.sels (by repeat (first | exact Sels.nil | apply Sels.cons | exact Sel.keep | exact Sel.here | apply Sel.there))))) (⟨_, ⟨d0, g0, e0, cur0, ps0, d1, g1, e1, cur1, ps1, rfl, rfl⟩, rfl⟩)

theorem disks_yn (a0 a1 : Option Addr) (n0 n1 c0 c1 : Nat) (l0 l1 : List UInt8) (w : World) (hb0 : Bs w a0 n0 l0) (hc0 : n0 ≤ c0) (hb1 : Bs w a1 n1 l1) (hc1 : n1 ≤ c1) (hm : n0 ≤ 140737488351232 ∧ n1 ≤ 140737488351232) (hv0 : l0.length = 64 * Image.dn l0 ∧ 1 ≤ Image.dn l0 ∧ Image.dn l0 ≤ 64) (hv1 : ¬ (l1.length = 64 * Image.dn l1 ∧ 1 ≤ Image.dn l1 ∧ Image.dn l1 ≤ 64)) : Meets Try.prog 7 [.slice a0 n0 c0, .slice a1 n1 c1] w (fun v w' => ∃ p : World → Prop, (∃ q0 q1 : Option Addr, v = .tuple #[.pointer q0, .pointer q1, .bool false] ∧ p = fun _ => True) ∧ Ext [] w w' ∧ ∀ w'', Ext [] w' w'' → p w'') := by
  refine Meets.lawP (φ := fun v p => ∃ q0 q1 : Option Addr, v = .tuple #[.pointer q0, .pointer q1, .bool false] ∧ p = fun _ => True) Try.func7 rfl 29 rfl (Nat.le_of_ble_eq_true rfl) (law_bs (hb0) (law_bs (hb1) (law_nil w))) ?_
  refine SG.seq ?_
  refine SG.region ?_
  refine SL.val rfl rfl (fun w9 F9 S9 s => R.as rfl) ?_
  refine SL.val rfl rfl (fun w9 F9 S9 s => R.as rfl) ?_
  refine SL.val rfl rfl (fun w9 F9 S9 s => R.as rfl) ?_
  refine SL.nil ?_
  refine SN.seq ?_
  refine SG.seq ?_
  refine SG.region ?_
  refine SL.val rfl rfl (fun w9 F9 S9 s => R.mv rfl) ?_
  refine SL.step rfl rfl (CS.callP rfl go22 (fun w9 F9 S9 s => ifromP a0 n0 c0 l0 w9 (s.bs (l := l0) (by repeat (first | exact Sel.keep | exact Sel.here | apply Sel.there))) hc0 hv0)) ?_
  rintro _ _ ⟨_, ⟨d0, g0, e0, cur0, ps0, rfl, rfl⟩, rfl⟩
  refine SL.val rfl rfl (fun w9 F9 S9 s => R.mv rfl) ?_
  refine SL.val rfl rfl (fun w9 F9 S9 s => R.ext rfl rfl) ?_
  refine SL.val rfl rfl (fun w9 F9 S9 s => R.ext rfl rfl) ?_
  refine SL.val rfl rfl (fun w9 F9 S9 s => R.as rfl) ?_
  refine SL.val rfl rfl (fun w9 F9 S9 s => R.as rfl) ?_
  refine SL.nil ?_
  refine SN.seq ?_
  refine SG.seq ?_
  refine SG.region ?_
  refine SL.val rfl rfl (fun w9 F9 S9 s => R.mv rfl) ?_
  refine SL.step rfl rfl (CS.callR rfl go22 (fun w9 F9 S9 s => ifromE a1 n1 c1 l1 w9 (s.bs (l := l1) (by repeat (first | exact Sel.keep | exact Sel.here | apply Sel.there))) hm.2 hv1)) ?_
  rintro _ _ ⟨rfl, rfl⟩
  refine SL.val rfl rfl (fun w9 F9 S9 s => R.mv rfl) ?_
  refine SL.val rfl rfl (fun w9 F9 S9 s => R.ext rfl rfl) ?_
  refine SL.val rfl rfl (fun w9 F9 S9 s => R.ext rfl rfl) ?_
  refine SL.val rfl rfl (fun w9 F9 S9 s => R.as rfl) ?_
  refine SL.val rfl rfl (fun w9 F9 S9 s => R.as rfl) ?_
  refine SL.nil ?_
  refine SN.seq ?_
  refine SG.seq ?_
  refine SG.region ?_
  refine SL.val rfl rfl (fun w9 F9 S9 s => R.mv rfl) ?_
  refine SL.val rfl rfl (fun w9 F9 S9 s => R.mv rfl) ?_
  refine SL.val rfl rfl (fun w9 F9 S9 s => R.mv rfl) ?_
  refine SL.val rfl rfl (fun w9 F9 S9 s => R.eqI rfl rfl) ?_
  refine SL.val rfl rfl (fun w9 F9 S9 s => R.mv rfl) ?_
  refine SL.isT 25 rfl (decide_eq_true (by decide)) ?_
  refine SL.val rfl rfl (fun w9 F9 S9 s => R.mv rfl) ?_
  refine SL.val rfl rfl (fun w9 F9 S9 s => R.eqI rfl rfl) ?_
  first | refine SL.val rfl rfl (fun w9 F9 S9 s => R.pickT rfl rfl) ?_ | refine SL.val rfl rfl (fun w9 F9 S9 s => R.pickF rfl rfl) ?_
  refine SL.val rfl rfl (fun w9 F9 S9 s => R.as rfl) ?_
  refine SL.val rfl rfl (fun w9 F9 S9 s => R.as rfl) ?_
  refine SL.val rfl rfl (fun w9 F9 S9 s => R.as rfl) ?_
  refine SL.nil ?_
  refine SN.seq ?_
  exact SG.ret3 rfl rfl rfl rfl ((show Imp _ [sh (fun _ => True)] from Imp.trans (Imp.pure (p := fun _ => True) (fun _ => trivial)) (Imp.sels (by repeat (first | exact Sels.nil | apply Sels.cons | exact Sel.keep | exact Sel.here | apply Sel.there))))) (⟨_, ⟨_, _, rfl, rfl⟩, rfl⟩)

theorem disks_ny (a0 a1 : Option Addr) (n0 n1 c0 c1 : Nat) (l0 l1 : List UInt8) (w : World) (hb0 : Bs w a0 n0 l0) (hc0 : n0 ≤ c0) (hb1 : Bs w a1 n1 l1) (hc1 : n1 ≤ c1) (hm : n0 ≤ 140737488351232 ∧ n1 ≤ 140737488351232) (hv0 : ¬ (l0.length = 64 * Image.dn l0 ∧ 1 ≤ Image.dn l0 ∧ Image.dn l0 ≤ 64)) (hv1 : l1.length = 64 * Image.dn l1 ∧ 1 ≤ Image.dn l1 ∧ Image.dn l1 ≤ 64) : Meets Try.prog 7 [.slice a0 n0 c0, .slice a1 n1 c1] w (fun v w' => ∃ p : World → Prop, (∃ q0 q1 : Option Addr, v = .tuple #[.pointer q0, .pointer q1, .bool false] ∧ p = fun _ => True) ∧ Ext [] w w' ∧ ∀ w'', Ext [] w' w'' → p w'') := by
  refine Meets.lawP (φ := fun v p => ∃ q0 q1 : Option Addr, v = .tuple #[.pointer q0, .pointer q1, .bool false] ∧ p = fun _ => True) Try.func7 rfl 29 rfl (Nat.le_of_ble_eq_true rfl) (law_bs (hb0) (law_bs (hb1) (law_nil w))) ?_
  refine SG.seq ?_
  refine SG.region ?_
  refine SL.val rfl rfl (fun w9 F9 S9 s => R.as rfl) ?_
  refine SL.val rfl rfl (fun w9 F9 S9 s => R.as rfl) ?_
  refine SL.val rfl rfl (fun w9 F9 S9 s => R.as rfl) ?_
  refine SL.nil ?_
  refine SN.seq ?_
  refine SG.seq ?_
  refine SG.region ?_
  refine SL.val rfl rfl (fun w9 F9 S9 s => R.mv rfl) ?_
  refine SL.step rfl rfl (CS.callR rfl go22 (fun w9 F9 S9 s => ifromE a0 n0 c0 l0 w9 (s.bs (l := l0) (by repeat (first | exact Sel.keep | exact Sel.here | apply Sel.there))) hm.1 hv0)) ?_
  rintro _ _ ⟨rfl, rfl⟩
  refine SL.val rfl rfl (fun w9 F9 S9 s => R.mv rfl) ?_
  refine SL.val rfl rfl (fun w9 F9 S9 s => R.ext rfl rfl) ?_
  refine SL.val rfl rfl (fun w9 F9 S9 s => R.ext rfl rfl) ?_
  refine SL.val rfl rfl (fun w9 F9 S9 s => R.as rfl) ?_
  refine SL.val rfl rfl (fun w9 F9 S9 s => R.as rfl) ?_
  refine SL.nil ?_
  refine SN.seq ?_
  refine SG.seq ?_
  refine SG.region ?_
  refine SL.val rfl rfl (fun w9 F9 S9 s => R.mv rfl) ?_
  refine SL.step rfl rfl (CS.callP rfl go22 (fun w9 F9 S9 s => ifromP a1 n1 c1 l1 w9 (s.bs (l := l1) (by repeat (first | exact Sel.keep | exact Sel.here | apply Sel.there))) hc1 hv1)) ?_
  rintro _ _ ⟨_, ⟨d1, g1, e1, cur1, ps1, rfl, rfl⟩, rfl⟩
  refine SL.val rfl rfl (fun w9 F9 S9 s => R.mv rfl) ?_
  refine SL.val rfl rfl (fun w9 F9 S9 s => R.ext rfl rfl) ?_
  refine SL.val rfl rfl (fun w9 F9 S9 s => R.ext rfl rfl) ?_
  refine SL.val rfl rfl (fun w9 F9 S9 s => R.as rfl) ?_
  refine SL.val rfl rfl (fun w9 F9 S9 s => R.as rfl) ?_
  refine SL.nil ?_
  refine SN.seq ?_
  refine SG.seq ?_
  refine SG.region ?_
  refine SL.val rfl rfl (fun w9 F9 S9 s => R.mv rfl) ?_
  refine SL.val rfl rfl (fun w9 F9 S9 s => R.mv rfl) ?_
  refine SL.val rfl rfl (fun w9 F9 S9 s => R.mv rfl) ?_
  refine SL.val rfl rfl (fun w9 F9 S9 s => R.eqI rfl rfl) ?_
  refine SL.val rfl rfl (fun w9 F9 S9 s => R.mv rfl) ?_
  refine SL.isF 25 rfl (decide_eq_false (by decide)) ?_
  refine SL.pass rfl rfl ?_
  refine SL.pass rfl rfl ?_
  first | refine SL.val rfl rfl (fun w9 F9 S9 s => R.pickT rfl rfl) ?_ | refine SL.val rfl rfl (fun w9 F9 S9 s => R.pickF rfl rfl) ?_
  refine SL.val rfl rfl (fun w9 F9 S9 s => R.as rfl) ?_
  refine SL.val rfl rfl (fun w9 F9 S9 s => R.as rfl) ?_
  refine SL.val rfl rfl (fun w9 F9 S9 s => R.as rfl) ?_
  refine SL.nil ?_
  refine SN.seq ?_
  exact SG.ret3 rfl rfl rfl rfl ((show Imp _ [sh (fun _ => True)] from Imp.trans (Imp.pure (p := fun _ => True) (fun _ => trivial)) (Imp.sels (by repeat (first | exact Sels.nil | apply Sels.cons | exact Sel.keep | exact Sel.here | apply Sel.there))))) (⟨_, ⟨_, _, rfl, rfl⟩, rfl⟩)

theorem disks_nn (a0 a1 : Option Addr) (n0 n1 c0 c1 : Nat) (l0 l1 : List UInt8) (w : World) (hb0 : Bs w a0 n0 l0) (hc0 : n0 ≤ c0) (hb1 : Bs w a1 n1 l1) (hc1 : n1 ≤ c1) (hm : n0 ≤ 140737488351232 ∧ n1 ≤ 140737488351232) (hv0 : ¬ (l0.length = 64 * Image.dn l0 ∧ 1 ≤ Image.dn l0 ∧ Image.dn l0 ≤ 64)) (hv1 : ¬ (l1.length = 64 * Image.dn l1 ∧ 1 ≤ Image.dn l1 ∧ Image.dn l1 ≤ 64)) : Meets Try.prog 7 [.slice a0 n0 c0, .slice a1 n1 c1] w (fun v w' => ∃ p : World → Prop, (∃ q0 q1 : Option Addr, v = .tuple #[.pointer q0, .pointer q1, .bool false] ∧ p = fun _ => True) ∧ Ext [] w w' ∧ ∀ w'', Ext [] w' w'' → p w'') := by
  refine Meets.lawP (φ := fun v p => ∃ q0 q1 : Option Addr, v = .tuple #[.pointer q0, .pointer q1, .bool false] ∧ p = fun _ => True) Try.func7 rfl 29 rfl (Nat.le_of_ble_eq_true rfl) (law_bs (hb0) (law_bs (hb1) (law_nil w))) ?_
  refine SG.seq ?_
  refine SG.region ?_
  refine SL.val rfl rfl (fun w9 F9 S9 s => R.as rfl) ?_
  refine SL.val rfl rfl (fun w9 F9 S9 s => R.as rfl) ?_
  refine SL.val rfl rfl (fun w9 F9 S9 s => R.as rfl) ?_
  refine SL.nil ?_
  refine SN.seq ?_
  refine SG.seq ?_
  refine SG.region ?_
  refine SL.val rfl rfl (fun w9 F9 S9 s => R.mv rfl) ?_
  refine SL.step rfl rfl (CS.callR rfl go22 (fun w9 F9 S9 s => ifromE a0 n0 c0 l0 w9 (s.bs (l := l0) (by repeat (first | exact Sel.keep | exact Sel.here | apply Sel.there))) hm.1 hv0)) ?_
  rintro _ _ ⟨rfl, rfl⟩
  refine SL.val rfl rfl (fun w9 F9 S9 s => R.mv rfl) ?_
  refine SL.val rfl rfl (fun w9 F9 S9 s => R.ext rfl rfl) ?_
  refine SL.val rfl rfl (fun w9 F9 S9 s => R.ext rfl rfl) ?_
  refine SL.val rfl rfl (fun w9 F9 S9 s => R.as rfl) ?_
  refine SL.val rfl rfl (fun w9 F9 S9 s => R.as rfl) ?_
  refine SL.nil ?_
  refine SN.seq ?_
  refine SG.seq ?_
  refine SG.region ?_
  refine SL.val rfl rfl (fun w9 F9 S9 s => R.mv rfl) ?_
  refine SL.step rfl rfl (CS.callR rfl go22 (fun w9 F9 S9 s => ifromE a1 n1 c1 l1 w9 (s.bs (l := l1) (by repeat (first | exact Sel.keep | exact Sel.here | apply Sel.there))) hm.2 hv1)) ?_
  rintro _ _ ⟨rfl, rfl⟩
  refine SL.val rfl rfl (fun w9 F9 S9 s => R.mv rfl) ?_
  refine SL.val rfl rfl (fun w9 F9 S9 s => R.ext rfl rfl) ?_
  refine SL.val rfl rfl (fun w9 F9 S9 s => R.ext rfl rfl) ?_
  refine SL.val rfl rfl (fun w9 F9 S9 s => R.as rfl) ?_
  refine SL.val rfl rfl (fun w9 F9 S9 s => R.as rfl) ?_
  refine SL.nil ?_
  refine SN.seq ?_
  refine SG.seq ?_
  refine SG.region ?_
  refine SL.val rfl rfl (fun w9 F9 S9 s => R.mv rfl) ?_
  refine SL.val rfl rfl (fun w9 F9 S9 s => R.mv rfl) ?_
  refine SL.val rfl rfl (fun w9 F9 S9 s => R.mv rfl) ?_
  refine SL.val rfl rfl (fun w9 F9 S9 s => R.eqI rfl rfl) ?_
  refine SL.val rfl rfl (fun w9 F9 S9 s => R.mv rfl) ?_
  refine SL.isF 25 rfl (decide_eq_false (by decide)) ?_
  refine SL.pass rfl rfl ?_
  refine SL.pass rfl rfl ?_
  first | refine SL.val rfl rfl (fun w9 F9 S9 s => R.pickT rfl rfl) ?_ | refine SL.val rfl rfl (fun w9 F9 S9 s => R.pickF rfl rfl) ?_
  refine SL.val rfl rfl (fun w9 F9 S9 s => R.as rfl) ?_
  refine SL.val rfl rfl (fun w9 F9 S9 s => R.as rfl) ?_
  refine SL.val rfl rfl (fun w9 F9 S9 s => R.as rfl) ?_
  refine SL.nil ?_
  refine SN.seq ?_
  exact SG.ret3 rfl rfl rfl rfl ((show Imp _ [sh (fun _ => True)] from Imp.trans (Imp.pure (p := fun _ => True) (fun _ => trivial)) (Imp.sels (by repeat (first | exact Sels.nil | apply Sels.cons | exact Sel.keep | exact Sel.here | apply Sel.there))))) (⟨_, ⟨_, _, rfl, rfl⟩, rfl⟩)

theorem disks_no (a0 a1 : Option Addr) (n0 n1 c0 c1 : Nat) (l0 l1 : List UInt8) (w : World) (hb0 : Bs w a0 n0 l0) (hc0 : n0 ≤ c0) (hb1 : Bs w a1 n1 l1) (hc1 : n1 ≤ c1) (hm : n0 ≤ 140737488351232 ∧ n1 ≤ 140737488351232) (hv : ¬ ((l0.length = 64 * Image.dn l0 ∧ 1 ≤ Image.dn l0 ∧ Image.dn l0 ≤ 64) ∧ (l1.length = 64 * Image.dn l1 ∧ 1 ≤ Image.dn l1 ∧ Image.dn l1 ≤ 64))) : Meets Try.prog 7 [.slice a0 n0 c0, .slice a1 n1 c1] w (fun v w' => ∃ p : World → Prop, (∃ q0 q1 : Option Addr, v = .tuple #[.pointer q0, .pointer q1, .bool false] ∧ p = fun _ => True) ∧ Ext [] w w' ∧ ∀ w'', Ext [] w' w'' → p w'') := by
  by_cases hv0 : l0.length = 64 * Image.dn l0 ∧ 1 ≤ Image.dn l0 ∧ Image.dn l0 ≤ 64
  · by_cases hv1 : l1.length = 64 * Image.dn l1 ∧ 1 ≤ Image.dn l1 ∧ Image.dn l1 ≤ 64
    · exact (hv ⟨hv0, hv1⟩).elim
    · exact disks_yn a0 a1 n0 n1 c0 c1 l0 l1 w hb0 hc0 hb1 hc1 hm hv0 hv1
  · by_cases hv1 : l1.length = 64 * Image.dn l1 ∧ 1 ≤ Image.dn l1 ∧ Image.dn l1 ≤ 64
    · exact disks_ny a0 a1 n0 n1 c0 c1 l0 l1 w hb0 hc0 hb1 hc1 hm hv0 hv1
    · exact disks_nn a0 a1 n0 n1 c0 c1 l0 l1 w hb0 hc0 hb1 hc1 hm hv0 hv1

end Go.Proofs.Yteaihincmfbblaa
/-
  The walks of package patch.
-/
set_option linter.unusedVariables false
set_option linter.unusedSimpArgs false
set_option maxRecDepth 4000
namespace Go.Proofs.Yteaihincmfbblaa
open Go Brv Brv.Pack Brv.Shrink Brv.Patch
theorem St.ownBs {H H' : List Asn} {E k c : Nat} {a : Option Addr} {l : List UInt8} {F S : List Nat} {w : World} (s : St H F S w) (h : Sel H (own E 1 a k c (vbs l)) H') : Bs w a k l := (s.own h).elim fun _ h => by
  have hl := h.len
  rw [vbs_length] at hl
  obtain rfl : k = l.length := by omega
  exact Bs.of_own h

end Go.Proofs.Yteaihincmfbblaa
/-
  The walks of package patch.
-/
set_option linter.unusedVariables false
set_option linter.unusedSimpArgs false
set_option maxRecDepth 4000
namespace Go.Proofs.Yteaihincmfbblaa
open Go Brv Brv.Pack Brv.Shrink Brv.Patch
structure ChS where
  i : Nat
  d : Nat
  g : Nat
  e : Nat
  cur : Array Value
  ps : List Nat
  y : List UInt8
theorem chain_drop {R : List UInt8 → Nat} {y : List UInt8} {rs : List BRow} {i : Nat} {r : BRow} (h : rs[i]? = some r) : chainF R y ((rs.map BRow.l).drop i) = chainF R y (r.l :: (rs.map BRow.l).drop (i + 1)) := by
  have h2 : (rs.map BRow.l)[i]? = some r.l := by rw [List.getElem?_map, h]; rfl
  obtain ⟨h3, h4⟩ := List.getElem?_eq_some_iff.1 h2
  rw [List.drop_eq_getElem_cons h3, h4]
theorem chain_err {R : List UInt8 → Nat} {y p : List UInt8} {ps : List (List UInt8)} (h : (applyF R y p).2 ≠ 0) : chainF R y (p :: ps) = (y, 0, (applyF R y p).2) := by rw [chainF, if_pos h]
theorem chain_go {R : List UInt8 → Nat} {y p : List UInt8} {ps : List (List UInt8)} (h : (applyF R y p).2 = 0) : chainF R y (p :: ps) = ((chainF R (applyF R y p).1 ps).1, (chainF R (applyF R y p).1 ps).2.1 + 1, (chainF R (applyF R y p).1 ps).2.2) := by rw [chainF, if_neg (by rw [h]; decide)]
theorem chain_snoc (R : List UInt8 → Nat) (p : List UInt8) : ∀ (ps : List (List UInt8)) (x : List UInt8), chainF R x (ps ++ [p]) = if (chainF R x ps).2.2 ≠ 0 then chainF R x ps else if (applyF R (chainF R x ps).1 p).2 ≠ 0 then ((chainF R x ps).1, (chainF R x ps).2.1, (applyF R (chainF R x ps).1 p).2) else ((applyF R (chainF R x ps).1 p).1, (chainF R x ps).2.1 + 1, 0)
  | [], x => by
    show chainF R x [p] = if (0 : Int) ≠ 0 then _ else if (applyF R x p).2 ≠ 0 then (x, 0, (applyF R x p).2) else ((applyF R x p).1, 0 + 1, 0)
    rw [if_neg (by decide)]
    by_cases h : (applyF R x p).2 = 0
    · rw [chain_go h, if_neg (by rw [h]; decide)]; rfl
    · rw [chain_err h, if_pos h]
  | q :: ps, x => by
    rw [List.cons_append]
    by_cases h : (applyF R x q).2 = 0
    · rw [chain_go h, chain_go h, chain_snoc R p ps]
      simp only
      split
      · rfl
      · split <;> rfl
    · rw [chain_err h, chain_err h, if_pos h]
theorem apply_len {R : List UInt8 → Nat} {x l : List UInt8} (hx : x.length = 64 * Image.dn x) (h : (applyF R x l).2 = 0) : (applyF R x l).1.length = x.length := by
  cases hq : parseF l with
  | none => unfold applyF at h; rw [hq] at h; cases h
  | some q =>
    unfold applyF at h ⊢
    rw [hq] at h ⊢
    simp only at h ⊢
    split at h
    · cases h
    · rename_i h1; rw [if_neg h1]; split at h
      · cases h
      · rename_i h2; rw [if_neg h2]; split at h
        · cases h
        · rename_i h3; rw [if_neg h3]
          exact Image.withF_length (x := x) (with_ok hx (undo_in hq (by omega)))
theorem chain_len {R : List UInt8 → Nat} : ∀ (ps : List (List UInt8)) {x : List UInt8}, x.length = 64 * Image.dn x → (chainF R x ps).1.length = x.length
  | [], x, _ => rfl
  | p :: ps, x, hx => by
    by_cases h : (applyF R x p).2 = 0
    · rw [chain_go h]
      have hl := apply_len hx h
      have hd : Image.dn (applyF R x p).1 = Image.dn x := by unfold Image.dn; rw [hl]
      show (chainF R (applyF R x p).1 ps).1.length = _
      rw [chain_len ps (by rw [hl, hd]; exact hx), hl]
    · rw [chain_err h]
theorem chain_cnt {R : List UInt8 → Nat} : ∀ (ps : List (List UInt8)) (x : List UInt8), (chainF R x ps).2.1 ≤ ps.length
  | [], x => Nat.le_refl _
  | p :: ps, x => by
    by_cases h : (applyF R x p).2 = 0
    · rw [chain_go h]
      have := chain_cnt (R := R) ps (applyF R x p).1
      show (chainF R (applyF R x p).1 ps).2.1 + 1 ≤ ps.length + 1
      omega
    · rw [chain_err h]; exact Nat.zero_le _

set_option maxHeartbeats 1000000 in
theorem chain_ok (d g e : Nat) (cur : Array Value) (ps : List Nat) (x : List UInt8) (la : Option Addr) (lc : Nat) (rs : List BRow) (w : World) (hd : DiskL w d g e cur ps x) (hr0 : Cells w la (rs.map BRow.val) ∧ ∀ r ∈ rs, BRow.ok w r) (hn : rs.length ≤ 1000) (hsm : ∀ r ∈ rs, r.n ≤ 1000000) : Meets Try.prog 19 [.pointer (some ⟨d, 0, none⟩), .slice la rs.length lc] w (fun v w' => ∃ p : World → Prop, (∃ d2 g2 e2 cur2 ps2, v = .tuple #[.pointer (some ⟨d2, 0, none⟩), .int .i64 ((chainF rootD x (rs.map BRow.l)).2.1 : Int), .int .i64 (chainF rootD x (rs.map BRow.l)).2.2] ∧ p = fun w => DiskL w d2 g2 e2 cur2 ps2 (chainF rootD x (rs.map BRow.l)).1) ∧ Ext [] w w' ∧ ∀ w'', Ext [] w' w'' → p w'') := by
  refine Meets.lawP (φ := fun v p => ∃ d2 g2 e2 cur2 ps2, v = .tuple #[.pointer (some ⟨d2, 0, none⟩), .int .i64 ((chainF rootD x (rs.map BRow.l)).2.1 : Int), .int .i64 (chainF rootD x (rs.map BRow.l)).2.2] ∧ p = fun w => DiskL w d2 g2 e2 cur2 ps2 (chainF rootD x (rs.map BRow.l)).1) Try.func19 rfl 34 rfl (Nat.le_of_ble_eq_true rfl) (law_cons (p := fun w => DiskL w d g e cur ps x) (fun w9 he => hd.ext0 he) (law_cons (p := (fun w => Cells w la (rs.map BRow.val) ∧ ∀ r ∈ rs, BRow.ok w r)) (fun w9 he => ⟨hr0.1.ext0 he, fun r hr => (hr0.2 r hr).ext0 he⟩) (law_nil w))) ?_
  refine SG.seq ?_
  refine SG.region ?_
  refine SL.val rfl rfl (fun w9 F9 S9 s => R.as rfl) ?_
  refine SL.val rfl rfl (fun w9 F9 S9 s => R.as rfl) ?_
  refine SL.val rfl rfl (fun w9 F9 S9 s => R.as rfl) ?_
  refine SL.nil ?_
  refine SN.seq ?_
  refine SG.seq ?_
  refine SG.seq ?_
  refine SG.region ?_
  refine SL.val rfl rfl (fun w9 F9 S9 s => R.mv rfl) ?_
  refine SL.val rfl rfl (fun w9 F9 S9 s => R.lenS rfl) ?_
  refine SL.val rfl rfl (fun w9 F9 S9 s => R.mv rfl) ?_
  refine SL.nil ?_
  refine SN.seq ?_
  refine SG.block ?_
  refine SG.loop (X := ChS) (fun z => [(0, .pointer (some ⟨z.d, 0, none⟩)), (1, .slice la rs.length lc), (11, .slice la rs.length lc), (12, .int .i64 (rs.length : Int)), (13, .int .i64 (z.i : Int))]) (fun z => [sh (fun w => DiskL w z.d z.g z.e z.cur z.ps z.y), sh (fun w => Cells w la (rs.map BRow.val) ∧ ∀ r ∈ rs, BRow.ok w r)]) (fun z => z.i ≤ rs.length ∧ chainF rootD x (rs.map BRow.l) = ((chainF rootD z.y ((rs.map BRow.l).drop z.i)).1, (chainF rootD z.y ((rs.map BRow.l).drop z.i)).2.1 + z.i, (chainF rootD z.y ((rs.map BRow.l).drop z.i)).2.2)) (fun z => rs.length - z.i) (⟨0, d, g, e, cur, ps, x⟩) (Sub.cons rfl (Sub.cons rfl (Sub.cons rfl (Sub.cons rfl (Sub.cons rfl (Sub.nil _)))))) ((Imp.sels (by repeat (first | exact Sels.nil | apply Sels.cons | exact Sel.keep | exact Sel.here | apply Sel.there)))) (⟨Nat.zero_le _, rfl⟩) ?_
  rintro ⟨i, d, g, e, cur, ps, y⟩ ⟨hi, hinv⟩
  dsimp only at hi hinv
  show SG _ _ _ _ _ [(0, .pointer (some ⟨d, 0, none⟩)), (1, .slice la rs.length lc), (11, .slice la rs.length lc), (12, .int .i64 (rs.length : Int)), (13, .int .i64 (i : Int))] [sh (fun w => DiskL w d g e cur ps y), sh (fun w => Cells w la (rs.map BRow.val) ∧ ∀ r ∈ rs, BRow.ok w r)] _
  refine SG.seq ?_
  refine SG.region ?_
  refine SL.val rfl rfl (fun w9 F9 S9 s => R.lss rfl rfl) ?_
  refine SL.nil ?_
  refine SN.seq ?_
  refine SG.seq ?_
  refine SG.condP rfl (fun h0 => ?_) (fun h0 => ?_)
  · obtain ⟨r, hr⟩ : ∃ r, rs[i]? = some r := ⟨_, List.getElem?_eq_getElem (by omega)⟩
    have hrm := List.mem_of_getElem? hr
    refine SG.fact (fun w9 F9 S9 s => brow_pt (s.sh (p := (fun w => Cells w la (rs.map BRow.val) ∧ ∀ r ∈ rs, BRow.ok w r)) (by repeat (first | exact Sel.keep | exact Sel.here | apply Sel.there))).1 hr) (fun hf9 => ?_)
    obtain ⟨q, hq⟩ := hf9
    refine SG.fact (fun w9 F9 S9 s => ((s.sh (p := (fun w => Cells w la (rs.map BRow.val) ∧ ∀ r ∈ rs, BRow.ok w r)) (by repeat (first | exact Sel.keep | exact Sel.here | apply Sel.there))).2 r hrm).1) (fun hf9 => ?_)
    have hro := hf9; clear hf9
    have hrs := hsm r hrm
    rw [chain_drop hr] at hinv
    refine SG.imp (Imp.weak (p := (fun w => Cells w la (rs.map BRow.val) ∧ ∀ r ∈ rs, BRow.ok w r)) (q := fun w => Bs w r.a r.n r.l) (by repeat (first | exact Sel.keep | exact Sel.here | apply Sel.there)) (fun w h => (h.2 r hrm).2)) ?_
    refine SG.skip ?_
    refine SN.seq ?_
    refine SG.seq ?_
    refine SG.block ?_
    refine SG.seq ?_
    refine SG.region ?_
    refine SL.val rfl rfl (fun w9 F9 S9 s => R.mv rfl) ?_
    refine SL.val rfl rfl (fun w9 F9 S9 s => R.idx rfl rfl (by omega) (by omega) q hq) ?_
    refine SL.val rfl rfl (fun w9 F9 S9 s => R.ld (v := .slice r.a r.n r.c) rfl (brow_ld (s.sh (p := (fun w => Cells w la (rs.map BRow.val) ∧ ∀ r ∈ rs, BRow.ok w r)) (by repeat (first | exact Sel.keep | exact Sel.here | apply Sel.there))).1 hq hr)) ?_
    refine SL.val rfl rfl (fun w9 F9 S9 s => R.as rfl) ?_
    refine SL.val rfl rfl (fun w9 F9 S9 s => R.as rfl) ?_
    refine SL.nil ?_
    refine SN.seq ?_
    refine SG.seq ?_
    by_cases he : (applyF rootD y r.l).2 = 0
    · refine SG.region ?_
      refine SL.val rfl rfl (fun w9 F9 S9 s => R.mv rfl) ?_
      refine SL.val rfl rfl (fun w9 F9 S9 s => R.mv rfl) ?_
      refine SL.step rfl rfl (CS.callP rfl go9 (fun w9 F9 S9 s => applyY d g e cur ps y r.a r.n r.c r.l w9 (s.sh (p := fun w => DiskL w d g e cur ps y) (by repeat (first | exact Sel.keep | exact Sel.here | apply Sel.there))) (s.bs (a := r.a) (l := r.l) (by repeat (first | exact Sel.keep | exact Sel.here | apply Sel.there))) hro.1 (by omega) he)) ?_
      rintro _ _ ⟨_, ⟨d2, g2, e2, cur2, ps2, rfl, rfl⟩, rfl⟩
      refine SL.val rfl rfl (fun w9 F9 S9 s => R.mv rfl) ?_
      refine SL.val rfl rfl (fun w9 F9 S9 s => R.ext rfl rfl) ?_
      refine SL.val rfl rfl (fun w9 F9 S9 s => R.ext rfl rfl) ?_
      refine SL.val rfl rfl (fun w9 F9 S9 s => R.as rfl) ?_
      refine SL.val rfl rfl (fun w9 F9 S9 s => R.as rfl) ?_
      refine SL.nil ?_
      refine SN.seq ?_
      refine SG.seq ?_
      refine SG.seq ?_
      refine SG.region ?_
      refine SL.val rfl rfl (fun w9 F9 S9 s => R.mv rfl) ?_
      refine SL.val rfl rfl (fun w9 F9 S9 s => R.neI rfl rfl) ?_
      refine SL.nil ?_
      refine SN.seq ?_
      refine SG.condP rfl (fun h1 => ?_) (fun h1 => ?_)
      · exact absurd rfl h1
      · have hinv2 : chainF rootD x (rs.map BRow.l) = ((chainF rootD (applyF rootD y r.l).1 ((rs.map BRow.l).drop (i + 1))).1, (chainF rootD (applyF rootD y r.l).1 ((rs.map BRow.l).drop (i + 1))).2.1 + (i + 1), (chainF rootD (applyF rootD y r.l).1 ((rs.map BRow.l).drop (i + 1))).2.2) := by
          rw [hinv, chain_go he]
          exact Prod.ext rfl (Prod.ext (by show _ + 1 + i = _ + (i + 1); omega) rfl)
        refine SG.skip ?_
        refine SN.seq ?_
        refine SG.region ?_
        refine SL.val rfl rfl (fun w9 F9 S9 s => R.mv rfl) ?_
        refine SL.val rfl rfl (fun w9 F9 S9 s => R.as rfl) ?_
        refine SL.nil ?_
        refine SN.block ?_
        refine SN.seq ?_
        refine SG.region ?_
        refine SL.val rfl rfl (fun w9 F9 S9 s => R.add rfl rfl (by omega)) ?_
        refine SL.val rfl rfl (fun w9 F9 S9 s => R.mv rfl) ?_
        refine SL.nil ?_
        exact SN.again (⟨i + 1, d2, g2, e2, cur2, ps2, (applyF rootD y r.l).1⟩) (by show rs.length - (i + 1) < rs.length - i; omega) (Sub.cons rfl (Sub.cons rfl (Sub.cons rfl (Sub.cons rfl (Sub.cons rfl (Sub.nil _)))))) ((Imp.sels (by repeat (first | exact Sels.nil | apply Sels.cons | exact Sel.keep | exact Sel.here | apply Sel.there)))) (⟨by show i + 1 ≤ rs.length; omega, hinv2⟩)
    · refine SG.region ?_
      refine SL.val rfl rfl (fun w9 F9 S9 s => R.mv rfl) ?_
      refine SL.val rfl rfl (fun w9 F9 S9 s => R.mv rfl) ?_
      refine SL.step rfl rfl (CS.callR rfl go9 (fun w9 F9 S9 s => applyN d g e cur ps y r.a r.n r.c r.l w9 (s.sh (p := fun w => DiskL w d g e cur ps y) (by repeat (first | exact Sel.keep | exact Sel.here | apply Sel.there))) (s.bs (a := r.a) (l := r.l) (by repeat (first | exact Sel.keep | exact Sel.here | apply Sel.there))) hro.1 (by omega) he)) ?_
      rintro _ _ ⟨rfl, rfl⟩
      refine SL.val rfl rfl (fun w9 F9 S9 s => R.mv rfl) ?_
      refine SL.val rfl rfl (fun w9 F9 S9 s => R.ext rfl rfl) ?_
      refine SL.val rfl rfl (fun w9 F9 S9 s => R.ext rfl rfl) ?_
      refine SL.val rfl rfl (fun w9 F9 S9 s => R.as rfl) ?_
      refine SL.val rfl rfl (fun w9 F9 S9 s => R.as rfl) ?_
      refine SL.nil ?_
      refine SN.seq ?_
      refine SG.seq ?_
      refine SG.seq ?_
      refine SG.region ?_
      refine SL.val rfl rfl (fun w9 F9 S9 s => R.mv rfl) ?_
      refine SL.val rfl rfl (fun w9 F9 S9 s => R.neI rfl rfl) ?_
      refine SL.nil ?_
      refine SN.seq ?_
      refine SG.condP rfl (fun h1 => ?_) (fun h1 => ?_)
      · have hC : chainF rootD x (rs.map BRow.l) = (y, i, (applyF rootD y r.l).2) := by rw [hinv, chain_err he]; exact Prod.ext rfl (Prod.ext (Nat.zero_add i) rfl)
        refine SG.seq ?_
        refine SG.region ?_
        refine SL.val rfl rfl (fun w9 F9 S9 s => R.mv rfl) ?_
        refine SL.val rfl rfl (fun w9 F9 S9 s => R.mv rfl) ?_
        refine SL.val rfl rfl (fun w9 F9 S9 s => R.mv rfl) ?_
        refine SL.val rfl rfl (fun w9 F9 S9 s => R.as rfl) ?_
        refine SL.val rfl rfl (fun w9 F9 S9 s => R.as rfl) ?_
        refine SL.val rfl rfl (fun w9 F9 S9 s => R.as rfl) ?_
        refine SL.nil ?_
        refine SN.seq ?_
        exact SG.ret3 rfl rfl rfl rfl ((show Imp _ [sh (fun w => DiskL w d g e cur ps y)] from (Imp.sels (by repeat (first | exact Sels.nil | apply Sels.cons | exact Sel.keep | exact Sel.here | apply Sel.there))))) (⟨_, ⟨d, g, e, cur, ps, by rw [hC]; first | done | rfl, rfl⟩, by rw [hC]⟩)
      · exact (h1 he).elim
  · obtain rfl : i = rs.length := by omega
    have hC : chainF rootD x (rs.map BRow.l) = (y, rs.length, 0) := by rw [hinv, List.drop_of_length_le (by rw [List.length_map]; exact Nat.le_refl _)]; exact Prod.ext rfl (Prod.ext (Nat.zero_add _) rfl)
    refine SG.exit _ rfl ?_
    refine SN.seq ?_
    refine SG.seq ?_
    refine SG.region ?_
    refine SL.val rfl rfl (fun w9 F9 S9 s => R.mv rfl) ?_
    refine SL.val rfl rfl (fun w9 F9 S9 s => R.mv rfl) ?_
    refine SL.val rfl rfl (fun w9 F9 S9 s => R.lenS rfl) ?_
    refine SL.val rfl rfl (fun w9 F9 S9 s => R.as rfl) ?_
    refine SL.val rfl rfl (fun w9 F9 S9 s => R.as rfl) ?_
    refine SL.val rfl rfl (fun w9 F9 S9 s => R.as rfl) ?_
    refine SL.nil ?_
    refine SN.seq ?_
    exact SG.ret3 rfl rfl rfl rfl ((show Imp _ [sh (fun w => DiskL w d g e cur ps y)] from (Imp.sels (by repeat (first | exact Sels.nil | apply Sels.cons | exact Sel.keep | exact Sel.here | apply Sel.there))))) (⟨_, ⟨d, g, e, cur, ps, by rw [hC]; first | done | rfl, rfl⟩, by rw [hC]⟩)

theorem chains_no (a0 la : Option Addr) (n0 c0 lc : Nat) (l0 : List UInt8) (rs : List BRow) (w : World) (hb0 : Bs w a0 n0 l0) (hc0 : n0 ≤ c0) (hm : n0 ≤ 140737488351232) (hr0 : Cells w la (rs.map BRow.val) ∧ ∀ r ∈ rs, BRow.ok w r) (hrn : rs.length ≤ 140737488351232) (hv : ¬ (l0.length = 64 * Image.dn l0 ∧ 1 ≤ Image.dn l0 ∧ Image.dn l0 ≤ 64)) : Meets Try.prog 5 [.slice a0 n0 c0, .slice la rs.length lc] w (fun v w' => v = .bool true ∧ Ext [] w w') := by
  refine Meets.law Try.func5 rfl 80 rfl (Nat.le_of_ble_eq_true rfl) (law_bs (hb0) (law_cons (p := (fun w => Cells w la (rs.map BRow.val) ∧ ∀ r ∈ rs, BRow.ok w r)) (fun w9 he => ⟨hr0.1.ext0 he, fun r hr => (hr0.2 r hr).ext0 he⟩) (law_nil w))) ?_
  refine SG.fact (fun w9 F9 S9 s => (s.bs (a := a0) (n := n0) (l := l0) (by repeat (first | exact Sel.keep | exact Sel.here | apply Sel.there))).len) (fun hf9 => ?_)
  have hl0 := hf9; clear hf9
  refine SG.seq ?_
  refine SG.region ?_
  refine SL.val rfl rfl (fun w9 F9 S9 s => R.as rfl) ?_
  refine SL.nil ?_
  refine SN.seq ?_
  refine SG.seq ?_
  refine SG.seq ?_
  refine SG.region ?_
  refine SL.step rfl rfl (CS.callR rfl go6 (fun w9 F9 S9 s => first46_law w9)) ?_
  rintro _ _ ⟨rfl, rfl⟩
  refine SL.val rfl rfl (fun w9 F9 S9 s => R.not rfl) ?_
  refine SL.nil ?_
  refine SN.seq ?_
  refine SG.condF rfl ?_
  refine SG.skip ?_
  refine SN.seq ?_
  refine SG.seq ?_
  refine SG.region ?_
  refine SL.val rfl rfl (fun w9 F9 S9 s => R.mv rfl) ?_
  refine SL.val rfl rfl (fun w9 F9 S9 s => R.mv rfl) ?_
  refine SL.step rfl rfl (CS.callP rfl go7 (fun w9 F9 S9 s => disks_no a0 a0 n0 n0 c0 c0 l0 l0 w9 (s.bs (l := l0) (by repeat (first | exact Sel.keep | exact Sel.here | apply Sel.there))) hc0 (s.bs (l := l0) (by repeat (first | exact Sel.keep | exact Sel.here | apply Sel.there))) hc0 ⟨hm, hm⟩ (fun h9 => hv h9.1))) ?_
  rintro _ _ ⟨_, ⟨q0, q1, rfl, rfl⟩, rfl⟩
  refine SL.val rfl rfl (fun w9 F9 S9 s => R.mv rfl) ?_
  refine SL.val rfl rfl (fun w9 F9 S9 s => R.ext rfl rfl) ?_
  refine SL.val rfl rfl (fun w9 F9 S9 s => R.ext rfl rfl) ?_
  refine SL.val rfl rfl (fun w9 F9 S9 s => R.ext rfl rfl) ?_
  refine SL.val rfl rfl (fun w9 F9 S9 s => R.as rfl) ?_
  refine SL.val rfl rfl (fun w9 F9 S9 s => R.as rfl) ?_
  refine SL.val rfl rfl (fun w9 F9 S9 s => R.as rfl) ?_
  refine SL.nil ?_
  refine SN.seq ?_
  refine SG.seq ?_
  refine SG.seq ?_
  refine SG.region ?_
  refine SL.val rfl rfl (fun w9 F9 S9 s => R.mv rfl) ?_
  refine SL.val rfl rfl (fun w9 F9 S9 s => R.not rfl) ?_
  refine SL.val rfl rfl (fun w9 F9 S9 s => R.mv rfl) ?_
  refine SL.pass rfl rfl ?_
  refine SL.pass rfl rfl ?_
  refine SL.pass rfl rfl ?_
  first | refine SL.val rfl rfl (fun w9 F9 S9 s => R.pickT rfl rfl) ?_ | refine SL.val rfl rfl (fun w9 F9 S9 s => R.pickF rfl rfl) ?_
  refine SL.nil ?_
  refine SN.seq ?_
  refine SG.condT rfl ?_
  refine SG.seq ?_
  refine SG.region ?_
  refine SL.val rfl rfl (fun w9 F9 S9 s => R.as rfl) ?_
  refine SL.nil ?_
  refine SN.seq ?_
  exact SG.ret1 rfl rfl ((Imp.sels (by repeat (first | exact Sels.nil | apply Sels.cons | exact Sel.keep | exact Sel.here | apply Sel.there)))) (rfl)

set_option maxHeartbeats 4000000 in
theorem chains_yes (a0 la : Option Addr) (n0 c0 lc : Nat) (l0 : List UInt8) (rs : List BRow) (w : World) (hb0 : Bs w a0 n0 l0) (hc0 : n0 ≤ c0) (hm : n0 ≤ 140737488351232) (hr0 : Cells w la (rs.map BRow.val) ∧ ∀ r ∈ rs, BRow.ok w r) (hrn : rs.length ≤ 140737488351232) (hv : l0.length = 64 * Image.dn l0 ∧ 1 ≤ Image.dn l0 ∧ Image.dn l0 ≤ 64) : Meets Try.prog 5 [.slice a0 n0 c0, .slice la rs.length lc] w (fun v w' => v = .bool true ∧ Ext [] w w') := by
  refine Meets.law Try.func5 rfl 80 rfl (Nat.le_of_ble_eq_true rfl) (law_bs (hb0) (law_cons (p := (fun w => Cells w la (rs.map BRow.val) ∧ ∀ r ∈ rs, BRow.ok w r)) (fun w9 he => ⟨hr0.1.ext0 he, fun r hr => (hr0.2 r hr).ext0 he⟩) (law_nil w))) ?_
  refine SG.fact (fun w9 F9 S9 s => (s.bs (a := a0) (n := n0) (l := l0) (by repeat (first | exact Sel.keep | exact Sel.here | apply Sel.there))).len) (fun hf9 => ?_)
  have hl0 := hf9; clear hf9
  refine SG.seq ?_
  refine SG.region ?_
  refine SL.val rfl rfl (fun w9 F9 S9 s => R.as rfl) ?_
  refine SL.nil ?_
  refine SN.seq ?_
  refine SG.seq ?_
  refine SG.seq ?_
  refine SG.region ?_
  refine SL.step rfl rfl (CS.callR rfl go6 (fun w9 F9 S9 s => first46_law w9)) ?_
  rintro _ _ ⟨rfl, rfl⟩
  refine SL.val rfl rfl (fun w9 F9 S9 s => R.not rfl) ?_
  refine SL.nil ?_
  refine SN.seq ?_
  refine SG.condF rfl ?_
  refine SG.skip ?_
  refine SN.seq ?_
  refine SG.seq ?_
  refine SG.region ?_
  refine SL.val rfl rfl (fun w9 F9 S9 s => R.mv rfl) ?_
  refine SL.val rfl rfl (fun w9 F9 S9 s => R.mv rfl) ?_
  refine SL.step rfl rfl (CS.callP rfl go7 (fun w9 F9 S9 s => disks_yy a0 a0 n0 n0 c0 c0 l0 l0 w9 (s.bs (l := l0) (by repeat (first | exact Sel.keep | exact Sel.here | apply Sel.there))) hc0 (s.bs (l := l0) (by repeat (first | exact Sel.keep | exact Sel.here | apply Sel.there))) hc0 ⟨hm, hm⟩ hv hv)) ?_
  rintro _ _ ⟨_, ⟨d0, g0, e0, cur0, ps0, d1, g1, e1, cur1, ps1, rfl, rfl⟩, rfl⟩
  refine SL.val rfl rfl (fun w9 F9 S9 s => R.mv rfl) ?_
  refine SL.val rfl rfl (fun w9 F9 S9 s => R.ext rfl rfl) ?_
  refine SL.val rfl rfl (fun w9 F9 S9 s => R.ext rfl rfl) ?_
  refine SL.val rfl rfl (fun w9 F9 S9 s => R.ext rfl rfl) ?_
  refine SL.val rfl rfl (fun w9 F9 S9 s => R.as rfl) ?_
  refine SL.val rfl rfl (fun w9 F9 S9 s => R.as rfl) ?_
  refine SL.val rfl rfl (fun w9 F9 S9 s => R.as rfl) ?_
  refine SL.nil ?_
  refine SN.imp (Imp.weak (p := fun w => DiskL w d0 g0 e0 cur0 ps0 l0 ∧ DiskL w d1 g1 e1 cur1 ps1 l0) (q := fun w => DiskL w d0 g0 e0 cur0 ps0 l0) (by repeat (first | exact Sel.keep | exact Sel.here | apply Sel.there)) (fun w h => h.1)) ?_
  obtain ⟨hv01, hv02, hv03⟩ := hv
  have hdn0 : Image.dn l0 = l0.length / 64 := rfl
  refine SN.seq ?_
  refine SG.seq ?_
  refine SG.seq ?_
  refine SG.region ?_
  refine SL.val rfl rfl (fun w9 F9 S9 s => R.mv rfl) ?_
  refine SL.val rfl rfl (fun w9 F9 S9 s => R.not rfl) ?_
  refine SL.val rfl rfl (fun w9 F9 S9 s => R.mv rfl) ?_
  refine SL.val rfl rfl (fun w9 F9 S9 s => R.mv rfl) ?_
  refine SL.val rfl rfl (fun w9 F9 S9 s => R.lenS rfl) ?_
  refine SL.val rfl rfl (fun w9 F9 S9 s => R.gtr rfl rfl) ?_
  first | refine SL.val rfl rfl (fun w9 F9 S9 s => R.pickT rfl rfl) ?_ | refine SL.val rfl rfl (fun w9 F9 S9 s => R.pickF rfl rfl) ?_
  refine SL.nil ?_
  refine SN.seq ?_
  refine SG.condP rfl (fun h1 => ?_) (fun h1 => ?_)
  · refine SG.seq ?_
    refine SG.region ?_
    refine SL.val rfl rfl (fun w9 F9 S9 s => R.as rfl) ?_
    refine SL.nil ?_
    refine SN.seq ?_
    exact SG.ret1 rfl rfl ((Imp.sels (by repeat (first | exact Sels.nil | apply Sels.cons | exact Sel.keep | exact Sel.here | apply Sel.there)))) (rfl)
  · refine SG.skip ?_
    refine SN.seq ?_
    refine SG.seq ?_
    refine SG.region ?_
    refine SL.val rfl rfl (fun w9 F9 S9 s => R.mv rfl) ?_
    refine SL.val rfl rfl (fun w9 F9 S9 s => R.strB rfl (s.bs (l := l0) (by repeat (first | exact Sel.keep | exact Sel.here | apply Sel.there)))) ?_
    refine SL.val rfl rfl (fun w9 F9 S9 s => R.as rfl) ?_
    refine SL.val rfl rfl (fun w9 F9 S9 s => R.as rfl) ?_
    refine SL.val rfl rfl (fun w9 F9 S9 s => R.as rfl) ?_
    refine SL.nil ?_
    refine SN.seq ?_
    refine SG.seq ?_
    refine SG.seq ?_
    refine SG.region ?_
    refine SL.val rfl rfl (fun w9 F9 S9 s => R.mv rfl) ?_
    refine SL.val rfl rfl (fun w9 F9 S9 s => R.lenS rfl) ?_
    refine SL.val rfl rfl (fun w9 F9 S9 s => R.mv rfl) ?_
    refine SL.nil ?_
    refine SN.seq ?_
    refine SG.block ?_
    refine SG.loop (X := Nat) (fun i => [(1, .slice la rs.length lc), (5, .pointer (some ⟨d0, 0, none⟩)), (8, .string (str (chainF rootD l0 ((rs.map BRow.l).take i)).1)), (9, .int .i64 ((chainF rootD l0 ((rs.map BRow.l).take i)).2.1 : Int)), (10, .int .i64 (chainF rootD l0 ((rs.map BRow.l).take i)).2.2), (35, .slice la rs.length lc), (36, .int .i64 (rs.length : Int)), (37, .int .i64 (i : Int))]) (fun i => [sh (fun w => DiskL w d0 g0 e0 cur0 ps0 l0), sh (fun w => Cells w la (rs.map BRow.val) ∧ ∀ r ∈ rs, BRow.ok w r)]) (fun i => i ≤ rs.length ∧ ∀ j, j < i → ∀ r, rs[j]? = some r → r.n ≤ 2000) (fun i => rs.length - i) (0) (Sub.cons rfl (Sub.cons rfl (Sub.cons rfl (Sub.cons rfl (Sub.cons rfl (Sub.cons rfl (Sub.cons rfl (Sub.cons rfl (Sub.nil _))))))))) ((Imp.sels (by repeat (first | exact Sels.nil | apply Sels.cons | exact Sel.keep | exact Sel.here | apply Sel.there)))) (⟨Nat.zero_le _, fun j hj => by cases hj⟩) ?_
    rintro i ⟨hi, hsm⟩
    have hKl := chain_len (R := rootD) ((rs.map BRow.l).take i) hv01
    have hKd : Image.dn (chainF rootD l0 ((rs.map BRow.l).take i)).1 = Image.dn l0 := by unfold Image.dn; rw [hKl]
    have hKc := chain_cnt (R := rootD) ((rs.map BRow.l).take i) l0
    rw [List.length_take, List.length_map] at hKc
    show SG _ _ _ _ _ [(1, .slice la rs.length lc), (5, .pointer (some ⟨d0, 0, none⟩)), (8, .string (str (chainF rootD l0 ((rs.map BRow.l).take i)).1)), (9, .int .i64 ((chainF rootD l0 ((rs.map BRow.l).take i)).2.1 : Int)), (10, .int .i64 (chainF rootD l0 ((rs.map BRow.l).take i)).2.2), (35, .slice la rs.length lc), (36, .int .i64 (rs.length : Int)), (37, .int .i64 (i : Int))] [sh (fun w => DiskL w d0 g0 e0 cur0 ps0 l0), sh (fun w => Cells w la (rs.map BRow.val) ∧ ∀ r ∈ rs, BRow.ok w r)] _
    refine SG.seq ?_
    refine SG.region ?_
    refine SL.val rfl rfl (fun w9 F9 S9 s => R.lss rfl rfl) ?_
    refine SL.nil ?_
    refine SN.seq ?_
    refine SG.seq ?_
    refine SG.condP rfl (fun h2 => ?_) (fun h2 => ?_)
    · obtain ⟨r, hr⟩ : ∃ r, rs[i]? = some r := ⟨_, List.getElem?_eq_getElem (by omega)⟩
      have hrm := List.mem_of_getElem? hr
      refine SG.fact (fun w9 F9 S9 s => brow_pt (s.sh (p := (fun w => Cells w la (rs.map BRow.val) ∧ ∀ r ∈ rs, BRow.ok w r)) (by repeat (first | exact Sel.keep | exact Sel.here | apply Sel.there))).1 hr) (fun hf9 => ?_)
      obtain ⟨q, hq⟩ := hf9
      refine SG.fact (fun w9 F9 S9 s => ((s.sh (p := (fun w => Cells w la (rs.map BRow.val) ∧ ∀ r ∈ rs, BRow.ok w r)) (by repeat (first | exact Sel.keep | exact Sel.here | apply Sel.there))).2 r hrm).1) (fun hf9 => ?_)
      have hro := hf9; clear hf9
      refine SG.imp (Imp.weak (p := (fun w => Cells w la (rs.map BRow.val) ∧ ∀ r ∈ rs, BRow.ok w r)) (q := fun w => Bs w r.a r.n r.l) (by repeat (first | exact Sel.keep | exact Sel.here | apply Sel.there)) (fun w h => (h.2 r hrm).2)) ?_
      have hsn := chain_snoc rootD r.l ((rs.map BRow.l).take i) l0
      rw [show (rs.map BRow.l).take i ++ [r.l] = (rs.map BRow.l).take (i + 1) by rw [List.take_add_one, List.getElem?_map, hr]; rfl] at hsn
      refine SG.skip ?_
      refine SN.seq ?_
      refine SG.seq ?_
      refine SG.block ?_
      refine SG.seq ?_
      refine SG.region ?_
      refine SL.val rfl rfl (fun w9 F9 S9 s => R.idx rfl rfl (by omega) (by omega) q hq) ?_
      refine SL.val rfl rfl (fun w9 F9 S9 s => R.ld (v := .slice r.a r.n r.c) rfl (brow_ld (s.sh (p := (fun w => Cells w la (rs.map BRow.val) ∧ ∀ r ∈ rs, BRow.ok w r)) (by repeat (first | exact Sel.keep | exact Sel.here | apply Sel.there))).1 hq hr)) ?_
      refine SL.val rfl rfl (fun w9 F9 S9 s => R.as rfl) ?_
      refine SL.nil ?_
      refine SN.seq ?_
      refine SG.seq ?_
      refine SG.seq ?_
      refine SG.region ?_
      refine SL.val rfl rfl (fun w9 F9 S9 s => R.mv rfl) ?_
      refine SL.val rfl rfl (fun w9 F9 S9 s => R.lenS rfl) ?_
      refine SL.val rfl rfl (fun w9 F9 S9 s => R.gtr rfl rfl) ?_
      refine SL.nil ?_
      refine SN.seq ?_
      refine SG.condP rfl (fun h3 => ?_) (fun h3 => ?_)
      · refine SG.seq ?_
        refine SG.region ?_
        refine SL.val rfl rfl (fun w9 F9 S9 s => R.as rfl) ?_
        refine SL.nil ?_
        refine SN.seq ?_
        exact SG.ret1 rfl rfl ((Imp.sels (by repeat (first | exact Sels.nil | apply Sels.cons | exact Sel.keep | exact Sel.here | apply Sel.there)))) (rfl)
      · refine SG.skip ?_
        refine SN.seq ?_
        refine SG.seq ?_
        refine SG.region ?_
        refine SL.val rfl rfl (fun w9 F9 S9 s => R.mv rfl) ?_
        refine SL.val rfl rfl (fun w9 F9 S9 s => R.eqI rfl rfl) ?_
        refine SL.nil ?_
        refine SN.seq ?_
        refine SG.condP rfl (fun h4 => ?_) (fun h4 => ?_)
        · rw [if_neg (fun h9 => h9 h4)] at hsn
          refine SG.seq ?_
          refine SG.region ?_
          refine SL.val rfl rfl (fun w9 F9 S9 s => R.as rfl) ?_
          refine SL.nil ?_
          refine SN.seq ?_
          refine SG.seq ?_
          refine SG.region ?_
          refine SL.val rfl rfl (fun w9 F9 S9 s => R.mv rfl) ?_
          refine SL.val rfl rfl (fun w9 F9 S9 s => R.mv rfl) ?_
          refine SL.step rfl rfl (CS.callR rfl go17 (fun w9 F9 S9 s => refapply_ok (chainF rootD l0 ((rs.map BRow.l).take i)).1 r.a r.n r.c r.l w9 (s.bs (a := r.a) (l := r.l) (by repeat (first | exact Sel.keep | exact Sel.here | apply Sel.there))) hro.1 (by omega) (by omega) (by omega) (by omega))) ?_
          rintro _ _ ⟨rfl, rfl⟩
          refine SL.val rfl rfl (fun w9 F9 S9 s => R.mv rfl) ?_
          refine SL.val rfl rfl (fun w9 F9 S9 s => R.ext rfl rfl) ?_
          refine SL.val rfl rfl (fun w9 F9 S9 s => R.ext rfl rfl) ?_
          refine SL.val rfl rfl (fun w9 F9 S9 s => R.as rfl) ?_
          refine SL.val rfl rfl (fun w9 F9 S9 s => R.as rfl) ?_
          refine SL.nil ?_
          refine SN.seq ?_
          refine SG.seq ?_
          refine SG.region ?_
          refine SL.val rfl rfl (fun w9 F9 S9 s => R.mv rfl) ?_
          refine SL.val rfl rfl (fun w9 F9 S9 s => R.eqI rfl rfl) ?_
          refine SL.nil ?_
          refine SN.seq ?_
          refine SG.condP rfl (fun h5 => ?_) (fun h5 => ?_)
          · have hK : (chainF rootD l0 ((rs.map BRow.l).take (i + 1))) = ((applyF rootD (chainF rootD l0 ((rs.map BRow.l).take i)).1 r.l).1, (chainF rootD l0 ((rs.map BRow.l).take i)).2.1 + 1, 0) := by rw [hsn, if_neg (fun h9 => h9 h5)]
            refine SG.seq ?_
            refine SG.region ?_
            refine SL.val rfl rfl (fun w9 F9 S9 s => R.mv rfl) ?_
            refine SL.val rfl rfl (fun w9 F9 S9 s => R.as rfl) ?_
            refine SL.nil ?_
            refine SN.seq ?_
            refine SG.region ?_
            refine SL.val rfl rfl (fun w9 F9 S9 s => R.mv rfl) ?_
            refine SL.val rfl rfl (fun w9 F9 S9 s => R.add rfl rfl (by omega)) ?_
            refine SL.val rfl rfl (fun w9 F9 S9 s => R.as rfl) ?_
            refine SL.nil ?_
            refine SN.be 8 rfl (show Value.string (str (applyF rootD (chainF rootD l0 ((rs.map BRow.l).take i)).1 r.l).1) = .string (str (chainF rootD l0 ((rs.map BRow.l).take (i + 1))).1) by rw [hK]) ?_
            refine SN.be 9 rfl (show Value.int .i64 (((chainF rootD l0 ((rs.map BRow.l).take i)).2.1 : Int) + 1) = .int .i64 ((chainF rootD l0 ((rs.map BRow.l).take (i + 1))).2.1 : Int) by rw [hK]; rfl) ?_
            refine SN.be 10 rfl (show Value.int .i64 (applyF rootD (chainF rootD l0 ((rs.map BRow.l).take i)).1 r.l).2 = .int .i64 (chainF rootD l0 ((rs.map BRow.l).take (i + 1))).2.2 by rw [hK, h5]) ?_
            refine SN.block ?_
            refine SN.seq ?_
            refine SG.region ?_
            refine SL.val rfl rfl (fun w9 F9 S9 s => R.add rfl rfl (by omega)) ?_
            refine SL.val rfl rfl (fun w9 F9 S9 s => R.mv rfl) ?_
            refine SL.nil ?_
            exact SN.again (i + 1) (by show rs.length - (i + 1) < rs.length - i; omega) (Sub.cons rfl (Sub.cons rfl (Sub.cons rfl (Sub.cons rfl (Sub.cons rfl (Sub.cons rfl (Sub.cons rfl (Sub.cons rfl (Sub.nil _))))))))) ((Imp.sels (by repeat (first | exact Sels.nil | apply Sels.cons | exact Sel.keep | exact Sel.here | apply Sel.there)))) (⟨by show i + 1 ≤ rs.length; omega, fun j hj r9 hr9 => by
                by_cases e9 : j = i
                · subst e9; rw [hr] at hr9; cases hr9; omega
                · exact hsm j (by omega) r9 hr9⟩)
          · have hK : (chainF rootD l0 ((rs.map BRow.l).take (i + 1))) = ((chainF rootD l0 ((rs.map BRow.l).take i)).1, (chainF rootD l0 ((rs.map BRow.l).take i)).2.1, (applyF rootD (chainF rootD l0 ((rs.map BRow.l).take i)).1 r.l).2) := by rw [hsn, if_pos h5]
            refine SG.be 8 rfl (show Value.string (str (chainF rootD l0 ((rs.map BRow.l).take i)).1) = .string (str (chainF rootD l0 ((rs.map BRow.l).take (i + 1))).1) by rw [hK]) ?_
            refine SG.be 9 rfl (show Value.int .i64 ((chainF rootD l0 ((rs.map BRow.l).take i)).2.1 : Int) = .int .i64 ((chainF rootD l0 ((rs.map BRow.l).take (i + 1))).2.1 : Int) by rw [hK]) ?_
            refine SG.be 10 rfl (show Value.int .i64 (applyF rootD (chainF rootD l0 ((rs.map BRow.l).take i)).1 r.l).2 = .int .i64 (chainF rootD l0 ((rs.map BRow.l).take (i + 1))).2.2 by rw [hK]) ?_
            refine SG.skip ?_
            refine SN.block ?_
            refine SN.seq ?_
            refine SG.region ?_
            refine SL.val rfl rfl (fun w9 F9 S9 s => R.add rfl rfl (by omega)) ?_
            refine SL.val rfl rfl (fun w9 F9 S9 s => R.mv rfl) ?_
            refine SL.nil ?_
            exact SN.again (i + 1) (by show rs.length - (i + 1) < rs.length - i; omega) (Sub.cons rfl (Sub.cons rfl (Sub.cons rfl (Sub.cons rfl (Sub.cons rfl (Sub.cons rfl (Sub.cons rfl (Sub.cons rfl (Sub.nil _))))))))) ((Imp.sels (by repeat (first | exact Sels.nil | apply Sels.cons | exact Sel.keep | exact Sel.here | apply Sel.there)))) (⟨by show i + 1 ≤ rs.length; omega, fun j hj r9 hr9 => by
                by_cases e9 : j = i
                · subst e9; rw [hr] at hr9; cases hr9; omega
                · exact hsm j (by omega) r9 hr9⟩)
        · have hK : (chainF rootD l0 ((rs.map BRow.l).take (i + 1))) = (chainF rootD l0 ((rs.map BRow.l).take i)) := by rw [hsn, if_pos h4]
          refine SG.be 8 rfl (show Value.string (str (chainF rootD l0 ((rs.map BRow.l).take i)).1) = .string (str (chainF rootD l0 ((rs.map BRow.l).take (i + 1))).1) by rw [hK]) ?_
          refine SG.be 9 rfl (show Value.int .i64 ((chainF rootD l0 ((rs.map BRow.l).take i)).2.1 : Int) = .int .i64 ((chainF rootD l0 ((rs.map BRow.l).take (i + 1))).2.1 : Int) by rw [hK]) ?_
          refine SG.be 10 rfl (show Value.int .i64 (chainF rootD l0 ((rs.map BRow.l).take i)).2.2 = .int .i64 (chainF rootD l0 ((rs.map BRow.l).take (i + 1))).2.2 by rw [hK]) ?_
          refine SG.skip ?_
          refine SN.block ?_
          refine SN.seq ?_
          refine SG.region ?_
          refine SL.val rfl rfl (fun w9 F9 S9 s => R.add rfl rfl (by omega)) ?_
          refine SL.val rfl rfl (fun w9 F9 S9 s => R.mv rfl) ?_
          refine SL.nil ?_
          exact SN.again (i + 1) (by show rs.length - (i + 1) < rs.length - i; omega) (Sub.cons rfl (Sub.cons rfl (Sub.cons rfl (Sub.cons rfl (Sub.cons rfl (Sub.cons rfl (Sub.cons rfl (Sub.cons rfl (Sub.nil _))))))))) ((Imp.sels (by repeat (first | exact Sels.nil | apply Sels.cons | exact Sel.keep | exact Sel.here | apply Sel.there)))) (⟨by show i + 1 ≤ rs.length; omega, fun j hj r9 hr9 => by
              by_cases e9 : j = i
              · subst e9; rw [hr] at hr9; cases hr9; omega
              · exact hsm j (by omega) r9 hr9⟩)
    · obtain rfl : i = rs.length := by omega
      rw [show (rs.map BRow.l).take rs.length = (rs.map BRow.l) from List.take_of_length_le (by rw [List.length_map]; exact Nat.le_refl _)]
      refine SG.exit _ rfl ?_
      refine SN.seq ?_
      refine SG.seq ?_
      refine SG.region ?_
      refine SL.val rfl rfl (fun w9 F9 S9 s => R.mv rfl) ?_
      refine SL.val rfl rfl (fun w9 F9 S9 s => R.mv rfl) ?_
      refine SL.step rfl rfl (CS.callP rfl go19 (fun w9 F9 S9 s => chain_ok d0 g0 e0 cur0 ps0 l0 la lc rs w9 (s.sh (p := fun w => DiskL w d0 g0 e0 cur0 ps0 l0) (by repeat (first | exact Sel.keep | exact Sel.here | apply Sel.there))) (s.sh (p := (fun w => Cells w la (rs.map BRow.val) ∧ ∀ r ∈ rs, BRow.ok w r)) (by repeat (first | exact Sel.keep | exact Sel.here | apply Sel.there))) (by omega) (fun r hr => by obtain ⟨j, hj⟩ := List.getElem?_of_mem hr; have := hsm j (List.getElem?_eq_some_iff.1 hj).1 r hj; omega))) ?_
      rintro _ _ ⟨_, ⟨d2, g2, e2, cur2, ps2, rfl, rfl⟩, rfl⟩
      refine SL.val rfl rfl (fun w9 F9 S9 s => R.mv rfl) ?_
      refine SL.val rfl rfl (fun w9 F9 S9 s => R.ext rfl rfl) ?_
      refine SL.val rfl rfl (fun w9 F9 S9 s => R.ext rfl rfl) ?_
      refine SL.val rfl rfl (fun w9 F9 S9 s => R.ext rfl rfl) ?_
      refine SL.val rfl rfl (fun w9 F9 S9 s => R.as rfl) ?_
      refine SL.val rfl rfl (fun w9 F9 S9 s => R.as rfl) ?_
      refine SL.val rfl rfl (fun w9 F9 S9 s => R.as rfl) ?_
      refine SL.nil ?_
      refine SN.seq ?_
      refine SG.seq ?_
      refine SG.imp (Imp.weak (p := fun w => DiskL w d2 g2 e2 cur2 ps2 (chainF rootD l0 (rs.map BRow.l)).1) (q := fun w => DiskO w (some ⟨d2, 0, none⟩) (chainF rootD l0 (rs.map BRow.l)).1) (by repeat (first | exact Sel.keep | exact Sel.here | apply Sel.there)) (fun w h => disk_o h)) ?_
      refine SG.region ?_
      refine SL.val rfl rfl (fun w9 F9 S9 s => R.mv rfl) ?_
      refine SL.val rfl rfl (fun w9 F9 S9 s => R.mv rfl) ?_
      refine SL.val rfl rfl (fun w9 F9 S9 s => R.eqI rfl rfl) ?_
      refine SL.val rfl rfl (fun w9 F9 S9 s => R.mv rfl) ?_
      refine SL.isT 68 rfl (decide_eq_true rfl) ?_
      refine SL.val rfl rfl (fun w9 F9 S9 s => R.mv rfl) ?_
      refine SL.val rfl rfl (fun w9 F9 S9 s => R.mv rfl) ?_
      refine SL.val rfl rfl (fun w9 F9 S9 s => R.eqI rfl rfl) ?_
      first | refine SL.val rfl rfl (fun w9 F9 S9 s => R.pickT rfl rfl) ?_ | refine SL.val rfl rfl (fun w9 F9 S9 s => R.pickF rfl rfl) ?_
      refine SL.val rfl rfl (fun w9 F9 S9 s => R.mv rfl) ?_
      refine SL.isT 73 rfl (decide_eq_true rfl) ?_
      refine SL.val rfl rfl (fun w9 F9 S9 s => R.mv rfl) ?_
      refine SL.step rfl rfl (CS.call rfl go18 (ibytesS (some ⟨d2, 0, none⟩) (chainF rootD l0 (rs.map BRow.l)).1) (by repeat (first | exact Sels.nil | apply Sels.cons | exact Sel.keep | exact Sel.here | apply Sel.there))) ?_
      rintro _ _ ⟨_, ⟨a75, c75, rfl, rfl, rfl⟩, rfl⟩
      refine SL.n2 ?_
      refine SL.val rfl rfl (fun w9 F9 S9 s => R.strB rfl (St.ownBs s (show Sel _ (own 5 1 a75 (chainF rootD l0 (rs.map BRow.l)).1.length c75 (vbs ((chainF rootD l0 (rs.map BRow.l)).1))) _ from (by repeat (first | exact Sel.keep | exact Sel.here | apply Sel.there))))) ?_
      refine SL.val rfl rfl (fun w9 F9 S9 s => R.mv rfl) ?_
      refine SL.val rfl rfl (fun w9 F9 S9 s => R.eqStr rfl rfl) ?_
      first | refine SL.val rfl rfl (fun w9 F9 S9 s => R.pickT rfl rfl) ?_ | refine SL.val rfl rfl (fun w9 F9 S9 s => R.pickF rfl rfl) ?_
      refine SL.val rfl rfl (fun w9 F9 S9 s => R.as rfl) ?_
      refine SL.nil ?_
      refine SN.seq ?_
      exact SG.ret1 rfl rfl ((Imp.sels (by repeat (first | exact Sels.nil | apply Sels.cons | exact Sel.keep | exact Sel.here | apply Sel.there)))) (congrArg Value.bool (decide_eq_true rfl))

end Go.Proofs.Yteaihincmfbblaa
