/-
  The walks of package ledger, and of what it is held against.
-/
import Derived.Test.YtfbkbobphjncfaaLedger
import Derived.Test.YtfbkbobphjncfaaLedgerA
set_option linter.unusedVariables false
namespace Go.Proofs.Ytfbkbobphjncfaa
open Go Brv Brv.Crc Brv.Pack Brv.Ledger
theorem go29 : ∀ (vs : Array Value) w, (callFunc 29 vs).run Try.prog w = .ok (.enter 29 vs) w := callFunc_run Try.func29 (by decide) rfl
theorem go58 : ∀ (vs : Array Value) w, (callFunc 58 vs).run Try.prog w = .ok (.enter 58 vs) w := callFunc_run Try.func58 (by decide) rfl
theorem go61 : ∀ (vs : Array Value) w, (callFunc 61 vs).run Try.prog w = .ok (.enter 61 vs) w := callFunc_run Try.func61 (by decide) rfl
theorem go30 : ∀ (vs : Array Value) w, (callFunc 30 vs).run Try.prog w = .ok (.enter 30 vs) w := callFunc_run Try.func30 (by decide) rfl
theorem go67 : ∀ (vs : Array Value) w, (callFunc 67 vs).run Try.prog w = .ok (.enter 67 vs) w := callFunc_run Try.func67 (by decide) rfl
theorem go57 : ∀ (vs : Array Value) w, (callFunc 57 vs).run Try.prog w = .ok (.enter 57 vs) w := callFunc_run Try.func57 (by decide) rfl
theorem go23 : ∀ (vs : Array Value) w, (callFunc 23 vs).run Try.prog w = .ok (.enter 23 vs) w := callFunc_run Try.func23 (by decide) rfl
theorem go22 : ∀ (vs : Array Value) w, (callFunc 22 vs).run Try.prog w = .ok (.enter 22 vs) w := callFunc_run Try.func22 (by decide) rfl
theorem go54 : ∀ (vs : Array Value) w, (callFunc 54 vs).run Try.prog w = .ok (.enter 54 vs) w := callFunc_run Try.func54 (by decide) rfl
theorem go20 : ∀ (vs : Array Value) w, (callFunc 20 vs).run Try.prog w = .ok (.enter 20 vs) w := callFunc_run Try.func20 (by decide) rfl

theorem lists_ok (a : Option Addr) (n c : Nat) (os : List ItemV) (w : World) (hT : Tab w a n 9 (os.map ItemV.cells)) (hO : ∀ o ∈ os, o.ok w) (hn60 : n ≤ 60) (h60 : ∀ o ∈ os, o.At'n ≤ 60) : Meets Try.prog 29 [.slice a n c] w (fun v w' => v = .int .i64 (secF (itemsLen os : Nat)) ∧ Ext [] w w') := by
  refine Meets.enter Try.func29 rfl 22 rfl (Nat.le_of_ble_eq_true rfl) ?_
  have E := Ext.refl [] w
  have hn := hT.len
  rw [List.length_map] at hn
  refine G.seq ?_
  refine G.region ?_
  refine L.val rfl rfl (R.as rfl) ?_
  refine L.nil ?_
  refine N.seq ?_
  refine G.seq ?_
  refine G.region ?_
  refine L.val rfl rfl (R.as rfl) ?_
  refine L.nil ?_
  refine N.seq ?_
  refine G.seq ?_
  refine G.seq ?_
  refine G.region ?_
  refine L.val rfl rfl (R.mv rfl) ?_
  refine L.val rfl rfl (R.lenS rfl) ?_
  refine L.val rfl rfl (R.mv rfl) ?_
  refine L.nil ?_
  refine N.seq ?_
  refine G.block ?_
  refine G.loop (X := Nat) (fun k => [(3, .int .i64 (itemsLen (os.take k) : Nat)), (6, .slice a n c), (7, .int .i64 n), (8, .int .i64 (k : Nat))]) (fun k w' => k ≤ n ∧ itemsLen (os.take k) ≤ 10 + 1015 * k ∧ Ext [] w w') (fun k => n - k) (0) (Sub.cons rfl (Sub.cons rfl (Sub.cons rfl (Sub.cons rfl (Sub.nil _))))) ⟨by omega, by simp [itemsLen], E⟩ ?_
  rintro k w1 ⟨hk, hle, E⟩
  refine G.seq ?_
  refine G.region ?_
  refine L.val rfl rfl (R.lss rfl rfl) ?_
  refine L.nil ?_
  refine N.seq ?_
  refine G.seq ?_
  refine G.condP rfl (fun h0 => ?_) (fun h0 => ?_)
  · refine G.skip ?_
    refine N.seq ?_
    refine G.seq ?_
    refine G.block ?_
    refine G.seq ?_
    refine G.region ?_
    obtain ⟨q9, hq9, hcl⟩ := hT.at (by decide) k (by rw [List.length_map]; omega)
    rw [List.getElem_map] at hcl
    have hok := hO _ (List.getElem_mem (show k < os.length by omega))
    generalize hoe : os[k]'(by omega) = o at *
    refine L.val rfl rfl (R.idx rfl rfl (by omega) (by omega) q9 hq9) ?_
    refine L.val rfl rfl (R.ldN rfl (hcl.ext0 E) rfl) ?_
    refine L.do rfl rfl (R.alloc) ?_
    rintro _ w2 ⟨b9, rfl, hb9, hs9, e2, B9⟩
    have hEb := E.size
    replace E := E.trans0 e2
    refine L.set rfl (R.stN rfl rfl B9 rfl (Nat.le_refl 9) (ItemV.cells.one _)) ?_
    rintro w3 ⟨e3, hs3, B9⟩
    replace B9 : Blk w3 b9 o.cells.toArray 39 (0, 0) := B9
    replace E := E.trans e3 (M := []) (by simp) (by intro x hx; rw [List.mem_singleton.1 hx]; exact .inr (by omega))
    refine L.nil ?_
    have hsu := itemsLen_succ (show k < os.length by omega)
    rw [hoe] at hsu
    have hat : o.At'n ≤ 60 := by rw [← hoe]; exact h60 _ (List.getElem_mem (by omega))
    have hle2 : itemsLen (os.take (k + 1)) ≤ 10 + 1015 * (k + 1) := by omega
    refine N.seq ?_
    refine G.region ?_
    refine L.val rfl rfl (R.mv rfl) ?_
    refine L.val rfl rfl (R.fld rfl) ?_
    refine L.val rfl rfl (R.ldB rfl B9 rfl) ?_
    refine L.val rfl rfl (R.lenS rfl) ?_
    refine L.val rfl rfl (R.mul rfl rfl (by omega)) ?_
    refine L.val rfl rfl (R.add rfl rfl (by omega)) ?_
    refine L.val rfl rfl (R.add rfl rfl (by omega)) ?_
    refine L.val rfl rfl (R.as rfl) ?_
    refine L.be 3 rfl (congrArg (Value.int .i64) (show _ = ((itemsLen (os.take (k + 1)) : Nat) : Int) by rw [hsu]; omega)) ?_
    refine L.nil ?_
    refine N.block ?_
    refine N.seq ?_
    refine G.region ?_
    refine L.val rfl rfl (R.add rfl rfl (by omega)) ?_
    refine L.val rfl rfl (R.mv rfl) ?_
    refine L.nil ?_
    exact N.again (k + 1) (by omega) (Sub.cons rfl (Sub.cons rfl (Sub.cons rfl (Sub.cons rfl (Sub.nil _))))) ⟨by omega, hle2, E⟩
  · obtain rfl : k = n := by omega
    have hte : os.take k = os := List.take_of_length_le (by omega)
    refine G.be 3 rfl (congrArg (fun q => Value.int .i64 (itemsLen q : Nat)) hte) ?_
    rw [hte] at hle
    refine G.exit _ rfl ?_
    refine N.seq ?_
    refine G.seq ?_
    refine G.region ?_
    refine L.val rfl rfl (R.mv rfl) ?_
    refine L.callF rfl rfl rfl go60 (fsec_ok _ _ (by omega)) ?_
    rintro _ _ ⟨rfl, hw⟩
    obtain rfl := hw.symm
    refine L.val rfl rfl (R.as rfl) ?_
    refine L.nil ?_
    refine N.seq ?_
    refine G.ret1 rfl rfl ?_
    exact ⟨rfl, E⟩

theorem writes_ok (n : Nat) (w : World) (hn : n ≤ 64) : Meets Try.prog 58 [.int .i64 n] w (fun v w' => ∃ a c M, ∃ ws : List WriteV, v = .slice a n c ∧ n ≤ c ∧ Own w' 42 2 a n c (cellsW ws) M ∧ ws.length = n ∧ Ext [] w w' ∧ (∀ g ∈ M, w.heap.size ≤ g) ∧ ∀ i (h : i < ws.length), ws[i].Block' = i ∧ ws[i].B'n = 64 ∧ ws[i].ok w' ∧ ∃ bb cs, ws[i].B'a = some ⟨bb, 0, none⟩ ∧ Blk w' bb cs 5 (0, 0)) := by
  refine Meets.enter Try.func58 rfl 17 rfl (Nat.le_of_ble_eq_true rfl) ?_
  have E := Ext.refl [] w
  refine G.seq ?_
  refine G.region ?_
  refine L.val rfl rfl (R.as rfl) ?_
  refine L.nil ?_
  refine N.seq ?_
  refine G.seq ?_
  refine G.region ?_
  refine L.val rfl rfl (R.as rfl) ?_
  refine L.nil ?_
  refine N.seq ?_
  refine G.seq ?_
  refine G.seq ?_
  refine G.region ?_
  refine L.val rfl rfl (R.as rfl) ?_
  refine L.nil ?_
  refine N.seq ?_
  refine G.block ?_
  refine G.loop (X := Option Addr × Nat × List WriteV) (fun x => [(0, .int .i64 n), (3, .slice x.1 x.2.2.length x.2.1), (4, .int .i64 (x.2.2.length : Nat))]) (fun x w' => x.2.2.length ≤ n ∧ Ext [] w w' ∧ ∃ M, Own w' 42 2 x.1 x.2.2.length x.2.1 (cellsW x.2.2) M ∧ (∀ g ∈ M, w.heap.size ≤ g) ∧ ∀ i (h : i < x.2.2.length), x.2.2[i].Block' = i ∧ x.2.2[i].B'n = 64 ∧ x.2.2[i].ok w' ∧ ∃ bb cs, x.2.2[i].B'a = some ⟨bb, 0, none⟩ ∧ Blk w' bb cs 5 (0, 0)) (fun x => n - x.2.2.length) ((none, 0, [])) (Sub.cons rfl (Sub.cons rfl (Sub.cons rfl (Sub.nil _)))) ⟨by simp, E, [], Own.nil _ _ _, by simp, by simp⟩ ?_
  rintro ⟨a1, c1, ws⟩ w1 ⟨hk, E, M, hM, fM, hws⟩
  dsimp only at hk hM hws
  refine G.be 3 rfl (show _ = Value.slice a1 ws.length c1 from rfl) ?_
  refine G.be 4 rfl (show _ = Value.int .i64 (ws.length : Nat) from rfl) ?_
  refine G.seq ?_
  refine G.seq ?_
  refine G.region ?_
  refine L.val rfl rfl (R.mv rfl) ?_
  refine L.val rfl rfl (R.mv rfl) ?_
  refine L.val rfl rfl (R.lss rfl rfl) ?_
  refine L.nil ?_
  refine N.seq ?_
  refine G.condP rfl (fun h0 => ?_) (fun h0 => ?_)
  · refine G.skip ?_
    refine N.seq ?_
    refine G.seq ?_
    refine G.block ?_
    refine G.region ?_
    refine L.val rfl rfl (R.mv rfl) ?_
    refine L.val rfl rfl (R.mv rfl) ?_
    refine L.do rfl rfl (R.make rfl rfl (by decide) (by decide) (by decide) (by decide)) ?_
    rintro _ w2 ⟨b12, rfl, hb12, hs12, e2, B12⟩
    replace E := E.trans0 e2
    have hM1lt := hM.lt
    have hM0 := hM
    replace hM := hM.ext0 e2
    obtain ⟨o, ho⟩ : ∃ o : WriteV, o = ⟨ws.length, some ⟨b12, 0, none⟩, 64, 64, List.replicate 64 0⟩ := ⟨_, rfl⟩
    have hbo : Bs w2 (some ⟨b12, 0, none⟩) 64 (List.replicate 64 0) := Bs.of_blk B12 _ (madeCells_bytes 64) _ rfl
    refine L.val rfl rfl (R.build rfl rfl) ?_
    refine L.be 13 rfl (show _ = Value.agg o.cells.toArray by rw [ho]; rfl) ?_
    refine L.do rfl rfl (R.buildA rfl rfl rfl rfl rfl) ?_
    rintro _ w3 ⟨b14, rfl, hb14, hs14, e3, B14⟩
    replace E := E.trans0 e3
    replace hM := hM.ext0 e3
    have hcb : Cells w3 (some ⟨b14, 0, none⟩) o.cells := by
      have := B14.cellsAll
      simpa [cellsOf, Value.cells] using this
    have hE3 := E.size
    have e23 := e2.trans0 e3
    refine L.do rfl rfl (R.app rfl rfl hM hcb rfl (fun u hu => WriteV.cells.one o u (by simpa using hu)) (by simp [maxLen]; omega) (by omega)) ?_
    rintro v15 w4 ⟨a2, c2, M2, rfl, e4, hM4, hM3⟩
    have e24 : Ext M w1 w4 := e4.after e23
    replace E := E.fresh e4 fM
    have fM2 : ∀ g ∈ M2, w.heap.size ≤ g := fun g hg => (hM4 g hg).elim (fM g) (fun h => by omega)
    rw [← cellsW_one, ← cellsW_append] at hM3
    have hbo4 : Bs w4 (some ⟨b12, 0, none⟩) 64 (List.replicate 64 0) := (hbo.ext0 e3).ext e4 (by intro q hq h; cases hq; have := hM1lt _ h; simp at this; omega)
    have hws2 : ∀ i (h : i < (ws ++ [o]).length), (ws ++ [o])[i].Block' = i ∧ (ws ++ [o])[i].B'n = 64 ∧ (ws ++ [o])[i].ok w4 ∧ ∃ bb cs, (ws ++ [o])[i].B'a = some ⟨bb, 0, none⟩ ∧ Blk w4 bb cs 5 (0, 0) := by
      intro i hi
      by_cases hlt : i < ws.length
      · rw [List.getElem_append_left hlt]
        obtain ⟨x1, x2, x3, bb, cs, x4, x5⟩ := hws i hlt
        have hbM : bb ∉ M := fun h => by obtain ⟨_, hb⟩ := hM0.typ bb h; exact x5.ne hb (by decide) rfl
        exact ⟨x1, x2, x3.ext e24 (fun q hq h => by rw [x4] at hq; cases hq; exact hbM h), bb, cs, x4, x5.ext e24 hbM⟩
      · have hi2 : i = ws.length := by simp at hi; omega
        subst hi2
        rw [List.getElem_append_right (Nat.le_refl _)]
        simp only [Nat.sub_self, List.getElem_singleton]
        rw [ho]
        exact ⟨rfl, rfl, ⟨i64_wf (by simp only; omega), Nat.le_refl 64, by show 64 ≤ 140737488351232; decide, hbo4⟩, b12, _, rfl, (B12.ext0 e3).ext e4 (fun h => by have := hM1lt _ h; omega)⟩
    refine L.val rfl rfl (R.as rfl) ?_
    refine L.nil ?_
    refine N.block ?_
    refine N.seq ?_
    refine G.region ?_
    refine L.val rfl rfl (R.mv rfl) ?_
    refine L.val rfl rfl (R.add rfl rfl (by omega)) ?_
    refine L.val rfl rfl (R.as rfl) ?_
    refine L.nil ?_
    exact N.again (a2, c2, ws ++ [o]) (by simp only [List.length_append, List.length_singleton]; omega) (Sub.cons rfl (Sub.cons (by rw [List.length_append, List.length_singleton]; rfl) (Sub.cons (by rw [List.length_append, List.length_singleton]; rfl) (Sub.nil _)))) ⟨by simp only [List.length_append, List.length_singleton]; omega, E, M2, by simpa only [List.length_append, List.length_singleton] using hM3, fM2, hws2⟩
  · obtain rfl : ws.length = n := by omega
    refine G.exit _ rfl ?_
    refine N.seq ?_
    refine G.seq ?_
    refine G.region ?_
    refine L.val rfl rfl (R.mv rfl) ?_
    refine L.val rfl rfl (R.as rfl) ?_
    refine L.nil ?_
    refine N.seq ?_
    refine G.ret1 rfl rfl ?_
    exact ⟨a1, c1, M, ws, rfl, hM.le, hM, rfl, E, fM, hws⟩

def encW (o : WriteV) : List UInt8 := bi 2 o.Block' ++ o.B'
def encWs (ws : List WriteV) : List UInt8 := (ws.map encW).flatten
theorem encWs_succ {ws : List WriteV} {k : Nat} (h : k < ws.length) : encWs (ws.take (k + 1)) = encWs (ws.take k) ++ encW ws[k] := by
  unfold encWs
  rw [List.take_succ_eq_append_getElem h, List.map_append, List.flatten_append]
  simp only [List.map_cons, List.map_nil, List.flatten_cons, List.flatten_nil, List.append_nil]
theorem encWs_append (a b : List WriteV) : encWs (a ++ b) = encWs a ++ encWs b := by simp [encWs]
theorem encWs_take_le (ws : List WriteV) (k : Nat) : (encWs (ws.take k)).length ≤ (encWs ws).length := by
  conv => rhs; rw [← List.take_append_drop k ws]
  rw [encWs_append, List.length_append]; omega
theorem encWs_length : ∀ {ws : List WriteV}, (∀ x ∈ ws, x.B'.length = 64) → (encWs ws).length = 66 * ws.length
  | [], _ => rfl
  | x :: r, h => by
    have h1 := encWs_length (ws := r) (fun y hy => h y (by simp [hy]))
    have h2 := h x (by simp)
    simp only [encWs, List.map_cons, List.flatten_cons, List.length_append, List.length_cons] at *
    rw [h1]; simp [encW, bi_length, h2]; omega
def recF (k t m : Int) (ws : List WriteV) : List UInt8 := bi 1 k ++ (if k = 2 then [] else (bi 4 t ++ bi 8 m) ++ (if k = 3 then bi 2 ws.length ++ encWs ws else []))
theorem refput7_ok (k t m : Int) (a : Option Addr) (n c : Nat) (ws : List WriteV) (w : World) (hT : Tab w a n 2 (ws.map WriteV.cells)) (hO : ∀ o ∈ ws, o.ok w) (hb : (encWs ws).length ≤ 70368744177664) (hn2 : n ≤ 70368744177664) (hk : -9223372036854775808 ≤ k ∧ k ≤ 9223372036854775807)(ht : -9223372036854775808 ≤ t ∧ t ≤ 9223372036854775807)(hm : -9223372036854775808 ≤ m ∧ m ≤ 9223372036854775807) : Meets Try.prog 67 [.agg #[.int .i64 k, .int .i64 t, .int .i64 m, .slice a n c]] w (fun v w' => v = .string (str (recF k t m ws)) ∧ Ext [] w w') := by
  refine Meets.enter Try.func67 rfl 49 rfl (Nat.le_of_ble_eq_true rfl) ?_
  have E := Ext.refl [] w
  have hn := hT.len
  rw [List.length_map] at hn
  have hE0 := encWs_take_le ws 0
  refine G.seq ?_
  refine G.region ?_
  refine L.do rfl rfl (R.box rfl) ?_
  rintro _ w1 ⟨b1, rfl, hb1, hs1, e1, B1⟩
  replace E := E.trans0 e1
  refine L.val rfl rfl (R.as rfl) ?_
  refine L.nil ?_
  refine N.seq ?_
  refine G.seq ?_
  refine G.region ?_
  refine L.val rfl rfl (R.fld rfl) ?_
  refine L.val rfl rfl (R.ldB rfl (by assumption) (by rfl)) ?_
  refine L.callF rfl rfl rfl go34 (refnumberI_ok 1 _ _ (by decide) hk) ?_
  rintro _ w2 ⟨rfl, e2⟩
  replace E := E.trans0 e2
  replace B1 := B1.ext0 e2
  refine L.val rfl rfl (R.as rfl) ?_
  refine L.nil ?_
  refine N.seq ?_
  refine G.seq ?_
  refine G.seq ?_
  refine G.region ?_
  refine L.val rfl rfl (R.fld rfl) ?_
  refine L.val rfl rfl (R.ldB rfl (by assumption) (by rfl)) ?_
  refine L.val rfl rfl (R.eqI rfl rfl) ?_
  refine L.nil ?_
  refine N.seq ?_
  refine G.condP rfl (fun h0 => ?_) (fun h0 => ?_)
  · refine G.seq ?_
    refine G.region ?_
    refine L.val rfl rfl (R.mv rfl) ?_
    refine L.val rfl rfl (R.as rfl) ?_
    refine L.nil ?_
    refine N.seq ?_
    refine G.ret1 rfl rfl ?_
    exact ⟨by unfold recF; rw [if_pos h0, List.append_nil], E⟩
  · refine G.skip ?_
    refine N.seq ?_
    refine G.seq ?_
    refine G.quiet (by decide +kernel) rfl ?_
    refine Q.val rfl rfl rfl rfl (fun w3 hE => R.mv rfl) ?_
    refine Q.val rfl rfl rfl rfl (fun w3 hE => R.fld rfl) ?_
    refine Q.val rfl rfl rfl rfl (fun w3 hE => R.ldB rfl (Blk.ext0 (by assumption) hE) (by rfl)) ?_
    refine Q.call (.string (str (bi 4 t))) rfl rfl rfl go34 (fun w3 hE => ⟨_, rfl, (refnumberI_ok 4 _ _ (by decide) ht).mono (fun _ _ h => h)⟩) ?_
    refine Q.val rfl rfl rfl rfl (fun w3 hE => R.fld rfl) ?_
    refine Q.val rfl rfl rfl rfl (fun w3 hE => R.ldB rfl (Blk.ext0 (by assumption) hE) (by rfl)) ?_
    refine Q.call (.string (str (bi 8 m))) rfl rfl rfl go34 (fun w3 hE => ⟨_, rfl, (refnumberI_ok 8 _ _ (by decide) hm).mono (fun _ _ h => h)⟩) ?_
    refine Q.val rfl rfl rfl rfl (fun w3 hE => R.addStr rfl rfl (by simp [bi_length] <;> omega)) ?_
    refine Q.val rfl rfl rfl rfl (fun w3 hE => R.addStr rfl rfl (by simp [bi_length] <;> omega)) ?_
    refine Q.val rfl rfl rfl rfl (fun w3 hE => R.as rfl) ?_
    refine Q.nil (fun w3 e3 => ?_)
    replace B1 := B1.ext0 e3
    replace E := E.trans0 e3
    refine N.seq ?_
    refine G.seq ?_
    refine G.seq ?_
    refine G.region ?_
    refine L.val rfl rfl (R.fld rfl) ?_
    refine L.val rfl rfl (R.ldB rfl (by assumption) (by rfl)) ?_
    refine L.val rfl rfl (R.eqI rfl rfl) ?_
    refine L.nil ?_
    refine N.seq ?_
    refine G.condP rfl (fun h1 => ?_) (fun h1 => ?_)
    · refine G.seq ?_
      refine G.region ?_
      refine L.val rfl rfl (R.mv rfl) ?_
      refine L.val rfl rfl (R.fld rfl) ?_
      refine L.val rfl rfl (R.ldB rfl (by assumption) (by rfl)) ?_
      refine L.val rfl rfl (R.lenS rfl) ?_
      refine L.callF rfl rfl rfl go34 (refnumberI_ok 2 _ _ (by decide) (by omega)) ?_
      rintro _ w4 ⟨rfl, e4⟩
      replace E := E.trans0 e4
      replace B1 := B1.ext0 e4
      refine L.val rfl rfl (R.addStr rfl rfl (by simp [bi_length] <;> omega)) ?_
      refine L.val rfl rfl (R.as rfl) ?_
      refine L.nil ?_
      refine N.seq ?_
      refine G.seq ?_
      refine G.region ?_
      refine L.val rfl rfl (R.fld rfl) ?_
      refine L.val rfl rfl (R.ldB rfl (by assumption) (by rfl)) ?_
      refine L.val rfl rfl (R.lenS rfl) ?_
      refine L.val rfl rfl (R.mv rfl) ?_
      refine L.nil ?_
      refine N.seq ?_
      refine G.block ?_
      refine G.be 3 rfl (congrArg (fun q => Value.string (str q)) (show _ = (bi 1 k ++ (bi 4 t ++ bi 8 m) ++ bi 2 n) ++ encWs (ws.take 0) by simp [encWs])) ?_
      refine G.loop (X := Nat) (fun j => [(3, .string (str ((bi 1 k ++ (bi 4 t ++ bi 8 m) ++ bi 2 n) ++ encWs (ws.take j)))), (32, .slice a n c), (33, .int .i64 n), (34, .int .i64 (j : Nat))]) (fun j w' => j ≤ n ∧ Ext [] w w') (fun j => n - j) (0) (Sub.cons rfl (Sub.cons rfl (Sub.cons rfl (Sub.cons rfl (Sub.nil _))))) ⟨by omega, E⟩ ?_
      rintro j w1 ⟨hj, E⟩
      refine G.seq ?_
      refine G.region ?_
      refine L.val rfl rfl (R.lss rfl rfl) ?_
      refine L.nil ?_
      refine N.seq ?_
      refine G.seq ?_
      refine G.condP rfl (fun h2 => ?_) (fun h2 => ?_)
      · refine G.skip ?_
        refine N.seq ?_
        refine G.seq ?_
        refine G.block ?_
        refine G.seq ?_
        refine G.region ?_
        obtain ⟨q9, hq9, hcl⟩ := hT.at (by decide) j (by rw [List.length_map]; omega)
        rw [List.getElem_map] at hcl
        have hok := hO _ (List.getElem_mem (show j < ws.length by omega))
        generalize hoe : ws[j]'(by omega) = o at *
        refine L.val rfl rfl (R.idx rfl rfl (by omega) (by omega) q9 hq9) ?_
        refine L.val rfl rfl (R.ldN rfl (hcl.ext0 E) rfl) ?_
        refine L.do rfl rfl (R.alloc) ?_
        rintro _ w2 ⟨b9, rfl, hb9, hs9, e2, B9⟩
        have hEb := E.size
        replace E := E.trans0 e2
        refine L.set rfl (R.stN rfl rfl B9 rfl (Nat.le_refl 2) (WriteV.cells.one _)) ?_
        rintro w3 ⟨e3, hs3, B9⟩
        replace B9 : Blk w3 b9 o.cells.toArray 42 (0, 0) := B9
        replace E := E.trans e3 (M := []) (by simp) (by intro x hx; rw [List.mem_singleton.1 hx]; exact .inr (by omega))
        refine L.nil ?_
        have hsu := encWs_succ (show j < ws.length by omega)
        rw [hoe] at hsu
        have htl := encWs_take_le ws (j + 1)
        have hlo : (encWs (ws.take (j + 1))).length = (encWs (ws.take j)).length + (2 + o.B'.length) := by rw [hsu, List.length_append]; simp [encW, bi_length]
        refine N.seq ?_
        refine G.quiet (by decide +kernel) rfl ?_
        refine Q.val rfl rfl rfl rfl (fun w5 hE => R.mv rfl) ?_
        refine Q.val rfl rfl rfl rfl (fun w5 hE => R.fld rfl) ?_
        refine Q.val rfl rfl rfl rfl (fun w5 hE => R.ldB rfl (B9.ext0 hE) rfl) ?_
        refine Q.call (Value.string (str (bi 2 o.Block'))) rfl rfl rfl go34 (fun w5 hE => ⟨_, rfl, (refnumberI_ok 2 _ _ (by decide) (wf_i64 hok.1)).mono (fun _ _ h => h)⟩) ?_
        refine Q.val rfl rfl rfl rfl (fun w5 hE => R.fld rfl) ?_
        refine Q.val rfl rfl rfl rfl (fun w5 hE => R.ldB rfl (B9.ext0 hE) rfl) ?_
        refine Q.val rfl rfl rfl rfl (fun w5 hE => R.bytesStr rfl (hok.2.2.2.ext0 (E.trans0 hE)).cells hok.2.2.2.len) ?_
        refine Q.val rfl rfl rfl rfl (fun w5 hE => R.addStr rfl rfl (by rw [bi_length]; omega)) ?_
        refine Q.val rfl rfl rfl rfl (fun w5 hE => R.addStr rfl rfl (by simp only [List.length_append, bi_length]; omega)) ?_
        refine Q.val rfl rfl rfl rfl (fun w5 hE => R.as rfl) ?_
        refine Q.be 3 rfl (congrArg (fun q => Value.string (str q)) (show _ = (bi 1 k ++ (bi 4 t ++ bi 8 m) ++ bi 2 n) ++ encWs (ws.take (j + 1)) by rw [hsu]; simp [encW])) ?_
        refine Q.nil (fun w5 e5 => ?_)
        replace E := E.trans0 e5
        refine N.block ?_
        refine N.seq ?_
        refine G.region ?_
        refine L.val rfl rfl (R.add rfl rfl (by omega)) ?_
        refine L.val rfl rfl (R.mv rfl) ?_
        refine L.nil ?_
        exact N.again (j + 1) (by omega) (Sub.cons rfl (Sub.cons rfl (Sub.cons rfl (Sub.cons rfl (Sub.nil _))))) ⟨by omega, E⟩
      · obtain rfl : j = n := by omega
        rw [List.take_of_length_le (by omega)]
        refine G.exit _ rfl ?_
        refine N.seq ?_
        refine G.seq ?_
        refine G.region ?_
        refine L.val rfl rfl (R.mv rfl) ?_
        refine L.val rfl rfl (R.as rfl) ?_
        refine L.nil ?_
        refine N.seq ?_
        refine G.ret1 rfl rfl ?_
        exact ⟨by unfold recF; rw [if_neg h0, if_pos h1, ← hn]; simp only [List.append_assoc], E⟩
    · refine G.skip ?_
      refine N.seq ?_
      refine G.seq ?_
      refine G.region ?_
      refine L.val rfl rfl (R.mv rfl) ?_
      refine L.val rfl rfl (R.as rfl) ?_
      refine L.nil ?_
      refine N.seq ?_
      refine G.ret1 rfl rfl ?_
      exact ⟨by unfold recF; rw [if_neg h0, if_neg h1, List.append_nil], E⟩

theorem recF_length (k t m : Int) (ws : List WriteV) : (recF k t m ws).length ≤ 15 + (encWs ws).length := by
  unfold recF
  split
  · simp [bi_length]; omega
  · split <;> simp [bi_length] <;> omega
theorem refsec7_ok (k t m : Int) (a : Option Addr) (n c : Nat) (ws : List WriteV) (w : World) (hT : Tab w a n 2 (ws.map WriteV.cells)) (hO : ∀ o ∈ ws, o.ok w) (hb : (encWs ws).length ≤ 70368744177664) (hn2 : n ≤ 70368744177664) (hk : -9223372036854775808 ≤ k ∧ k ≤ 9223372036854775807)(ht : -9223372036854775808 ≤ t ∧ t ≤ 9223372036854775807)(hm : -9223372036854775808 ≤ m ∧ m ≤ 9223372036854775807) : Meets Try.prog 57 [.agg #[.int .i64 k, .int .i64 t, .int .i64 m, .slice a n c]] w (fun v w' => v = .int .i64 (secF ((recF k t m ws).length : Nat)) ∧ Ext [] w w') := by
  refine Meets.enter Try.func57 rfl 7 rfl (Nat.le_of_ble_eq_true rfl) ?_
  have E := Ext.refl [] w
  refine G.seq ?_
  refine G.region ?_
  refine L.do rfl rfl (R.box rfl) ?_
  rintro _ w1 ⟨b1, rfl, hb1, hs1, e1, B1⟩
  replace E := E.trans0 e1
  refine L.val rfl rfl (R.as rfl) ?_
  refine L.nil ?_
  refine N.seq ?_
  refine G.seq ?_
  refine G.region ?_
  refine L.val rfl rfl (R.ldBN rfl (by assumption) (by rfl)) ?_
  refine L.callF rfl rfl rfl go67 (refput7_ok _ _ _ _ _ _ _ _ ⟨hT.cells.ext0 E, hT.len, hT.each⟩ (fun o ho => (hO o ho).ext0 E) hb hn2 hk ht hm) ?_
  rintro _ w2 ⟨rfl, e2⟩
  replace E := E.trans0 e2
  refine L.val rfl rfl (R.lenStr rfl) ?_
  refine L.be 5 rfl (congrArg (Value.int .i64) (congrArg Nat.cast (str_size _))) ?_
  refine L.callF rfl rfl rfl go19 (refsec_ok _ _ (by have := recF_length k t m ws; omega)) ?_
  rintro _ _ ⟨rfl, hw⟩
  obtain rfl := hw.symm
  refine L.val rfl rfl (R.as rfl) ?_
  refine L.nil ?_
  refine N.seq ?_
  refine G.ret1 rfl rfl ?_
  exact ⟨rfl, E⟩

theorem tab_of_own {w : World} {E : Nat} {a : Option Addr} {n c : Nat} {ws : List WriteV} {M : List Nat} (h : Own w E 2 a n c (cellsW ws) M) (hn : ws.length = n) : Tab w a n 2 (ws.map WriteV.cells) :=
  ⟨h.cells, by rw [List.length_map]; exact hn.symm, fun vs hvs => by obtain ⟨o, _, rfl⟩ := List.mem_map.1 hvs; rfl⟩
theorem zeros_len {w : World} {ws : List WriteV} (h : ∀ i (h : i < ws.length), ws[i].Block' = i ∧ ws[i].B'n = 64 ∧ ws[i].ok w ∧ ∃ bb cs, ws[i].B'a = some ⟨bb, 0, none⟩ ∧ Blk w bb cs 5 (0, 0)) : (∀ o ∈ ws, o.ok w) ∧ (encWs ws).length = 66 * ws.length := by
  have h1 : ∀ o ∈ ws, o.ok w ∧ o.B'.length = 64 := by
    intro o ho
    obtain ⟨i, hi, rfl⟩ := List.mem_iff_getElem.1 ho
    obtain ⟨_, x2, x3, _⟩ := h i hi
    exact ⟨x3, by rw [← x3.2.2.2.len]; exact x2⟩
  exact ⟨fun o ho => (h1 o ho).1, encWs_length (fun x hx => (h1 x hx).2)⟩
theorem refcom_ok (n : Int) (w : World) (hn : -9223372036854775808 ≤ n ∧ n ≤ 9223372036854775807) : Meets Try.prog 23 [.int .i64 n] w (fun v w' => v = .int .i64 (comF n) ∧ Ext [] w w') := by
  refine Meets.enter Try.func23 rfl 13 rfl (Nat.le_of_ble_eq_true rfl) ?_
  have E := Ext.refl [] w
  refine G.seq ?_
  refine G.region ?_
  refine L.val rfl rfl (R.as rfl) ?_
  refine L.nil ?_
  refine N.seq ?_
  refine G.seq ?_
  refine G.seq ?_
  refine G.region ?_
  refine L.val rfl rfl (R.mv rfl) ?_
  refine L.val rfl rfl (R.lss rfl rfl) ?_
  refine L.val rfl rfl (R.mv rfl) ?_
  refine L.caseP 5 rfl (fun hg1_2 => ?_) (fun hg1_2 => ?_)
  · refine L.pass rfl rfl ?_
    refine L.pass rfl rfl ?_
    first | refine L.val rfl rfl (R.pickT rfl rfl) ?_ | refine L.val rfl rfl (R.pickF rfl rfl) ?_
    refine L.nil ?_
    refine N.seq ?_
    refine G.condT rfl ?_
    refine G.seq ?_
    refine G.region ?_
    refine L.val rfl rfl (R.as rfl) ?_
    refine L.nil ?_
    refine N.seq ?_
    refine G.ret1 rfl rfl ?_
    exact ⟨by rw [comF_no (by omega)], E⟩
  · refine L.val rfl rfl (R.mv rfl) ?_
    refine L.val rfl rfl (R.gtr rfl rfl) ?_
    first | refine L.val rfl rfl (R.pickT rfl rfl) ?_ | refine L.val rfl rfl (R.pickF rfl rfl) ?_
    refine L.nil ?_
    refine N.seq ?_
    refine G.condP rfl (fun h0 => ?_) (fun h0 => ?_)
    · refine G.seq ?_
      refine G.region ?_
      refine L.val rfl rfl (R.as rfl) ?_
      refine L.nil ?_
      refine N.seq ?_
      refine G.ret1 rfl rfl ?_
      exact ⟨by rw [comF_no (by omega)], E⟩
    · obtain ⟨n, rfl⟩ := Int.eq_ofNat_of_zero_le (show 0 ≤ n by omega)
      refine G.skip ?_
      refine N.seq ?_
      refine G.seq ?_
      refine G.region ?_
      refine L.val rfl rfl (R.mv rfl) ?_
      refine L.callF rfl rfl rfl go58 (writes_ok n _ (by omega)) ?_
      rintro _ w1 ⟨a1, c1, M, ws, rfl, hc1, hM, hl, e1, fM, hws⟩
      replace E := E.trans0 e1
      obtain ⟨hO, hle⟩ := zeros_len hws
      refine L.val rfl rfl (R.build rfl rfl) ?_
      refine L.callF rfl rfl rfl go57 (refsec7_ok 3 1 1 a1 n c1 ws _ (tab_of_own hM hl) hO (by omega) (by omega) (by decide) (by decide) (by decide)) ?_
      rintro _ w2 ⟨rfl, e2⟩
      replace E := E.trans0 e2
      refine L.val rfl rfl (R.as rfl) ?_
      refine L.nil ?_
      refine N.seq ?_
      refine G.ret1 rfl rfl ?_
      exact ⟨by rw [comF_yes (by omega)]; congr 2; rw [show ((recF 3 1 1 ws).length : Int) = 15 + 66 * (n : Int) from by simp [recF, bi_length, hle, hl]; omega], E⟩

theorem reffits_l (p q r n : Int) (w : World) (hp : -9223372036854775808 ≤ p ∧ p ≤ 9223372036854775807)(hq : -9223372036854775808 ≤ q ∧ q ≤ 9223372036854775807)(hr : -9223372036854775808 ≤ r ∧ r ≤ 9223372036854775807)(hn : -9223372036854775808 ≤ n ∧ n ≤ 9223372036854775807) : Meets Try.prog 22 [.agg #[.int .i64 p, .int .i64 q, .int .i64 r], .int .i64 n] w (fun v w' => v = .bool (decide (okFits p q r n)) ∧ Ext [] w w') := by
  refine Meets.enter Try.func22 rfl 26 rfl (Nat.le_of_ble_eq_true rfl) ?_
  have E := Ext.refl [] w
  refine G.seq ?_
  refine G.region ?_
  refine L.do rfl rfl (R.box rfl) ?_
  rintro _ w1 ⟨b2, rfl, hb2, hs2, e1, B2⟩
  replace E := E.trans0 e1
  refine L.val rfl rfl (R.as rfl) ?_
  refine L.nil ?_
  refine N.seq ?_
  refine G.seq ?_
  refine G.quiet (by decide +kernel) rfl ?_
  refine Q.val rfl rfl rfl rfl (fun w2 hE => R.ldBN rfl (Blk.ext0 (by assumption) hE) (by rfl)) ?_
  refine Q.call (.int .i64 (needF p q r)) rfl rfl rfl go56 (fun w2 hE => ⟨_, rfl, (refneed_ok _ _ _ _ hp hq hr).mono (fun _ _ h => h)⟩) ?_
  refine Q.val rfl rfl rfl rfl (fun w2 hE => R.gtr rfl rfl) ?_
  refine Q.val rfl rfl rfl rfl (fun w2 hE => R.mv rfl) ?_
  refine Q.caseP 8 rfl (fun hg1_3 => ?_) (fun hg1_3 => ?_)
  · refine Q.val rfl rfl rfl rfl (fun w2 hE => R.mv rfl) ?_
    refine Q.val rfl rfl rfl rfl (fun w2 hE => R.geq rfl rfl) ?_
    first | refine Q.val rfl rfl rfl rfl (fun w2 hE => R.pickT rfl rfl) ?_ | refine Q.val rfl rfl rfl rfl (fun w2 hE => R.pickF rfl rfl) ?_
    refine Q.val rfl rfl rfl rfl (fun w2 hE => R.mv rfl) ?_
    refine Q.caseP 12 rfl (fun hg1_7 => ?_) (fun hg1_7 => ?_)
    · refine Q.val rfl rfl rfl rfl (fun w2 hE => R.mv rfl) ?_
      refine Q.val rfl rfl rfl rfl (fun w2 hE => R.fld rfl) ?_
      refine Q.val rfl rfl rfl rfl (fun w2 hE => R.ldB rfl (Blk.ext0 (by assumption) hE) (by rfl)) ?_
      refine Q.val rfl rfl rfl rfl (fun w2 hE => R.leq rfl rfl) ?_
      first | refine Q.val rfl rfl rfl rfl (fun w2 hE => R.pickT rfl rfl) ?_ | refine Q.val rfl rfl rfl rfl (fun w2 hE => R.pickF rfl rfl) ?_
      refine Q.val rfl rfl rfl rfl (fun w2 hE => R.mv rfl) ?_
      refine Q.caseP 18 rfl (fun hg1_13 => ?_) (fun hg1_13 => ?_)
      · have hsh := needF_pos.1 hg1_3
        have hp64 := hsh.2.1
        have hr4 := hsh.2.2.2.2.1
        refine Q.val rfl rfl rfl rfl (fun w2 hE => R.mv rfl) ?_
        refine Q.call (.int .i64 (comF n)) rfl rfl rfl go23 (fun w2 hE => ⟨_, rfl, (refcom_ok _ _ hn).mono (fun _ _ h => h)⟩) ?_
        refine Q.val rfl rfl rfl rfl (fun w2 hE => R.fld rfl) ?_
        refine Q.val rfl rfl rfl rfl (fun w2 hE => R.ldB rfl (Blk.ext0 (by assumption) hE) (by rfl)) ?_
        refine Q.val rfl rfl rfl rfl (fun w2 hE => R.sub' rfl rfl (by omega)) ?_
        refine Q.val rfl rfl rfl rfl (fun w2 hE => R.leq rfl rfl) ?_
        first | refine Q.val rfl rfl rfl rfl (fun w2 hE => R.pickT rfl rfl) ?_ | refine Q.val rfl rfl rfl rfl (fun w2 hE => R.pickF rfl rfl) ?_
        refine Q.val rfl rfl rfl rfl (fun w2 hE => R.as rfl) ?_
        refine Q.nil (fun w2 e2 => ?_)
        replace E := E.trans0 e2
        refine N.seq ?_
        refine G.ret1 rfl rfl ?_
        exact ⟨congrArg Value.bool (fits_t hg1_3 (by omega) hg1_13), E⟩
      · refine Q.pass rfl rfl rfl ?_
        refine Q.pass rfl rfl rfl ?_
        refine Q.pass rfl rfl rfl ?_
        refine Q.pass rfl rfl rfl ?_
        refine Q.pass rfl rfl rfl ?_
        refine Q.pass rfl rfl rfl ?_
        first | refine Q.val rfl rfl rfl rfl (fun w2 hE => R.pickT rfl rfl) ?_ | refine Q.val rfl rfl rfl rfl (fun w2 hE => R.pickF rfl rfl) ?_
        refine Q.val rfl rfl rfl rfl (fun w2 hE => R.as rfl) ?_
        refine Q.nil (fun w2 e2 => ?_)
        replace E := E.trans0 e2
        refine N.seq ?_
        refine G.ret1 rfl rfl ?_
        exact ⟨congrArg Value.bool (fits_f (fun h => hg1_13 h.2.2)), E⟩
    · refine Q.pass rfl rfl rfl ?_
      refine Q.pass rfl rfl rfl ?_
      refine Q.pass rfl rfl rfl ?_
      refine Q.pass rfl rfl rfl ?_
      first | refine Q.val rfl rfl rfl rfl (fun w2 hE => R.pickT rfl rfl) ?_ | refine Q.val rfl rfl rfl rfl (fun w2 hE => R.pickF rfl rfl) ?_
      refine Q.val rfl rfl rfl rfl (fun w2 hE => R.mv rfl) ?_
      refine Q.pass rfl rfl rfl ?_
      refine Q.pass rfl rfl rfl ?_
      refine Q.pass rfl rfl rfl ?_
      refine Q.pass rfl rfl rfl ?_
      refine Q.pass rfl rfl rfl ?_
      refine Q.pass rfl rfl rfl ?_
      first | refine Q.val rfl rfl rfl rfl (fun w2 hE => R.pickT rfl rfl) ?_ | refine Q.val rfl rfl rfl rfl (fun w2 hE => R.pickF rfl rfl) ?_
      refine Q.val rfl rfl rfl rfl (fun w2 hE => R.as rfl) ?_
      refine Q.nil (fun w2 e2 => ?_)
      replace E := E.trans0 e2
      refine N.seq ?_
      refine G.ret1 rfl rfl ?_
      exact ⟨congrArg Value.bool (fits_f (fun h => hg1_7 h.2.1.1)), E⟩
  · refine Q.pass rfl rfl rfl ?_
    refine Q.pass rfl rfl rfl ?_
    first | refine Q.val rfl rfl rfl rfl (fun w2 hE => R.pickT rfl rfl) ?_ | refine Q.val rfl rfl rfl rfl (fun w2 hE => R.pickF rfl rfl) ?_
    refine Q.val rfl rfl rfl rfl (fun w2 hE => R.mv rfl) ?_
    refine Q.pass rfl rfl rfl ?_
    refine Q.pass rfl rfl rfl ?_
    refine Q.pass rfl rfl rfl ?_
    refine Q.pass rfl rfl rfl ?_
    first | refine Q.val rfl rfl rfl rfl (fun w2 hE => R.pickT rfl rfl) ?_ | refine Q.val rfl rfl rfl rfl (fun w2 hE => R.pickF rfl rfl) ?_
    refine Q.val rfl rfl rfl rfl (fun w2 hE => R.mv rfl) ?_
    refine Q.pass rfl rfl rfl ?_
    refine Q.pass rfl rfl rfl ?_
    refine Q.pass rfl rfl rfl ?_
    refine Q.pass rfl rfl rfl ?_
    refine Q.pass rfl rfl rfl ?_
    refine Q.pass rfl rfl rfl ?_
    first | refine Q.val rfl rfl rfl rfl (fun w2 hE => R.pickT rfl rfl) ?_ | refine Q.val rfl rfl rfl rfl (fun w2 hE => R.pickF rfl rfl) ?_
    refine Q.val rfl rfl rfl rfl (fun w2 hE => R.as rfl) ?_
    refine Q.nil (fun w2 e2 => ?_)
    replace E := E.trans0 e2
    refine N.seq ?_
    refine G.ret1 rfl rfl ?_
    exact ⟨congrArg Value.bool (fits_f (fun h => hg1_3 h.1)), E⟩

theorem rising_ok (a : Option Addr) (n c : Nat) (ws : List WriteV) (w : World) (hT : Tab w a n 2 (ws.map WriteV.cells)) (hO : ∀ o ∈ ws, o.ok w) (hws : ∀ i (h : i < ws.length), ws[i].Block' = i ∧ ws[i].B'n = 64) (hn64 : n ≤ 64) : Meets Try.prog 54 [.slice a n c] w (fun v w' => v = .bool true ∧ Ext [] w w') := by
  refine Meets.enter Try.func54 rfl 42 rfl (Nat.le_of_ble_eq_true rfl) ?_
  have E := Ext.refl [] w
  have hn := hT.len
  rw [List.length_map] at hn
  refine G.seq ?_
  refine G.region ?_
  refine L.val rfl rfl (R.as rfl) ?_
  refine L.nil ?_
  refine N.seq ?_
  refine G.seq ?_
  refine G.seq ?_
  refine G.region ?_
  refine L.val rfl rfl (R.mv rfl) ?_
  refine L.val rfl rfl (R.lenS rfl) ?_
  refine L.val rfl rfl (R.mv rfl) ?_
  refine L.nil ?_
  refine N.seq ?_
  refine G.block ?_
  refine G.loop (X := Nat) (fun j => [(0, .slice a n c), (5, .slice a n c), (6, .int .i64 n), (7, .int .i64 (j : Nat))]) (fun j w' => j ≤ n ∧ Ext [] w w') (fun j => n - j) (0) (Sub.cons rfl (Sub.cons rfl (Sub.cons rfl (Sub.cons rfl (Sub.nil _))))) ⟨by omega, E⟩ ?_
  rintro j w1 ⟨hj, E⟩
  refine G.seq ?_
  refine G.region ?_
  refine L.val rfl rfl (R.lss rfl rfl) ?_
  refine L.nil ?_
  refine N.seq ?_
  refine G.seq ?_
  refine G.condP rfl (fun h0 => ?_) (fun h0 => ?_)
  · refine G.skip ?_
    refine N.seq ?_
    refine G.seq ?_
    refine G.block ?_
    refine G.seq ?_
    refine G.region ?_
    refine L.val rfl rfl (R.mv rfl) ?_
    obtain ⟨q9, hq9, hcl⟩ := hT.at (by decide) j (by rw [List.length_map]; omega)
    rw [List.getElem_map] at hcl
    have hok := hO _ (List.getElem_mem (show j < ws.length by omega))
    generalize hoe : ws[j]'(by omega) = o at *
    refine L.val rfl rfl (R.idx rfl rfl (by omega) (by omega) q9 hq9) ?_
    refine L.val rfl rfl (R.ldN rfl (hcl.ext0 E) rfl) ?_
    refine L.do rfl rfl (R.alloc) ?_
    rintro _ w2 ⟨b9, rfl, hb9, hs9, e2, B9⟩
    have hEb := E.size
    replace E := E.trans0 e2
    refine L.val rfl rfl (R.as rfl) ?_
    refine L.set rfl (R.stN rfl rfl B9 rfl (Nat.le_refl 2) (WriteV.cells.one _)) ?_
    rintro w3 ⟨e3, hs3, B9⟩
    replace B9 : Blk w3 b9 o.cells.toArray 42 (0, 0) := B9
    replace E := E.trans e3 (M := []) (by simp) (by intro x hx; rw [List.mem_singleton.1 hx]; exact .inr (by omega))
    refine L.nil ?_
    have hbj : o.Block' = j ∧ o.B'n = 64 := by rw [← hoe]; exact hws j (by omega)
    refine N.seq ?_
    refine G.seq ?_
    refine G.quiet (by decide +kernel) rfl ?_
    refine Q.val rfl rfl rfl rfl (fun w4 hE => R.fld rfl) ?_
    refine Q.val rfl rfl rfl rfl (fun w4 hE => R.ldB rfl (B9.ext0 hE) rfl) ?_
    refine Q.val rfl rfl rfl rfl (fun w4 hE => R.lss rfl rfl) ?_
    refine Q.val rfl rfl rfl rfl (fun w4 hE => R.mv rfl) ?_
    refine Q.isF 15 rfl (by rw [decide_eq_false (by omega)]) ?_
    refine Q.val rfl rfl rfl rfl (fun w4 hE => R.fld rfl) ?_
    refine Q.val rfl rfl rfl rfl (fun w4 hE => R.ldB rfl (B9.ext0 hE) rfl) ?_
    refine Q.val rfl rfl rfl rfl (fun w4 hE => R.gtr rfl rfl) ?_
    first | refine Q.val rfl rfl rfl rfl (fun w4 hE => R.pickT rfl rfl) ?_ | refine Q.val rfl rfl rfl rfl (fun w4 hE => R.pickF rfl rfl) ?_
    refine Q.val rfl rfl rfl rfl (fun w4 hE => R.mv rfl) ?_
    refine Q.isF 20 rfl (by rw [decide_eq_false (by omega)]) ?_
    refine Q.val rfl rfl rfl rfl (fun w4 hE => R.fld rfl) ?_
    refine Q.val rfl rfl rfl rfl (fun w4 hE => R.ldB rfl (B9.ext0 hE) rfl) ?_
    refine Q.val rfl rfl rfl rfl (fun w4 hE => R.lenS rfl) ?_
    refine Q.val rfl rfl rfl rfl (fun w4 hE => R.neI rfl rfl) ?_
    first | refine Q.val rfl rfl rfl rfl (fun w4 hE => R.pickT rfl rfl) ?_ | refine Q.val rfl rfl rfl rfl (fun w4 hE => R.pickF rfl rfl) ?_
    refine Q.val rfl rfl rfl rfl (fun w4 hE => R.mv rfl) ?_
    refine Q.isF 26 rfl (by rw [decide_eq_false (by omega)]) ?_
    refine Q.val rfl rfl rfl rfl (fun w4 hE => R.mv rfl) ?_
    refine Q.val rfl rfl rfl rfl (fun w4 hE => R.gtr rfl rfl) ?_
    refine Q.val rfl rfl rfl rfl (fun w4 hE => R.mv rfl) ?_
    refine Q.caseP 29 rfl (fun hg4_17 => ?_) (fun hg4_17 => ?_)
    · obtain ⟨q8, hq8, hcl8⟩ := hT.at (by decide) (j - 1) (by rw [List.length_map]; omega)
      rw [List.getElem_map] at hcl8
      have hb8 := (hws (j - 1) (by omega)).1
      obtain ⟨_, hq8', hc8⟩ := hcl8 0 _ rfl
      cases hq8'
      have hc9 : w.cell? ((q8.add ((j - 1) * 2)).add 0) = some (.int .i64 ((j - 1 : Nat) : Int)) := by rw [← hb8]; exact hc8
      refine Q.val rfl rfl rfl rfl (fun w4 hE => R.mv rfl) ?_
      refine Q.val rfl rfl rfl rfl (fun w4 hE => R.mv rfl) ?_
      refine Q.val rfl rfl rfl rfl (fun w4 hE => R.sub' rfl rfl (by omega)) ?_
      refine Q.be 32 rfl (congrArg (Value.int .i64) (show (j : Int) - 1 = ((j - 1 : Nat) : Int) by omega)) ?_
      refine Q.val rfl rfl rfl rfl (fun w4 hE => R.idx rfl rfl (by omega) (by omega) q8 hq8) ?_
      refine Q.val rfl rfl rfl rfl (fun w4 hE => R.fldA rfl) ?_
      refine Q.val rfl rfl rfl rfl (fun w4 hE => R.ld rfl (cell?_ext0' hc9 (E.trans0 hE))) ?_
      refine Q.val rfl rfl rfl rfl (fun w4 hE => R.fld rfl) ?_
      refine Q.val rfl rfl rfl rfl (fun w4 hE => R.ldB rfl (B9.ext0 hE) rfl) ?_
      refine Q.val rfl rfl rfl rfl (fun w4 hE => R.geq rfl rfl) ?_
      first | refine Q.val rfl rfl rfl rfl (fun w4 hE => R.pickT rfl rfl) ?_ | refine Q.val rfl rfl rfl rfl (fun w4 hE => R.pickF rfl rfl) ?_
      first | refine Q.val rfl rfl rfl rfl (fun w4 hE => R.pickT rfl rfl) ?_ | refine Q.val rfl rfl rfl rfl (fun w4 hE => R.pickF rfl rfl) ?_
      refine Q.nil (fun w4 e4 => ?_)
      replace E := E.trans0 e4
      refine N.seq ?_
      refine G.condP rfl (fun h1 => ?_) (fun h1 => ?_)
      · exfalso; omega
      · refine G.skip ?_
        refine N.block ?_
        refine N.seq ?_
        refine G.region ?_
        refine L.val rfl rfl (R.add rfl rfl (by omega)) ?_
        refine L.val rfl rfl (R.mv rfl) ?_
        refine L.nil ?_
        exact N.again (j + 1) (by omega) (Sub.cons rfl (Sub.cons rfl (Sub.cons rfl (Sub.cons rfl (Sub.nil _))))) ⟨by omega, E⟩
    · refine Q.pass rfl rfl rfl ?_
      refine Q.pass rfl rfl rfl ?_
      refine Q.pass rfl rfl rfl ?_
      refine Q.pass rfl rfl rfl ?_
      refine Q.pass rfl rfl rfl ?_
      refine Q.pass rfl rfl rfl ?_
      refine Q.pass rfl rfl rfl ?_
      refine Q.pass rfl rfl rfl ?_
      refine Q.pass rfl rfl rfl ?_
      first | refine Q.val rfl rfl rfl rfl (fun w4 hE => R.pickT rfl rfl) ?_ | refine Q.val rfl rfl rfl rfl (fun w4 hE => R.pickF rfl rfl) ?_
      first | refine Q.val rfl rfl rfl rfl (fun w4 hE => R.pickT rfl rfl) ?_ | refine Q.val rfl rfl rfl rfl (fun w4 hE => R.pickF rfl rfl) ?_
      refine Q.nil (fun w4 e4 => ?_)
      replace E := E.trans0 e4
      refine N.seq ?_
      refine G.condF rfl ?_
      refine G.skip ?_
      refine N.block ?_
      refine N.seq ?_
      refine G.region ?_
      refine L.val rfl rfl (R.add rfl rfl (by omega)) ?_
      refine L.val rfl rfl (R.mv rfl) ?_
      refine L.nil ?_
      exact N.again (j + 1) (by omega) (Sub.cons rfl (Sub.cons rfl (Sub.cons rfl (Sub.cons rfl (Sub.nil _))))) ⟨by omega, E⟩
  · refine G.exit _ rfl ?_
    refine N.seq ?_
    refine G.seq ?_
    refine G.region ?_
    refine L.val rfl rfl (R.as rfl) ?_
    refine L.nil ?_
    refine N.seq ?_
    refine G.ret1 rfl rfl ?_
    exact ⟨rfl, E⟩

theorem refput19_ok (a : Option Addr) (n c : Nat) (ws : List WriteV) (w : World) (hT : Tab w a n 2 (ws.map WriteV.cells)) (hO : ∀ o ∈ ws, o.ok w) (hb : (encWs ws).length ≤ 70368744177664) (hws : ∀ i (h : i < ws.length), ws[i].Block' = i ∧ ws[i].B'n = 64) (hn64 : n ≤ 64) : Meets Try.prog 20 [.slice a n c] w (fun v w' => v = .string (str (bi 2 n ++ encWs ws)) ∧ Ext [] w w') := by
  refine Meets.enter Try.func20 rfl 29 rfl (Nat.le_of_ble_eq_true rfl) ?_
  have E := Ext.refl [] w
  have hn := hT.len
  rw [List.length_map] at hn
  refine G.seq ?_
  refine G.region ?_
  refine L.val rfl rfl (R.as rfl) ?_
  refine L.nil ?_
  refine N.seq ?_
  refine G.seq ?_
  refine G.seq ?_
  refine G.region ?_
  refine L.val rfl rfl (R.mv rfl) ?_
  refine L.callF rfl rfl rfl go54 (rising_ok _ _ _ _ _ hT hO hws hn64) ?_
  rintro _ w1 ⟨rfl, e1⟩
  replace E := E.trans0 e1
  refine L.val rfl rfl (R.not rfl) ?_
  refine L.nil ?_
  refine N.seq ?_
  refine G.condF rfl ?_
  refine G.skip ?_
  refine N.seq ?_
  refine G.seq ?_
  refine G.region ?_
  refine L.val rfl rfl (R.mv rfl) ?_
  refine L.val rfl rfl (R.lenS rfl) ?_
  refine L.callF rfl rfl rfl go34 (refnumberI_ok 2 _ _ (by decide) (by omega)) ?_
  rintro _ w4 ⟨rfl, e4⟩
  replace E := E.trans0 e4
  refine L.val rfl rfl (R.as rfl) ?_
  refine L.nil ?_
  refine N.seq ?_
  refine G.seq ?_
  refine G.seq ?_
  refine G.region ?_
  refine L.val rfl rfl (R.mv rfl) ?_
  refine L.val rfl rfl (R.lenS rfl) ?_
  refine L.val rfl rfl (R.mv rfl) ?_
  refine L.nil ?_
  refine N.seq ?_
  refine G.block ?_
  refine G.be 3 rfl (congrArg (fun q => Value.string (str q)) (show _ = bi 2 n ++ encWs (ws.take 0) by simp [encWs])) ?_
  refine G.loop (X := Nat) (fun j => [(3, .string (str (bi 2 n ++ encWs (ws.take j)))), (12, .slice a n c), (13, .int .i64 n), (14, .int .i64 (j : Nat))]) (fun j w' => j ≤ n ∧ Ext [] w w') (fun j => n - j) (0) (Sub.cons rfl (Sub.cons rfl (Sub.cons rfl (Sub.cons rfl (Sub.nil _))))) ⟨by omega, E⟩ ?_
  rintro j w1 ⟨hj, E⟩
  refine G.seq ?_
  refine G.region ?_
  refine L.val rfl rfl (R.lss rfl rfl) ?_
  refine L.nil ?_
  refine N.seq ?_
  refine G.seq ?_
  refine G.condP rfl (fun h1 => ?_) (fun h1 => ?_)
  · refine G.skip ?_
    refine N.seq ?_
    refine G.seq ?_
    refine G.block ?_
    refine G.seq ?_
    refine G.region ?_
    obtain ⟨q9, hq9, hcl⟩ := hT.at (by decide) j (by rw [List.length_map]; omega)
    rw [List.getElem_map] at hcl
    have hok := hO _ (List.getElem_mem (show j < ws.length by omega))
    generalize hoe : ws[j]'(by omega) = o at *
    refine L.val rfl rfl (R.idx rfl rfl (by omega) (by omega) q9 hq9) ?_
    refine L.val rfl rfl (R.ldN rfl (hcl.ext0 E) rfl) ?_
    refine L.do rfl rfl (R.alloc) ?_
    rintro _ w2 ⟨b9, rfl, hb9, hs9, e2, B9⟩
    have hEb := E.size
    replace E := E.trans0 e2
    refine L.set rfl (R.stN rfl rfl B9 rfl (Nat.le_refl 2) (WriteV.cells.one _)) ?_
    rintro w3 ⟨e3, hs3, B9⟩
    replace B9 : Blk w3 b9 o.cells.toArray 42 (0, 0) := B9
    replace E := E.trans e3 (M := []) (by simp) (by intro x hx; rw [List.mem_singleton.1 hx]; exact .inr (by omega))
    refine L.nil ?_
    have hsu := encWs_succ (show j < ws.length by omega)
    rw [hoe] at hsu
    have htl := encWs_take_le ws (j + 1)
    have hlo : (encWs (ws.take (j + 1))).length = (encWs (ws.take j)).length + (2 + o.B'.length) := by rw [hsu, List.length_append]; simp [encW, bi_length]
    refine N.seq ?_
    refine G.quiet (by decide +kernel) rfl ?_
    refine Q.val rfl rfl rfl rfl (fun w5 hE => R.mv rfl) ?_
    refine Q.val rfl rfl rfl rfl (fun w5 hE => R.fld rfl) ?_
    refine Q.val rfl rfl rfl rfl (fun w5 hE => R.ldB rfl (B9.ext0 hE) rfl) ?_
    refine Q.call (Value.string (str (bi 2 o.Block'))) rfl rfl rfl go34 (fun w5 hE => ⟨_, rfl, (refnumberI_ok 2 _ _ (by decide) (wf_i64 hok.1)).mono (fun _ _ h => h)⟩) ?_
    refine Q.val rfl rfl rfl rfl (fun w5 hE => R.fld rfl) ?_
    refine Q.val rfl rfl rfl rfl (fun w5 hE => R.ldB rfl (B9.ext0 hE) rfl) ?_
    refine Q.val rfl rfl rfl rfl (fun w5 hE => R.bytesStr rfl (hok.2.2.2.ext0 (E.trans0 hE)).cells hok.2.2.2.len) ?_
    refine Q.val rfl rfl rfl rfl (fun w5 hE => R.addStr rfl rfl (by rw [bi_length]; omega)) ?_
    refine Q.val rfl rfl rfl rfl (fun w5 hE => R.addStr rfl rfl (by simp only [List.length_append, bi_length]; omega)) ?_
    refine Q.val rfl rfl rfl rfl (fun w5 hE => R.as rfl) ?_
    refine Q.be 3 rfl (congrArg (fun q => Value.string (str q)) (show _ = bi 2 n ++ encWs (ws.take (j + 1)) by rw [hsu]; simp [encW])) ?_
    refine Q.nil (fun w5 e5 => ?_)
    replace E := E.trans0 e5
    refine N.block ?_
    refine N.seq ?_
    refine G.region ?_
    refine L.val rfl rfl (R.add rfl rfl (by omega)) ?_
    refine L.val rfl rfl (R.mv rfl) ?_
    refine L.nil ?_
    exact N.again (j + 1) (by omega) (Sub.cons rfl (Sub.cons rfl (Sub.cons rfl (Sub.cons rfl (Sub.nil _))))) ⟨by omega, E⟩
  · obtain rfl : j = n := by omega
    rw [List.take_of_length_le (by omega)]
    refine G.exit _ rfl ?_
    refine N.seq ?_
    refine G.seq ?_
    refine G.region ?_
    refine L.val rfl rfl (R.mv rfl) ?_
    refine L.val rfl rfl (R.as rfl) ?_
    refine L.nil ?_
    refine N.seq ?_
    refine G.ret1 rfl rfl ?_
    exact ⟨rfl, E⟩

theorem refbytes16_ok (x : Int) (a : Option Addr) (n c : Nat) (os : List ItemV) (w : World) (hT : Tab w a n 9 (os.map ItemV.cells)) (hO : ∀ o ∈ os, o.ok w) (hn60 : n ≤ 60) (h60 : ∀ o ∈ os, o.At'n ≤ 60) (hx : -9223372036854775808 ≤ x ∧ x ≤ 9223372036854775807) : Meets Try.prog 61 [.int .i64 x, .slice a n c] w (fun v w' => ∃ t, v = .string (str t) ∧ t.length = itemsLen os ∧ Ext [] w w') := by
  refine Meets.enter Try.func61 rfl 79 rfl (Nat.le_of_ble_eq_true rfl) ?_
  have E := Ext.refl [] w
  have hn := hT.len
  rw [List.length_map] at hn
  refine G.seq ?_
  refine G.region ?_
  refine L.val rfl rfl (R.as rfl) ?_
  refine L.nil ?_
  refine N.seq ?_
  refine G.seq ?_
  refine G.region ?_
  refine L.val rfl rfl (R.mv rfl) ?_
  refine L.callF rfl rfl rfl go34 (refnumberI_ok 8 _ _ (by decide) hx) ?_
  rintro _ w1 ⟨rfl, e1⟩
  replace E := E.trans0 e1
  refine L.val rfl rfl (R.mv rfl) ?_
  refine L.val rfl rfl (R.lenS rfl) ?_
  refine L.callF rfl rfl rfl go34 (refnumberI_ok 2 _ _ (by decide) (by omega)) ?_
  rintro _ w1 ⟨rfl, e1⟩
  replace E := E.trans0 e1
  refine L.val rfl rfl (R.addStr rfl rfl (by simp [bi_length])) ?_
  refine L.val rfl rfl (R.as rfl) ?_
  refine L.nil ?_
  refine N.seq ?_
  refine G.seq ?_
  refine G.seq ?_
  refine G.region ?_
  refine L.val rfl rfl (R.mv rfl) ?_
  refine L.val rfl rfl (R.lenS rfl) ?_
  refine L.val rfl rfl (R.mv rfl) ?_
  refine L.nil ?_
  refine N.seq ?_
  refine G.block ?_
  obtain ⟨s0, hs0, hsl⟩ : ∃ s0 : List UInt8, bi 8 x ++ bi 2 n = s0 ∧ s0.length = itemsLen (os.take 0) := ⟨_, rfl, by simp [bi_length, itemsLen]⟩
  refine G.be 5 rfl (congrArg (fun q => Value.string (str q)) hs0) ?_
  refine G.loop (X := Nat × List UInt8) (fun x => [(5, .string (str x.2)), (16, .slice a n c), (17, .int .i64 n), (18, .int .i64 (x.1 : Nat))]) (fun x w' => x.1 ≤ n ∧ x.2.length = itemsLen (os.take x.1) ∧ itemsLen (os.take x.1) ≤ 10 + 1015 * x.1 ∧ Ext [] w w') (fun x => n - x.1) ((0, s0)) (Sub.cons rfl (Sub.cons rfl (Sub.cons rfl (Sub.cons rfl (Sub.nil _))))) ⟨by simp, hsl, by simp [itemsLen], E⟩ ?_
  rintro ⟨k, t⟩ w1 ⟨hk, ht, hle, E⟩
  dsimp only at hk ht hle
  refine G.be 5 rfl (show _ = Value.string (str t) from rfl) ?_
  refine G.be 18 rfl (show _ = Value.int .i64 (k : Nat) from rfl) ?_
  refine G.seq ?_
  refine G.region ?_
  refine L.val rfl rfl (R.lss rfl rfl) ?_
  refine L.nil ?_
  refine N.seq ?_
  refine G.seq ?_
  refine G.condP rfl (fun h0 => ?_) (fun h0 => ?_)
  · refine G.skip ?_
    refine N.seq ?_
    refine G.seq ?_
    refine G.block ?_
    refine G.seq ?_
    refine G.region ?_
    obtain ⟨q9, hq9, hcl⟩ := hT.at (by decide) k (by rw [List.length_map]; omega)
    rw [List.getElem_map] at hcl
    have hok := hO _ (List.getElem_mem (show k < os.length by omega))
    generalize hoe : os[k]'(by omega) = o at *
    refine L.val rfl rfl (R.idx rfl rfl (by omega) (by omega) q9 hq9) ?_
    refine L.val rfl rfl (R.ldN rfl (hcl.ext0 E) rfl) ?_
    refine L.do rfl rfl (R.alloc) ?_
    rintro _ w2 ⟨b9, rfl, hb9, hs9, e2, B9⟩
    have hEb := E.size
    replace E := E.trans0 e2
    refine L.set rfl (R.stN rfl rfl B9 rfl (Nat.le_refl 9) (ItemV.cells.one _)) ?_
    rintro w3 ⟨e3, hs3, B9⟩
    replace B9 : Blk w3 b9 o.cells.toArray 39 (0, 0) := B9
    replace E := E.trans e3 (M := []) (by simp) (by intro x hx; rw [List.mem_singleton.1 hx]; exact .inr (by omega))
    refine L.nil ?_
    have hsu := itemsLen_succ (show k < os.length by omega)
    rw [hoe] at hsu
    have hat : o.At'n ≤ 60 := by rw [← hoe]; exact h60 _ (List.getElem_mem (by omega))
    have hle2 : itemsLen (os.take (k + 1)) ≤ 10 + 1015 * (k + 1) := by omega
    obtain ⟨hk0, hk1, hk2, hk3, hk4, hk5, hk6, hk7, hk8⟩ := hok
    refine N.seq ?_
    refine G.seq ?_
    refine G.quiet (by decide +kernel) rfl ?_
    refine Q.val rfl rfl rfl rfl (fun w4 hE => R.mv rfl) ?_
    refine Q.val rfl rfl rfl rfl (fun w4 hE => R.fld rfl) ?_
    refine Q.val rfl rfl rfl rfl (fun w4 hE => R.ldB rfl (B9.ext0 hE) rfl) ?_
    refine Q.call (Value.string (str (bi 8 o.Id'))) rfl rfl rfl go34 (fun w4 hE => ⟨_, rfl, (refnumberI_ok 8 _ _ (by decide) (wf_i64 hk0)).mono (fun _ _ h => h)⟩) ?_
    refine Q.val rfl rfl rfl rfl (fun w4 hE => R.fld rfl) ?_
    refine Q.val rfl rfl rfl rfl (fun w4 hE => R.ldB rfl (B9.ext0 hE) rfl) ?_
    refine Q.call (Value.string (str (bi 1 o.Kind'))) rfl rfl rfl go34 (fun w4 hE => ⟨_, rfl, (refnumberI_ok 1 _ _ (by decide) (wf_i64 hk1)).mono (fun _ _ h => h)⟩) ?_
    refine Q.val rfl rfl rfl rfl (fun w4 hE => R.addStr rfl rfl (by simp [bi_length] <;> omega)) ?_
    refine Q.val rfl rfl rfl rfl (fun w4 hE => R.fld rfl) ?_
    refine Q.val rfl rfl rfl rfl (fun w4 hE => R.ldB rfl (B9.ext0 hE) rfl) ?_
    refine Q.call (Value.string (str (bi 4 o.Timeline'))) rfl rfl rfl go34 (fun w4 hE => ⟨_, rfl, (refnumberI_ok 4 _ _ (by decide) (wf_i64 hk2)).mono (fun _ _ h => h)⟩) ?_
    refine Q.val rfl rfl rfl rfl (fun w4 hE => R.addStr rfl rfl (by simp [bi_length] <;> omega)) ?_
    refine Q.val rfl rfl rfl rfl (fun w4 hE => R.fld rfl) ?_
    refine Q.val rfl rfl rfl rfl (fun w4 hE => R.ldB rfl (B9.ext0 hE) rfl) ?_
    refine Q.call (Value.string (str (bi 8 o.Number'))) rfl rfl rfl go34 (fun w4 hE => ⟨_, rfl, (refnumberI_ok 8 _ _ (by decide) (wf_i64 hk3)).mono (fun _ _ h => h)⟩) ?_
    refine Q.val rfl rfl rfl rfl (fun w4 hE => R.addStr rfl rfl (by simp [bi_length] <;> omega)) ?_
    refine Q.val rfl rfl rfl rfl (fun w4 hE => R.fld rfl) ?_
    refine Q.val rfl rfl rfl rfl (fun w4 hE => R.ldB rfl (B9.ext0 hE) rfl) ?_
    refine Q.call (Value.string (str (bi 8 o.A'))) rfl rfl rfl go34 (fun w4 hE => ⟨_, rfl, (refnumberI_ok 8 _ _ (by decide) (wf_i64 hk4)).mono (fun _ _ h => h)⟩) ?_
    refine Q.val rfl rfl rfl rfl (fun w4 hE => R.addStr rfl rfl (by simp [bi_length] <;> omega)) ?_
    refine Q.val rfl rfl rfl rfl (fun w4 hE => R.fld rfl) ?_
    refine Q.val rfl rfl rfl rfl (fun w4 hE => R.ldB rfl (B9.ext0 hE) rfl) ?_
    refine Q.call (Value.string (str (bi 8 o.B'))) rfl rfl rfl go34 (fun w4 hE => ⟨_, rfl, (refnumberI_ok 8 _ _ (by decide) (wf_i64 hk5)).mono (fun _ _ h => h)⟩) ?_
    refine Q.val rfl rfl rfl rfl (fun w4 hE => R.addStr rfl rfl (by simp [bi_length] <;> omega)) ?_
    refine Q.val rfl rfl rfl rfl (fun w4 hE => R.fld rfl) ?_
    refine Q.val rfl rfl rfl rfl (fun w4 hE => R.ldB rfl (B9.ext0 hE) rfl) ?_
    refine Q.call (Value.string (str (bi 8 o.Parent'))) rfl rfl rfl go34 (fun w4 hE => ⟨_, rfl, (refnumberI_ok 8 _ _ (by decide) (wf_i64 hk6)).mono (fun _ _ h => h)⟩) ?_
    refine Q.val rfl rfl rfl rfl (fun w4 hE => R.addStr rfl rfl (by simp [bi_length] <;> omega)) ?_
    refine Q.val rfl rfl rfl rfl (fun w4 hE => R.fld rfl) ?_
    refine Q.val rfl rfl rfl rfl (fun w4 hE => R.ldB rfl (B9.ext0 hE) rfl) ?_
    refine Q.call (Value.string (str (bi 8 o.Length'))) rfl rfl rfl go34 (fun w4 hE => ⟨_, rfl, (refnumberI_ok 8 _ _ (by decide) (wf_i64 hk7)).mono (fun _ _ h => h)⟩) ?_
    refine Q.val rfl rfl rfl rfl (fun w4 hE => R.addStr rfl rfl (by simp [bi_length] <;> omega)) ?_
    refine Q.val rfl rfl rfl rfl (fun w4 hE => R.fld rfl) ?_
    refine Q.val rfl rfl rfl rfl (fun w4 hE => R.ldB rfl (B9.ext0 hE) rfl) ?_
    refine Q.val rfl rfl rfl rfl (fun w4 hE => R.lenS rfl) ?_
    refine Q.call (Value.string (str (bi 2 o.At'n))) rfl rfl rfl go34 (fun w4 hE => ⟨_, rfl, (refnumberI_ok 2 _ _ (by decide) (by omega)).mono (fun _ _ h => h)⟩) ?_
    refine Q.val rfl rfl rfl rfl (fun w4 hE => R.addStr rfl rfl (by simp [bi_length] <;> omega)) ?_
    refine Q.val rfl rfl rfl rfl (fun w4 hE => R.addStr rfl rfl (by simp [bi_length] <;> omega)) ?_
    refine Q.val rfl rfl rfl rfl (fun w4 hE => R.as rfl) ?_
    refine Q.nil (fun w4 e4 => ?_)
    replace B9 := B9.ext0 e4
    replace E := E.trans0 e4
    refine N.seq ?_
    refine G.seq ?_
    refine G.region ?_
    obtain ⟨hk9, hk10, hTx, hOx⟩ := hk8
    have hnx := hTx.len
    rw [List.length_map] at hnx
    refine L.val rfl rfl (R.fld rfl) ?_
    refine L.val rfl rfl (R.ldB rfl B9 rfl) ?_
    refine L.val rfl rfl (R.lenS rfl) ?_
    refine L.val rfl rfl (R.mv rfl) ?_
    refine L.nil ?_
    refine N.seq ?_
    refine G.block ?_
    obtain ⟨s1, hs1, hsl1⟩ : ∃ s1 : List UInt8, t ++ (bi 8 o.Id' ++ bi 1 o.Kind' ++ bi 4 o.Timeline' ++ bi 8 o.Number' ++ bi 8 o.A' ++ bi 8 o.B' ++ bi 8 o.Parent' ++ bi 8 o.Length' ++ bi 2 o.At'n) = s1 ∧ s1.length = t.length + 55 := ⟨_, rfl, by simp [bi_length]⟩
    refine G.be 5 rfl (congrArg (fun q => Value.string (str q)) hs1) ?_
    refine G.loop (X := Nat × List UInt8) (fun x => [(5, .string (str x.2)), (16, .slice a n c), (17, .int .i64 n), (18, .int .i64 (k : Nat)), (61, .slice o.At'a o.At'n o.At'c), (62, .int .i64 o.At'n), (63, .int .i64 (x.1 : Nat))]) (fun x w' => x.1 ≤ o.At'n ∧ x.2.length = t.length + 55 + 16 * x.1 ∧ Ext [] w w') (fun x => o.At'n - x.1) ((0, s1)) (Sub.cons rfl (Sub.cons rfl (Sub.cons rfl (Sub.cons rfl (Sub.cons rfl (Sub.cons rfl (Sub.cons rfl (Sub.nil _)))))))) ⟨by simp, by simp only; omega, E⟩ ?_
    rintro ⟨j, u⟩ w1 ⟨hj, hu, E⟩
    dsimp only at hj hu
    refine G.be 5 rfl (show _ = Value.string (str u) from rfl) ?_
    refine G.be 63 rfl (show _ = Value.int .i64 (j : Nat) from rfl) ?_
    refine G.seq ?_
    refine G.region ?_
    refine L.val rfl rfl (R.lss rfl rfl) ?_
    refine L.nil ?_
    refine N.seq ?_
    refine G.seq ?_
    refine G.condP rfl (fun h1 => ?_) (fun h1 => ?_)
    · refine G.skip ?_
      refine N.seq ?_
      refine G.seq ?_
      refine G.block ?_
      refine G.seq ?_
      refine G.region ?_
      obtain ⟨q9, hq9, hcl⟩ := hTx.at (by decide) j (by rw [List.length_map]; omega)
      rw [List.getElem_map] at hcl
      have hokx := hOx _ (List.getElem_mem (show j < o.At'.length by omega))
      generalize hoex : o.At'[j]'(by omega) = ex at *
      refine L.val rfl rfl (R.idx rfl rfl (by omega) (by omega) q9 hq9) ?_
      refine L.val rfl rfl (R.ldN rfl (hcl.ext0 E) rfl) ?_
      refine L.do rfl rfl (R.alloc) ?_
      rintro _ w2 ⟨b9, rfl, hb9, hs9, e2, B9⟩
      have hEb := E.size
      replace E := E.trans0 e2
      refine L.set rfl (R.stN rfl rfl B9 rfl (Nat.le_refl 2) (ExtV.cells.one _)) ?_
      rintro w3 ⟨e3, hs3, B9⟩
      replace B9 : Blk w3 b9 ex.cells.toArray 96 (0, 0) := B9
      replace E := E.trans e3 (M := []) (by simp) (by intro x hx; rw [List.mem_singleton.1 hx]; exact .inr (by omega))
      refine L.nil ?_
      refine N.seq ?_
      refine G.quiet (by decide +kernel) rfl ?_
      refine Q.val rfl rfl rfl rfl (fun w5 hE => R.mv rfl) ?_
      refine Q.val rfl rfl rfl rfl (fun w5 hE => R.fld rfl) ?_
      refine Q.val rfl rfl rfl rfl (fun w5 hE => R.ldB rfl (B9.ext0 hE) rfl) ?_
      refine Q.call (Value.string (str (bi 8 ex.At'))) rfl rfl rfl go34 (fun w5 hE => ⟨_, rfl, (refnumberI_ok 8 _ _ (by decide) (wf_i64 hokx.1)).mono (fun _ _ h => h)⟩) ?_
      refine Q.val rfl rfl rfl rfl (fun w5 hE => R.fld rfl) ?_
      refine Q.val rfl rfl rfl rfl (fun w5 hE => R.ldB rfl (B9.ext0 hE) rfl) ?_
      refine Q.call (Value.string (str (bi 8 ex.N'))) rfl rfl rfl go34 (fun w5 hE => ⟨_, rfl, (refnumberI_ok 8 _ _ (by decide) (wf_i64 hokx.2)).mono (fun _ _ h => h)⟩) ?_
      refine Q.val rfl rfl rfl rfl (fun w5 hE => R.addStr rfl rfl (by simp [bi_length])) ?_
      refine Q.val rfl rfl rfl rfl (fun w5 hE => R.addStr rfl rfl (by simp [bi_length] <;> omega)) ?_
      refine Q.val rfl rfl rfl rfl (fun w5 hE => R.as rfl) ?_
      refine Q.nil (fun w5 e5 => ?_)
      replace E := E.trans0 e5
      refine N.block ?_
      refine N.seq ?_
      refine G.region ?_
      refine L.val rfl rfl (R.add rfl rfl (by omega)) ?_
      refine L.val rfl rfl (R.mv rfl) ?_
      refine L.nil ?_
      exact N.again (j + 1, u ++ (bi 8 ex.At' ++ bi 8 ex.N')) (by simp only; omega) (Sub.cons rfl (Sub.cons rfl (Sub.cons rfl (Sub.cons rfl (Sub.cons rfl (Sub.cons rfl (Sub.cons rfl (Sub.nil _)))))))) ⟨by simp only; omega, by simp [bi_length]; omega, E⟩
    · obtain rfl : j = o.At'n := by omega
      have ht2 := hu
      refine G.exit _ rfl ?_
      refine N.block ?_
      refine N.seq ?_
      refine G.region ?_
      refine L.val rfl rfl (R.add rfl rfl (by omega)) ?_
      refine L.val rfl rfl (R.mv rfl) ?_
      refine L.nil ?_
      exact N.again (k + 1, u) (by simp only; omega) (Sub.cons rfl (Sub.cons rfl (Sub.cons rfl (Sub.cons rfl (Sub.nil _))))) ⟨by simp only; omega, by rw [ht2, hsu]; omega, hle2, E⟩
  · obtain rfl : k = n := by omega
    rw [List.take_of_length_le (by omega)] at ht
    refine G.exit _ rfl ?_
    refine N.seq ?_
    refine G.seq ?_
    refine G.region ?_
    refine L.val rfl rfl (R.mv rfl) ?_
    refine L.val rfl rfl (R.as rfl) ?_
    refine L.nil ?_
    refine N.seq ?_
    refine G.ret1 rfl rfl ?_
    exact ⟨t, rfl, ht, E⟩

theorem itemsLen_le {os : List ItemV} {n : Nat} (hn : n ≤ 60) (hl : n = (os.map ItemV.cells).length) (h : ∀ o ∈ os, o.At'n ≤ 60) : itemsLen os ≤ 100000 := by
  have : ∀ k, k ≤ os.length → itemsLen (os.take k) ≤ 10 + 1015 * k := by
    intro k
    induction k with
    | zero => simp [itemsLen]
    | succ k ih =>
      intro hk
      rw [itemsLen_succ (by omega)]
      have := h os[k] (List.getElem_mem (by omega))
      have := ih (by omega)
      omega
  have := this os.length (Nat.le_refl _)
  rw [List.take_length] at this
  rw [List.length_map] at hl
  omega
theorem reflists_ok (a : Option Addr) (n c : Nat) (os : List ItemV) (w : World) (hT : Tab w a n 9 (os.map ItemV.cells)) (hO : ∀ o ∈ os, o.ok w) (hn60 : n ≤ 60) (h60 : ∀ o ∈ os, o.At'n ≤ 60) : Meets Try.prog 30 [.slice a n c] w (fun v w' => v = .int .i64 (secF (itemsLen os : Nat)) ∧ Ext [] w w') := by
  refine Meets.enter Try.func30 rfl 7 rfl (Nat.le_of_ble_eq_true rfl) ?_
  have E := Ext.refl [] w
  refine G.seq ?_
  refine G.region ?_
  refine L.val rfl rfl (R.as rfl) ?_
  refine L.nil ?_
  refine N.seq ?_
  refine G.seq ?_
  refine G.region ?_
  refine L.val rfl rfl (R.mv rfl) ?_
  refine L.callF rfl rfl rfl go61 (refbytes16_ok 1 _ _ _ _ _ hT hO hn60 h60 (by decide)) ?_
  rintro _ w1 ⟨t, rfl, ht, e1⟩
  replace E := E.trans0 e1
  have hil := itemsLen_le hn60 hT.len h60
  refine L.val rfl rfl (R.lenStr rfl) ?_
  refine L.be 5 rfl (congrArg (Value.int .i64) (congrArg Nat.cast ((str_size _).trans ht))) ?_
  refine L.callF rfl rfl rfl go19 (refsec_ok _ _ (by omega)) ?_
  rintro _ _ ⟨rfl, hw⟩
  obtain rfl := hw.symm
  refine L.val rfl rfl (R.as rfl) ?_
  refine L.nil ?_
  refine N.seq ?_
  refine G.ret1 rfl rfl ?_
  exact ⟨rfl, E⟩

theorem left_first  (w : World) : Meets Try.prog 53 [.agg #[.int .i64 4, .int .i64 3, .int .i64 10], .agg #[.int .i64 0, .int .i64 0, .int .i64 0, .int .i64 0, .int .i64 11, .int .i64 10, .int .i64 1, .int .i64 0], .int .i64 1] w (fun v w' => v = .int .i64 6 ∧ Ext [] w w') := by
  refine Meets.enter Try.func53 rfl 69 rfl (Nat.le_of_ble_eq_true rfl) ?_
  have E := Ext.refl [] w
  refine G.seq ?_
  refine G.region ?_
  refine L.do rfl rfl (R.box rfl) ?_
  rintro _ w1 ⟨b3, rfl, hb3, hs3, e1, B3⟩
  replace E := E.trans0 e1
  refine L.do rfl rfl (R.box rfl) ?_
  rintro _ w2 ⟨b4, rfl, hb4, hs4, e2, B4⟩
  replace E := E.trans0 e2
  replace B3 := B3.ext0 e2
  refine L.val rfl rfl (R.as rfl) ?_
  refine L.nil ?_
  refine N.seq ?_
  refine G.seq ?_
  refine G.seq ?_
  refine G.region ?_
  refine L.val rfl rfl (R.ldBN rfl B3 rfl) ?_
  refine L.val rfl rfl (R.mv rfl) ?_
  refine L.callF rfl rfl rfl go25 (lfits_ok 4 3 10 1 _ (by decide) (by decide) (by decide) (by decide)) ?_
  rintro _ w3 ⟨rfl, e3⟩
  replace E := E.trans0 e3
  replace B3 := B3.ext0 e3
  replace B4 := B4.ext0 e3
  refine L.val rfl rfl (R.not rfl) ?_
  refine L.val rfl rfl (R.mv rfl) ?_
  refine L.isF 14 rfl (by decide +kernel) ?_
  refine L.val rfl rfl (R.fld rfl) ?_
  refine L.val rfl rfl (R.ldB rfl B4 rfl) ?_
  refine L.val rfl rfl (R.lss rfl rfl) ?_
  first | refine L.val rfl rfl (R.pickT rfl rfl) ?_ | refine L.val rfl rfl (R.pickF rfl rfl) ?_
  refine L.val rfl rfl (R.mv rfl) ?_
  refine L.isF 19 rfl (by decide) ?_
  refine L.val rfl rfl (R.fld rfl) ?_
  refine L.val rfl rfl (R.ldB rfl B4 rfl) ?_
  refine L.val rfl rfl (R.lss rfl rfl) ?_
  first | refine L.val rfl rfl (R.pickT rfl rfl) ?_ | refine L.val rfl rfl (R.pickF rfl rfl) ?_
  refine L.val rfl rfl (R.mv rfl) ?_
  refine L.isF 24 rfl (by decide) ?_
  refine L.val rfl rfl (R.fld rfl) ?_
  refine L.val rfl rfl (R.ldB rfl B4 rfl) ?_
  refine L.val rfl rfl (R.lss rfl rfl) ?_
  first | refine L.val rfl rfl (R.pickT rfl rfl) ?_ | refine L.val rfl rfl (R.pickF rfl rfl) ?_
  refine L.nil ?_
  refine N.seq ?_
  refine G.condP rfl (fun h0 => ?_) (fun h0 => ?_)
  · exact absurd h0 (by decide)
  · refine G.skip ?_
    refine N.seq ?_
    refine G.seq ?_
    refine G.quiet (by decide +kernel) rfl ?_
    refine Q.val rfl rfl rfl rfl (fun w4 hE => R.fld rfl) ?_
    refine Q.val rfl rfl rfl rfl (fun w4 hE => R.ldB rfl (B3.ext0 hE) rfl) ?_
    refine Q.val rfl rfl rfl rfl (fun w4 hE => R.sub' rfl rfl (by omega)) ?_
    refine Q.val rfl rfl rfl rfl (fun w4 hE => R.fld rfl) ?_
    refine Q.val rfl rfl rfl rfl (fun w4 hE => R.ldB rfl (B4.ext0 hE) rfl) ?_
    refine Q.val rfl rfl rfl rfl (fun w4 hE => R.fld rfl) ?_
    refine Q.val rfl rfl rfl rfl (fun w4 hE => R.ldB rfl (B3.ext0 hE) rfl) ?_
    refine Q.val rfl rfl rfl rfl (fun w4 hE => R.rem rfl rfl (by omega) (by omega)) ?_
    refine Q.val rfl rfl rfl rfl (fun w4 hE => R.sub' rfl rfl (by omega)) ?_
    refine Q.val rfl rfl rfl rfl (fun w4 hE => R.mv rfl) ?_
    refine Q.call (.int .i64 3) rfl rfl rfl go24 (fun w4 hE => ⟨_, rfl, (com_ok 1 _ (by decide)).mono (by rintro _ _ ⟨rfl, rfl⟩; exact ⟨rfl, Ext.refl _ _⟩)⟩) ?_
    refine Q.val rfl rfl rfl rfl (fun w4 hE => R.quo rfl rfl (by omega) (by omega)) ?_
    refine Q.val rfl rfl rfl rfl (fun w4 hE => R.as rfl) ?_
    refine Q.nil (fun w4 e4 => ?_)
    replace B3 := B3.ext0 e4
    replace B4 := B4.ext0 e4
    replace E := E.trans0 e4
    refine N.seq ?_
    refine G.seq ?_
    refine G.quiet (by decide +kernel) rfl ?_
    refine Q.val rfl rfl rfl rfl (fun w5 hE => R.fld rfl) ?_
    refine Q.val rfl rfl rfl rfl (fun w5 hE => R.ldB rfl (B4.ext0 hE) rfl) ?_
    refine Q.val rfl rfl rfl rfl (fun w5 hE => R.fld rfl) ?_
    refine Q.val rfl rfl rfl rfl (fun w5 hE => R.ldB rfl (B3.ext0 hE) rfl) ?_
    refine Q.val rfl rfl rfl rfl (fun w5 hE => R.quo rfl rfl (by omega) (by omega)) ?_
    refine Q.val rfl rfl rfl rfl (fun w5 hE => R.fld rfl) ?_
    refine Q.val rfl rfl rfl rfl (fun w5 hE => R.ldB rfl (B4.ext0 hE) rfl) ?_
    refine Q.val rfl rfl rfl rfl (fun w5 hE => R.min rfl rfl _ rfl) ?_
    refine Q.val rfl rfl rfl rfl (fun w5 hE => R.as rfl) ?_
    refine Q.nil (fun w5 e5 => ?_)
    replace B3 := B3.ext0 e5
    replace B4 := B4.ext0 e5
    replace E := E.trans0 e5
    refine N.seq ?_
    refine G.seq ?_
    refine G.quiet (by decide +kernel) rfl ?_
    refine Q.val rfl rfl rfl rfl (fun w6 hE => R.mv rfl) ?_
    refine Q.val rfl rfl rfl rfl (fun w6 hE => R.fld rfl) ?_
    refine Q.val rfl rfl rfl rfl (fun w6 hE => R.ldB rfl (B3.ext0 hE) rfl) ?_
    refine Q.val rfl rfl rfl rfl (fun w6 hE => R.add rfl rfl (by omega)) ?_
    refine Q.val rfl rfl rfl rfl (fun w6 hE => R.sub' rfl rfl (by omega)) ?_
    refine Q.val rfl rfl rfl rfl (fun w6 hE => R.fld rfl) ?_
    refine Q.val rfl rfl rfl rfl (fun w6 hE => R.ldB rfl (B4.ext0 hE) rfl) ?_
    refine Q.val rfl rfl rfl rfl (fun w6 hE => R.fld rfl) ?_
    refine Q.val rfl rfl rfl rfl (fun w6 hE => R.ldB rfl (B3.ext0 hE) rfl) ?_
    refine Q.val rfl rfl rfl rfl (fun w6 hE => R.quo rfl rfl (by omega) (by omega)) ?_
    refine Q.val rfl rfl rfl rfl (fun w6 hE => R.sub' rfl rfl (by omega)) ?_
    refine Q.val rfl rfl rfl rfl (fun w6 hE => R.max rfl rfl _ rfl) ?_
    refine Q.val rfl rfl rfl rfl (fun w6 hE => R.as rfl) ?_
    refine Q.nil (fun w6 e6 => ?_)
    replace B3 := B3.ext0 e6
    replace E := E.trans0 e6
    refine N.seq ?_
    refine G.seq ?_
    refine G.region ?_
    refine L.val rfl rfl (R.mv rfl) ?_
    refine L.val rfl rfl (R.max rfl rfl _ rfl) ?_
    refine L.val rfl rfl (R.mv rfl) ?_
    refine L.val rfl rfl (R.ldBN rfl B3 rfl) ?_
    refine L.val rfl rfl (R.mv rfl) ?_
    refine L.callF rfl rfl rfl go26 (perseg_ok 4 3 10 1 _ (by decide) (by decide) (by decide) (by decide)) ?_
    rintro _ w8 ⟨rfl, e8⟩
    replace E := E.trans0 e8
    rw [show perF 4 3 10 1 = 2 by decide +kernel]
    refine L.val rfl rfl (R.mul rfl rfl (by omega)) ?_
    refine L.val rfl rfl (R.add rfl rfl (by omega)) ?_
    refine L.val rfl rfl (R.as rfl) ?_
    refine L.nil ?_
    refine N.seq ?_
    refine G.ret1 rfl rfl ?_
    exact ⟨rfl, E⟩

end Go.Proofs.Ytfbkbobphjncfaa
