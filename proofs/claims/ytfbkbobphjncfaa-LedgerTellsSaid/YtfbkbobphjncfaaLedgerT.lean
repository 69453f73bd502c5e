/-
  The walk of the law on ledger.
-/
import Derived.Test.YtfbkbobphjncfaaLedgerF
set_option linter.unusedVariables false
namespace Go.Proofs.Ytfbkbobphjncfaa
open Go Brv Brv.Crc Brv.Pack Brv.Ledger
theorem ledgerTells_ok (p q r n : Int) (a : Option Addr) (m c : Nat) (os : List ItemV) (w : World) (hT : Tab w a m 9 (os.map ItemV.cells)) (hO : ∀ o ∈ os, o.ok w) (hp : -9223372036854775808 ≤ p ∧ p ≤ 9223372036854775807) (hq : -9223372036854775808 ≤ q ∧ q ≤ 9223372036854775807) (hr : -9223372036854775808 ≤ r ∧ r ≤ 9223372036854775807) (hnn : -9223372036854775808 ≤ n ∧ n ≤ 9223372036854775807) : Meets Try.prog 6 [.agg #[.int .i64 p, .int .i64 q, .int .i64 r], .int .i64 n, .slice a m c] w (fun v w' => v = .bool true ∧ Ext [] w w') := by
  refine Meets.enter Try.func6 rfl 112 rfl (Nat.le_of_ble_eq_true rfl) ?_
  have E := Ext.refl [] w
  have hn := hT.len
  rw [List.length_map] at hn
  refine G.seq ?_
  refine G.region ?_
  refine L.do rfl rfl (R.box rfl) ?_
  rintro _ w1 ⟨b3, rfl, hb3, hs3, e1, B3⟩
  replace E := E.trans0 e1
  refine L.val rfl rfl (R.as rfl) ?_
  refine L.nil ?_
  refine N.seq ?_
  refine G.seq ?_
  refine G.seq ?_
  refine G.region ?_
  refine L.callF rfl rfl rfl go18 (ledger_first_ok _) ?_
  rintro _ w2 ⟨rfl, e2⟩
  replace B3 := B3.ext0 e2
  replace E := E.trans0 e2
  refine L.val rfl rfl (R.not rfl) ?_
  refine L.nil ?_
  refine N.seq ?_
  refine G.condF rfl ?_
  refine G.skip ?_
  refine N.seq ?_
  refine G.seq ?_
  refine G.seq ?_
  refine G.region ?_
  refine L.val rfl rfl (R.mv rfl) ?_
  refine L.val rfl rfl (R.lenS rfl) ?_
  refine L.val rfl rfl (R.gtr rfl rfl) ?_
  refine L.nil ?_
  refine N.seq ?_
  refine G.condP rfl (fun h1 => ?_) (fun h1 => ?_)
  · refine G.seq ?_
    refine G.region ?_
    refine L.val rfl rfl (R.as rfl) ?_
    refine L.nil ?_
    refine N.seq ?_
    refine G.ret1 rfl rfl ?_
    exact ⟨rfl, E⟩
  · refine G.skip ?_
    refine N.seq ?_
    refine G.seq ?_
    refine G.seq ?_
    refine G.region ?_
    refine L.val rfl rfl (R.mv rfl) ?_
    refine L.val rfl rfl (R.lenS rfl) ?_
    refine L.val rfl rfl (R.mv rfl) ?_
    refine L.nil ?_
    refine N.seq ?_
    refine G.block ?_
    refine G.loop (X := Nat) (fun k => [(1, .int .i64 n), (2, .slice a m c), (3, .pointer (some ⟨b3, 0, none⟩)), (19, .slice a m c), (20, .int .i64 m), (21, .int .i64 (k : Nat))]) (fun k w' => k ≤ m ∧ Ext [] w w' ∧ Blk w' b3 #[.int .i64 p, .int .i64 q, .int .i64 r] 35 (0, 0) ∧ ∀ i (h : i < os.length), i < k → os[i].At'n ≤ 60) (fun k => m - k) (0) (Sub.cons rfl (Sub.cons rfl (Sub.cons rfl (Sub.cons rfl (Sub.cons rfl (Sub.cons rfl (Sub.nil _))))))) ⟨by omega, E, B3, by intro i _ hi; omega⟩ ?_
    rintro k w1 ⟨hk, E, B3, h60⟩
    refine G.seq ?_
    refine G.region ?_
    refine L.val rfl rfl (R.lss rfl rfl) ?_
    refine L.nil ?_
    refine N.seq ?_
    refine G.seq ?_
    refine G.condP rfl (fun h2 => ?_) (fun h2 => ?_)
    · refine G.skip ?_
      refine N.seq ?_
      refine G.seq ?_
      refine G.block ?_
      refine G.seq ?_
      refine G.region ?_
      obtain ⟨q9, hq9, hcl⟩ := hT.at (by decide) k (by rw [List.length_map]; omega)
      rw [List.getElem_map] at hcl
      have hok := hO _ (List.getElem_mem (show k < os.length by omega))
      generalize hoe : os[k]'(by omega) = o at *
      refine L.val rfl rfl (R.idx rfl rfl (by omega) (by omega) q9 hq9) ?_
      refine L.val rfl rfl (R.ldN rfl (hcl.ext0 E) rfl) ?_
      refine L.do rfl rfl (R.alloc) ?_
      rintro _ w2 ⟨b9, rfl, hb9, hs9, e2, B9⟩
      have hEb := E.size
      replace E := E.trans0 e2
      have hb3l := B3.lt
      replace B3 := B3.ext0 e2
      refine L.set rfl (R.stN rfl rfl B9 rfl (Nat.le_refl 9) (ItemV.cells.one _)) ?_
      rintro w3 ⟨e3, hs3, B9⟩
      replace B9 : Blk w3 b9 o.cells.toArray 39 (0, 0) := B9
      replace E := E.trans e3 (M := []) (by simp) (by intro x hx; rw [List.mem_singleton.1 hx]; exact .inr (by omega))
      replace B3 := B3.ext e3 (by simp; omega)
      refine L.nil ?_
      refine N.seq ?_
      refine G.seq ?_
      refine G.region ?_
      refine L.val rfl rfl (R.fld rfl) ?_
      refine L.val rfl rfl (R.ldB rfl B9 rfl) ?_
      refine L.val rfl rfl (R.lenS rfl) ?_
      refine L.val rfl rfl (R.gtr rfl rfl) ?_
      refine L.nil ?_
      refine N.seq ?_
      refine G.condP rfl (fun h3 => ?_) (fun h3 => ?_)
      · refine G.seq ?_
        refine G.region ?_
        refine L.val rfl rfl (R.as rfl) ?_
        refine L.nil ?_
        refine N.seq ?_
        refine G.ret1 rfl rfl ?_
        first
          | exact ⟨rfl, E⟩
          | exact ⟨congrArg Value.bool (by simp), E⟩
      · refine G.skip ?_
        refine N.block ?_
        refine N.seq ?_
        refine G.region ?_
        refine L.val rfl rfl (R.add rfl rfl (by omega)) ?_
        refine L.val rfl rfl (R.mv rfl) ?_
        refine L.nil ?_
        exact N.again (k + 1) (by omega) (Sub.cons rfl (Sub.cons rfl (Sub.cons rfl (Sub.cons rfl (Sub.cons rfl (Sub.cons rfl (Sub.nil _))))))) ⟨by omega, E, B3, fun i hi hik => by
          by_cases e : i = k
          · subst e; rw [hoe]; omega
          · exact h60 i hi (by omega)⟩
    · obtain rfl : m = k := by omega
      have h60 : ∀ o ∈ os, o.At'n ≤ 60 := by
        intro o ho
        obtain ⟨i, hi, rfl⟩ := List.mem_iff_getElem.1 ho
        exact h60 i hi (by omega)
      refine G.exit _ rfl ?_
      refine N.seq ?_
      refine G.seq ?_
      refine G.region ?_
      refine L.val rfl rfl (R.as rfl) ?_
      refine L.val rfl rfl (R.as rfl) ?_
      refine L.val rfl rfl (R.as rfl) ?_
      refine L.nil ?_
      refine N.seq ?_
      refine G.seq ?_
      refine G.seq ?_
      refine G.region ?_
      refine L.val rfl rfl (R.mv rfl) ?_
      refine L.val rfl rfl (R.geq rfl rfl) ?_
      refine L.val rfl rfl (R.mv rfl) ?_
      refine L.caseP 32 rfl (fun hg12_2 => ?_) (fun hg12_2 => ?_)
      · refine L.val rfl rfl (R.mv rfl) ?_
        refine L.val rfl rfl (R.leq rfl rfl) ?_
        first | refine L.val rfl rfl (R.pickT rfl rfl) ?_ | refine L.val rfl rfl (R.pickF rfl rfl) ?_
        refine L.nil ?_
        refine N.seq ?_
        refine G.cut (X := Unit) (fun _ => [(1, .int .i64 n), (2, .slice a m c), (3, .pointer (some ⟨b3, 0, none⟩)), (9, .int .i64 (backF n)), (10, .int .i64 0), (11, .int .i64 0)]) (fun _ w' => Ext [] w w' ∧ Blk w' b3 #[.int .i64 p, .int .i64 q, .int .i64 r] 35 (0, 0)) ?_ ?_
        · refine G.condP rfl (fun h4 => ?_) (fun h4 => ?_)
          · obtain ⟨n, rfl⟩ := Int.eq_ofNat_of_zero_le (show 0 ≤ n by omega)
            refine G.seq ?_
            refine G.region ?_
            refine L.val rfl rfl (R.as rfl) ?_
            refine L.nil ?_
            refine N.seq ?_
            refine G.seq ?_
            refine G.seq ?_
            refine G.region ?_
            refine L.val rfl rfl (R.mv rfl) ?_
            refine L.val rfl rfl (R.mv rfl) ?_
            refine L.nil ?_
            refine N.seq ?_
            refine G.block ?_
            refine G.loop (X := Option Addr × Nat × List WriteV) (fun x => [(1, .int .i64 (n : Nat)), (2, .slice a m c), (3, .pointer (some ⟨b3, 0, none⟩)), (10, .int .i64 0), (11, .int .i64 0), (12, .slice x.1 x.2.2.length x.2.1), (36, .int .i64 (n : Nat)), (37, .int .i64 (x.2.2.length : Nat))]) (fun x w' => x.2.2.length ≤ n ∧ Ext [] w w' ∧ Blk w' b3 #[.int .i64 p, .int .i64 q, .int .i64 r] 35 (0, 0) ∧ ∃ M, Own w' 42 2 x.1 x.2.2.length x.2.1 (cellsW x.2.2) M ∧ (∀ g ∈ M, w.heap.size ≤ g) ∧ ∀ i (h : i < x.2.2.length), x.2.2[i].Block' = i ∧ x.2.2[i].B'n = 64 ∧ x.2.2[i].ok w' ∧ ∃ bb cs, x.2.2[i].B'a = some ⟨bb, 0, none⟩ ∧ Blk w' bb cs 5 (0, 0)) (fun x => n - x.2.2.length) ((none, 0, [])) (Sub.cons rfl (Sub.cons rfl (Sub.cons rfl (Sub.cons rfl (Sub.cons rfl (Sub.cons rfl (Sub.cons rfl (Sub.cons rfl (Sub.nil _))))))))) ⟨by simp, E, B3, [], Own.nil _ _ _, by simp, by simp⟩ ?_
            rintro ⟨a1, c1, ws⟩ w1 ⟨hk, E, B3, M, hM, fM, hws⟩
            dsimp only at hk hM hws
            refine G.be 12 rfl (show _ = Value.slice a1 ws.length c1 from rfl) ?_
            refine G.be 37 rfl (show _ = Value.int .i64 (ws.length : Nat) from rfl) ?_
            refine G.seq ?_
            refine G.region ?_
            refine L.val rfl rfl (R.lss rfl rfl) ?_
            refine L.nil ?_
            refine N.seq ?_
            refine G.seq ?_
            refine G.condP rfl (fun h5 => ?_) (fun h5 => ?_)
            · refine G.skip ?_
              refine N.seq ?_
              refine G.seq ?_
              refine G.block ?_
              refine G.seq ?_
              refine G.region ?_
              refine L.val rfl rfl (R.mv rfl) ?_
              refine L.val rfl rfl (R.as rfl) ?_
              refine L.nil ?_
              refine N.seq ?_
              refine G.region ?_
              refine L.val rfl rfl (R.mv rfl) ?_
              refine L.val rfl rfl (R.mv rfl) ?_
              refine L.do rfl rfl (R.make rfl rfl (by decide) (by decide) (by decide) (by decide)) ?_
              rintro _ w2 ⟨b12, rfl, hb12, hs12, e2, B12⟩
              have hb3l := B3.lt
              replace B3 := B3.ext0 e2
              replace E := E.trans0 e2
              have hM1lt := hM.lt
              have hM0 := hM
              replace hM := hM.ext0 e2
              obtain ⟨o, ho⟩ : ∃ o : WriteV, o = ⟨ws.length, some ⟨b12, 0, none⟩, 64, 64, List.replicate 64 0⟩ := ⟨_, rfl⟩
              have hbo : Bs w2 (some ⟨b12, 0, none⟩) 64 (List.replicate 64 0) := Bs.of_blk B12 _ (madeCells_bytes 64) _ rfl
              refine L.val rfl rfl (R.build rfl rfl) ?_
              refine L.be 43 rfl (show _ = Value.agg o.cells.toArray by rw [ho]; rfl) ?_
              refine L.do rfl rfl (R.buildA rfl rfl rfl rfl rfl) ?_
              rintro _ w3 ⟨b14, rfl, hb14, hs14, e3, B14⟩
              replace E := E.trans0 e3
              replace B3 := B3.ext0 e3
              replace hM := hM.ext0 e3
              have hcb : Cells w3 (some ⟨b14, 0, none⟩) o.cells := by
                have := B14.cellsAll
                simpa [cellsOf, Value.cells] using this
              have hE3 := E.size
              have e23 := e2.trans0 e3
              have hb3M : b3 ∉ M := fun h => by obtain ⟨_, hb⟩ := hM.typ b3 h; exact B3.ne hb (by decide) rfl
              refine L.do rfl rfl (R.app rfl rfl hM hcb rfl (fun u hu => WriteV.cells.one o u (by simpa using hu)) (by simp [maxLen]; omega) (by omega)) ?_
              rintro v15 w4 ⟨a2, c2, M2, rfl, e4, hM4, hM3⟩
              replace B3 := B3.ext e4 hb3M
              have e24 : Ext M w1 w4 := e4.after e23
              replace E := E.fresh e4 fM
              have fM2 : ∀ g ∈ M2, w.heap.size ≤ g := fun g hg => (hM4 g hg).elim (fM g) (fun h => by omega)
              rw [← cellsW_one, ← cellsW_append] at hM3
              have hbo4 : Bs w4 (some ⟨b12, 0, none⟩) 64 (List.replicate 64 0) := (hbo.ext0 e3).ext e4 (by intro q hq h; cases hq; have := hM1lt _ h; simp at this; omega)
              have hws2 : ∀ i (h : i < (ws ++ [o]).length), (ws ++ [o])[i].Block' = i ∧ (ws ++ [o])[i].B'n = 64 ∧ (ws ++ [o])[i].ok w4 ∧ ∃ bb cs, (ws ++ [o])[i].B'a = some ⟨bb, 0, none⟩ ∧ Blk w4 bb cs 5 (0, 0) := by
                intro i hi
                by_cases hlt : i < ws.length
                · rw [List.getElem_append_left hlt]
                  obtain ⟨x1, x2, x3, bb, cs, x4, x5⟩ := hws i hlt
                  have hbM : bb ∉ M := fun h => by obtain ⟨_, hb⟩ := hM0.typ bb h; exact x5.ne hb (by decide) rfl
                  exact ⟨x1, x2, x3.ext e24 (fun q hq h => by rw [x4] at hq; cases hq; exact hbM h), bb, cs, x4, x5.ext e24 hbM⟩
                · have hi2 : i = ws.length := by simp at hi; omega
                  subst hi2
                  rw [List.getElem_append_right (Nat.le_refl _)]
                  simp only [Nat.sub_self, List.getElem_singleton]
                  rw [ho]
                  exact ⟨rfl, rfl, ⟨i64_wf (by simp only; omega), Nat.le_refl 64, by show 64 ≤ 140737488351232; decide, hbo4⟩, b12, _, rfl, (B12.ext0 e3).ext e4 (fun h => by have := hM1lt _ h; omega)⟩
              refine L.val rfl rfl (R.as rfl) ?_
              refine L.nil ?_
              refine N.block ?_
              refine N.seq ?_
              refine G.region ?_
              refine L.val rfl rfl (R.add rfl rfl (by omega)) ?_
              refine L.val rfl rfl (R.mv rfl) ?_
              refine L.nil ?_
              exact N.again (a2, c2, ws ++ [o]) (by simp only [List.length_append, List.length_singleton]; omega) (Sub.cons rfl (Sub.cons rfl (Sub.cons rfl (Sub.cons rfl (Sub.cons rfl (Sub.cons (by rw [List.length_append, List.length_singleton]; rfl) (Sub.cons rfl (Sub.cons (by rw [List.length_append, List.length_singleton]; rfl) (Sub.nil _))))))))) ⟨by simp only [List.length_append, List.length_singleton]; omega, E, B3, M2, by simpa only [List.length_append, List.length_singleton] using hM3, fM2, hws2⟩
            · obtain rfl : ws.length = n := by omega
              obtain ⟨hO2, hle⟩ := zeros_len hws
              have hT2 := tab_of_own hM rfl
              refine G.exit _ rfl ?_
              refine N.seq ?_
              refine G.region ?_
              refine L.val rfl rfl (R.mv rfl) ?_
              refine L.callF rfl rfl rfl go20 (refput19_ok _ _ _ _ _ hT2 hO2 (by omega) (fun i hi => ⟨(hws i hi).1, (hws i hi).2.1⟩) (by omega)) ?_
              rintro _ w2 ⟨rfl, e2⟩
              replace B3 := B3.ext0 e2
              replace E := E.trans0 e2
              refine L.val rfl rfl (R.lenStr rfl) ?_
              refine L.be 49 rfl (congrArg (Value.int .i64) (show _ = ((2 + 66 * ws.length : Nat) : Int) by rw [str_size, List.length_append, bi_length, hle])) ?_
              refine L.callF rfl rfl rfl go19 (refsec_ok _ _ (by omega)) ?_
              rintro _ _ ⟨rfl, hw⟩
              obtain rfl := hw.symm
              refine L.val rfl rfl (R.as rfl) ?_
              refine L.be 9 rfl (show _ = Value.int .i64 (backF (ws.length : Nat)) by unfold backF; rw [if_pos (by omega)]; congr 2 <;> omega) ?_
              refine L.nil ?_
              exact N.handX () (Sub.cons rfl (Sub.cons rfl (Sub.cons rfl (Sub.cons rfl (Sub.cons rfl (Sub.cons rfl (Sub.nil _))))))) ⟨E, B3⟩
          · refine G.be 9 rfl (show _ = Value.int .i64 (backF n) by unfold backF; rw [if_neg (by omega)]) ?_
            refine G.skip ?_
            exact N.handX () (Sub.cons rfl (Sub.cons rfl (Sub.cons rfl (Sub.cons rfl (Sub.cons rfl (Sub.cons rfl (Sub.nil _))))))) ⟨E, B3⟩
        · rintro _ w1 ⟨E, B3⟩
          refine N.seq ?_
          refine G.seq ?_
          refine G.seq ?_
          refine G.region ?_
          refine L.val rfl rfl (R.ldBN rfl B3 rfl) ?_
          refine L.callF rfl rfl rfl go21 (need_ok _ _ _ _ hp hq hr) ?_
          rintro _ w2 ⟨rfl, e2⟩
          replace B3 := B3.ext0 e2
          replace E := E.trans0 e2
          refine L.val rfl rfl (R.gtr rfl rfl) ?_
          refine L.nil ?_
          refine N.seq ?_
          refine G.cut (X := Unit) (fun _ => [(1, .int .i64 n), (2, .slice a m c), (3, .pointer (some ⟨b3, 0, none⟩)), (9, .int .i64 (backF n)), (10, .int .i64 (segF p q r)), (11, .int .i64 0)]) (fun _ w' => Ext [] w w' ∧ Blk w' b3 #[.int .i64 p, .int .i64 q, .int .i64 r] 35 (0, 0)) ?_ ?_
          · refine G.condP rfl (fun h6 => ?_) (fun h6 => ?_)
            · have hsh := needF_pos.1 h6
              have hr4 := hsh.2.2.2.2.1
              have hr5 := hsh.2.2.2.2.2
              refine G.region ?_
              refine L.val rfl rfl (R.fld rfl) ?_
              refine L.val rfl rfl (R.ldB rfl B3 rfl) ?_
              refine L.val rfl rfl (R.mul rfl rfl (by omega)) ?_
              refine L.callF rfl rfl rfl go19 (refsec_ok _ _ (by omega)) ?_
              rintro _ _ ⟨rfl, hw⟩
              obtain rfl := hw.symm
              refine L.val rfl rfl (R.as rfl) ?_
              refine L.be 10 rfl (show _ = Value.int .i64 (segF p q r) by unfold segF; rw [if_pos hsh]) ?_
              refine L.nil ?_
              exact N.handX () (Sub.cons rfl (Sub.cons rfl (Sub.cons rfl (Sub.cons rfl (Sub.cons rfl (Sub.cons rfl (Sub.nil _))))))) ⟨E, B3⟩
            · refine G.be 10 rfl (show _ = Value.int .i64 (segF p q r) by unfold segF; rw [if_neg (fun h => h6 (needF_pos.2 h))]) ?_
              refine G.skip ?_
              exact N.handX () (Sub.cons rfl (Sub.cons rfl (Sub.cons rfl (Sub.cons rfl (Sub.cons rfl (Sub.cons rfl (Sub.nil _))))))) ⟨E, B3⟩
          · rintro _ w1 ⟨E, B3⟩
            refine N.seq ?_
            refine G.seq ?_
            refine G.seq ?_
            refine G.region ?_
            refine L.val rfl rfl (R.ldBN rfl B3 rfl) ?_
            refine L.val rfl rfl (R.mv rfl) ?_
            refine L.callF rfl rfl rfl go22 (reffits_l _ _ _ _ _ hp hq hr hnn) ?_
            rintro _ w2 ⟨rfl, e2⟩
            replace B3 := B3.ext0 e2
            replace E := E.trans0 e2
            refine L.nil ?_
            refine N.seq ?_
            refine G.cut (X := Unit) (fun _ => [(1, .int .i64 n), (2, .slice a m c), (3, .pointer (some ⟨b3, 0, none⟩)), (9, .int .i64 (backF n)), (10, .int .i64 (segF p q r)), (11, .int .i64 (perF p q r n))]) (fun _ w' => Ext [] w w' ∧ Blk w' b3 #[.int .i64 p, .int .i64 q, .int .i64 r] 35 (0, 0)) ?_ ?_
            · refine G.condP rfl (fun h7 => ?_) (fun h7 => ?_)
              · have hcp := comF_pos h7.2.1
                have hper := perF_yes h7
                have hr4 := h7.1.2.2.2.2.1
                have hr5 := h7.1.2.2.2.2.2
                refine G.block ?_
                refine G.loop (X := Nat) (fun k => [(1, .int .i64 n), (2, .slice a m c), (3, .pointer (some ⟨b3, 0, none⟩)), (9, .int .i64 (backF n)), (10, .int .i64 (segF p q r)), (11, .int .i64 (k : Nat))]) (fun k w' => (k : Int) ≤ (r - 2) / comF n ∧ Ext [] w w' ∧ Blk w' b3 #[.int .i64 p, .int .i64 q, .int .i64 r] 35 (0, 0)) (fun k => ((r - 2) / comF n).toNat - k) (0) (Sub.cons rfl (Sub.cons rfl (Sub.cons rfl (Sub.cons rfl (Sub.cons rfl (Sub.cons rfl (Sub.nil _))))))) ⟨Int.ediv_nonneg (by omega) (by omega), E, B3⟩ ?_
                rintro k w1 ⟨hk, E, B3⟩
                have hk62 : (r - 2) / comF n ≤ r - 2 := Int.ediv_le_self _ (by omega)
                have hkm : 0 ≤ ((k : Int) + 1) * comF n ∧ ((k : Int) + 1) * comF n ≤ 20000 := ⟨Int.mul_nonneg (by omega) (by omega), Int.le_trans (Int.mul_le_mul (show (k : Int) + 1 ≤ 64 by omega) hcp.2 (by omega) (by omega)) (by decide)⟩
                refine G.seq ?_
                refine G.seq ?_
                refine G.quiet (by decide +kernel) rfl ?_
                refine Q.val rfl rfl rfl rfl (fun w3 hE => R.mv rfl) ?_
                refine Q.val rfl rfl rfl rfl (fun w3 hE => R.add rfl rfl (by omega)) ?_
                refine Q.val rfl rfl rfl rfl (fun w3 hE => R.mv rfl) ?_
                refine Q.call (.int .i64 (comF n)) rfl rfl rfl go23 (fun w3 hE => ⟨_, rfl, (refcom_ok _ _ hnn).mono (fun _ _ h => h)⟩) ?_
                refine Q.val rfl rfl rfl rfl (fun w3 hE => R.mul rfl rfl (by omega)) ?_
                refine Q.val rfl rfl rfl rfl (fun w3 hE => R.fld rfl) ?_
                refine Q.val rfl rfl rfl rfl (fun w3 hE => R.ldB rfl (B3.ext0 hE) rfl) ?_
                refine Q.val rfl rfl rfl rfl (fun w3 hE => R.sub' rfl rfl (by omega)) ?_
                refine Q.val rfl rfl rfl rfl (fun w3 hE => R.leq rfl rfl) ?_
                refine Q.nil (fun w3 e3 => ?_)
                replace B3 := B3.ext0 e3
                replace E := E.trans0 e3
                refine N.seq ?_
                refine G.condP rfl (fun h8 => ?_) (fun h8 => ?_)
                · have hpu := per_up hcp.1 h8
                  refine G.skip ?_
                  refine N.seq ?_
                  refine G.block ?_
                  refine G.region ?_
                  refine L.val rfl rfl (R.mv rfl) ?_
                  refine L.val rfl rfl (R.add rfl rfl (by omega)) ?_
                  refine L.val rfl rfl (R.as rfl) ?_
                  refine L.nil ?_
                  refine N.block ?_
                  exact N.again (k + 1) (by omega) (Sub.cons rfl (Sub.cons rfl (Sub.cons rfl (Sub.cons rfl (Sub.cons rfl (Sub.cons rfl (Sub.nil _))))))) ⟨by omega, E, B3⟩
                · refine G.be 11 rfl (show _ = Value.int .i64 (perF p q r n) by rw [hper, ← per_end hcp.1 hk h8]) ?_
                  refine G.exit _ rfl ?_
                  exact N.handX () (Sub.cons rfl (Sub.cons rfl (Sub.cons rfl (Sub.cons rfl (Sub.cons rfl (Sub.cons rfl (Sub.nil _))))))) ⟨E, B3⟩
              · refine G.be 11 rfl (show _ = Value.int .i64 (perF p q r n) by rw [perF_no h7]) ?_
                refine G.skip ?_
                exact N.handX () (Sub.cons rfl (Sub.cons rfl (Sub.cons rfl (Sub.cons rfl (Sub.cons rfl (Sub.cons rfl (Sub.nil _))))))) ⟨E, B3⟩
            · rintro _ w1 ⟨E, B3⟩
              refine N.seq ?_
              refine G.seq ?_
              refine G.quiet (by decide +kernel) rfl ?_
              refine Q.val rfl rfl rfl rfl (fun w3 hE => R.mv rfl) ?_
              refine Q.call (.int .i64 (comF n)) rfl rfl rfl go24 (fun w3 hE => ⟨_, rfl, (com_ok _ _ hnn).mono (by rintro _ _ ⟨rfl, rfl⟩; exact ⟨rfl, Ext.refl _ _⟩)⟩) ?_
              refine Q.val rfl rfl rfl rfl (fun w3 hE => R.mv rfl) ?_
              refine Q.call (.int .i64 (comF n)) rfl rfl rfl go23 (fun w3 hE => ⟨_, rfl, (refcom_ok _ _ hnn).mono (fun _ _ h => h)⟩) ?_
              refine Q.val rfl rfl rfl rfl (fun w3 hE => R.eqI rfl rfl) ?_
              refine Q.val rfl rfl rfl rfl (fun w3 hE => R.mv rfl) ?_
              refine Q.isT 77 rfl (by simp) ?_
              refine Q.val rfl rfl rfl rfl (fun w3 hE => R.ldBN rfl (B3.ext0 hE) rfl) ?_
              refine Q.val rfl rfl rfl rfl (fun w3 hE => R.mv rfl) ?_
              refine Q.call (.bool (decide (okFits p q r n))) rfl rfl rfl go25 (fun w3 hE => ⟨_, rfl, (lfits_ok _ _ _ _ _ hp hq hr hnn).mono (fun _ _ h => h)⟩) ?_
              refine Q.val rfl rfl rfl rfl (fun w3 hE => R.ldBN rfl (B3.ext0 hE) rfl) ?_
              refine Q.val rfl rfl rfl rfl (fun w3 hE => R.mv rfl) ?_
              refine Q.call (.bool (decide (okFits p q r n))) rfl rfl rfl go22 (fun w3 hE => ⟨_, rfl, (reffits_l _ _ _ _ _ hp hq hr hnn).mono (fun _ _ h => h)⟩) ?_
              refine Q.val rfl rfl rfl rfl (fun w3 hE => R.eqB rfl rfl) ?_
              first | refine Q.val rfl rfl rfl rfl (fun w3 hE => R.pickT rfl rfl) ?_ | refine Q.val rfl rfl rfl rfl (fun w3 hE => R.pickF rfl rfl) ?_
              refine Q.val rfl rfl rfl rfl (fun w3 hE => R.mv rfl) ?_
              refine Q.isT 86 rfl (by simp) ?_
              refine Q.val rfl rfl rfl rfl (fun w3 hE => R.ldBN rfl (B3.ext0 hE) rfl) ?_
              refine Q.val rfl rfl rfl rfl (fun w3 hE => R.mv rfl) ?_
              refine Q.call (.int .i64 (perF p q r n)) rfl rfl rfl go26 (fun w3 hE => ⟨_, rfl, (perseg_ok _ _ _ _ _ hp hq hr hnn).mono (fun _ _ h => h)⟩) ?_
              refine Q.val rfl rfl rfl rfl (fun w3 hE => R.mv rfl) ?_
              refine Q.val rfl rfl rfl rfl (fun w3 hE => R.eqI rfl rfl) ?_
              first | refine Q.val rfl rfl rfl rfl (fun w3 hE => R.pickT rfl rfl) ?_ | refine Q.val rfl rfl rfl rfl (fun w3 hE => R.pickF rfl rfl) ?_
              refine Q.val rfl rfl rfl rfl (fun w3 hE => R.mv rfl) ?_
              refine Q.isT 93 rfl (by simp) ?_
              refine Q.val rfl rfl rfl rfl (fun w3 hE => R.mv rfl) ?_
              refine Q.call (.int .i64 (backF n)) rfl rfl rfl go27 (fun w3 hE => ⟨_, rfl, (backup_ok _ _ hnn).mono (by rintro _ _ ⟨rfl, rfl⟩; exact ⟨rfl, Ext.refl _ _⟩)⟩) ?_
              refine Q.val rfl rfl rfl rfl (fun w3 hE => R.mv rfl) ?_
              refine Q.val rfl rfl rfl rfl (fun w3 hE => R.eqI rfl rfl) ?_
              first | refine Q.val rfl rfl rfl rfl (fun w3 hE => R.pickT rfl rfl) ?_ | refine Q.val rfl rfl rfl rfl (fun w3 hE => R.pickF rfl rfl) ?_
              refine Q.val rfl rfl rfl rfl (fun w3 hE => R.mv rfl) ?_
              refine Q.isT 99 rfl (by simp) ?_
              refine Q.val rfl rfl rfl rfl (fun w3 hE => R.ldBN rfl (B3.ext0 hE) rfl) ?_
              refine Q.call (.int .i64 (segF p q r)) rfl rfl rfl go28 (fun w3 hE => ⟨_, rfl, (segment_ok _ _ _ _ hp hq hr).mono (fun _ _ h => h)⟩) ?_
              refine Q.val rfl rfl rfl rfl (fun w3 hE => R.mv rfl) ?_
              refine Q.val rfl rfl rfl rfl (fun w3 hE => R.eqI rfl rfl) ?_
              first | refine Q.val rfl rfl rfl rfl (fun w3 hE => R.pickT rfl rfl) ?_ | refine Q.val rfl rfl rfl rfl (fun w3 hE => R.pickF rfl rfl) ?_
              refine Q.val rfl rfl rfl rfl (fun w3 hE => R.mv rfl) ?_
              refine Q.isT 105 rfl (by simp) ?_
              refine Q.val rfl rfl rfl rfl (fun w3 hE => R.mv rfl) ?_
              refine Q.call (.int .i64 (secF (itemsLen os : Nat))) rfl rfl rfl go29 (fun w3 hE => ⟨_, rfl, (lists_ok a m c os _ ⟨hT.cells.ext0 (E.trans0 hE), hT.len, hT.each⟩ (fun o ho => (hO o ho).ext0 (E.trans0 hE)) (by omega) h60).mono (fun _ _ h => h)⟩) ?_
              refine Q.val rfl rfl rfl rfl (fun w3 hE => R.mv rfl) ?_
              refine Q.call (.int .i64 (secF (itemsLen os : Nat))) rfl rfl rfl go30 (fun w3 hE => ⟨_, rfl, (reflists_ok a m c os _ ⟨hT.cells.ext0 (E.trans0 hE), hT.len, hT.each⟩ (fun o ho => (hO o ho).ext0 (E.trans0 hE)) (by omega) h60).mono (fun _ _ h => h)⟩) ?_
              refine Q.val rfl rfl rfl rfl (fun w3 hE => R.eqI rfl rfl) ?_
              first | refine Q.val rfl rfl rfl rfl (fun w3 hE => R.pickT rfl rfl) ?_ | refine Q.val rfl rfl rfl rfl (fun w3 hE => R.pickF rfl rfl) ?_
              refine Q.val rfl rfl rfl rfl (fun w3 hE => R.as rfl) ?_
              refine Q.nil (fun w3 e3 => ?_)
              replace B3 := B3.ext0 e3
              replace E := E.trans0 e3
              refine N.seq ?_
              refine G.ret1 rfl rfl ?_
              first
                | exact ⟨rfl, E⟩
                | exact ⟨congrArg Value.bool (by simp), E⟩
      · refine L.pass rfl rfl ?_
        refine L.pass rfl rfl ?_
        first | refine L.val rfl rfl (R.pickT rfl rfl) ?_ | refine L.val rfl rfl (R.pickF rfl rfl) ?_
        refine L.nil ?_
        refine N.seq ?_
        refine G.cut (X := Unit) (fun _ => [(1, .int .i64 n), (2, .slice a m c), (3, .pointer (some ⟨b3, 0, none⟩)), (9, .int .i64 (backF n)), (10, .int .i64 0), (11, .int .i64 0)]) (fun _ w' => Ext [] w w' ∧ Blk w' b3 #[.int .i64 p, .int .i64 q, .int .i64 r] 35 (0, 0)) ?_ ?_
        · refine G.condF rfl ?_
          refine G.be 9 rfl (show _ = Value.int .i64 (backF n) by unfold backF; rw [if_neg (by omega)]) ?_
          refine G.skip ?_
          exact N.handX () (Sub.cons rfl (Sub.cons rfl (Sub.cons rfl (Sub.cons rfl (Sub.cons rfl (Sub.cons rfl (Sub.nil _))))))) ⟨E, B3⟩
        · rintro _ w1 ⟨E, B3⟩
          refine N.seq ?_
          refine G.seq ?_
          refine G.seq ?_
          refine G.region ?_
          refine L.val rfl rfl (R.ldBN rfl B3 rfl) ?_
          refine L.callF rfl rfl rfl go21 (need_ok _ _ _ _ hp hq hr) ?_
          rintro _ w2 ⟨rfl, e2⟩
          replace B3 := B3.ext0 e2
          replace E := E.trans0 e2
          refine L.val rfl rfl (R.gtr rfl rfl) ?_
          refine L.nil ?_
          refine N.seq ?_
          refine G.cut (X := Unit) (fun _ => [(1, .int .i64 n), (2, .slice a m c), (3, .pointer (some ⟨b3, 0, none⟩)), (9, .int .i64 (backF n)), (10, .int .i64 (segF p q r)), (11, .int .i64 0)]) (fun _ w' => Ext [] w w' ∧ Blk w' b3 #[.int .i64 p, .int .i64 q, .int .i64 r] 35 (0, 0)) ?_ ?_
          · refine G.condP rfl (fun h6 => ?_) (fun h6 => ?_)
            · have hsh := needF_pos.1 h6
              have hr4 := hsh.2.2.2.2.1
              have hr5 := hsh.2.2.2.2.2
              refine G.region ?_
              refine L.val rfl rfl (R.fld rfl) ?_
              refine L.val rfl rfl (R.ldB rfl B3 rfl) ?_
              refine L.val rfl rfl (R.mul rfl rfl (by omega)) ?_
              refine L.callF rfl rfl rfl go19 (refsec_ok _ _ (by omega)) ?_
              rintro _ _ ⟨rfl, hw⟩
              obtain rfl := hw.symm
              refine L.val rfl rfl (R.as rfl) ?_
              refine L.be 10 rfl (show _ = Value.int .i64 (segF p q r) by unfold segF; rw [if_pos hsh]) ?_
              refine L.nil ?_
              exact N.handX () (Sub.cons rfl (Sub.cons rfl (Sub.cons rfl (Sub.cons rfl (Sub.cons rfl (Sub.cons rfl (Sub.nil _))))))) ⟨E, B3⟩
            · refine G.be 10 rfl (show _ = Value.int .i64 (segF p q r) by unfold segF; rw [if_neg (fun h => h6 (needF_pos.2 h))]) ?_
              refine G.skip ?_
              exact N.handX () (Sub.cons rfl (Sub.cons rfl (Sub.cons rfl (Sub.cons rfl (Sub.cons rfl (Sub.cons rfl (Sub.nil _))))))) ⟨E, B3⟩
          · rintro _ w1 ⟨E, B3⟩
            refine N.seq ?_
            refine G.seq ?_
            refine G.seq ?_
            refine G.region ?_
            refine L.val rfl rfl (R.ldBN rfl B3 rfl) ?_
            refine L.val rfl rfl (R.mv rfl) ?_
            refine L.callF rfl rfl rfl go22 (reffits_l _ _ _ _ _ hp hq hr hnn) ?_
            rintro _ w2 ⟨rfl, e2⟩
            replace B3 := B3.ext0 e2
            replace E := E.trans0 e2
            refine L.nil ?_
            refine N.seq ?_
            refine G.cut (X := Unit) (fun _ => [(1, .int .i64 n), (2, .slice a m c), (3, .pointer (some ⟨b3, 0, none⟩)), (9, .int .i64 (backF n)), (10, .int .i64 (segF p q r)), (11, .int .i64 (perF p q r n))]) (fun _ w' => Ext [] w w' ∧ Blk w' b3 #[.int .i64 p, .int .i64 q, .int .i64 r] 35 (0, 0)) ?_ ?_
            · refine G.condP rfl (fun h7 => ?_) (fun h7 => ?_)
              · have hcp := comF_pos h7.2.1
                have hper := perF_yes h7
                have hr4 := h7.1.2.2.2.2.1
                have hr5 := h7.1.2.2.2.2.2
                refine G.block ?_
                refine G.loop (X := Nat) (fun k => [(1, .int .i64 n), (2, .slice a m c), (3, .pointer (some ⟨b3, 0, none⟩)), (9, .int .i64 (backF n)), (10, .int .i64 (segF p q r)), (11, .int .i64 (k : Nat))]) (fun k w' => (k : Int) ≤ (r - 2) / comF n ∧ Ext [] w w' ∧ Blk w' b3 #[.int .i64 p, .int .i64 q, .int .i64 r] 35 (0, 0)) (fun k => ((r - 2) / comF n).toNat - k) (0) (Sub.cons rfl (Sub.cons rfl (Sub.cons rfl (Sub.cons rfl (Sub.cons rfl (Sub.cons rfl (Sub.nil _))))))) ⟨Int.ediv_nonneg (by omega) (by omega), E, B3⟩ ?_
                rintro k w1 ⟨hk, E, B3⟩
                have hk62 : (r - 2) / comF n ≤ r - 2 := Int.ediv_le_self _ (by omega)
                have hkm : 0 ≤ ((k : Int) + 1) * comF n ∧ ((k : Int) + 1) * comF n ≤ 20000 := ⟨Int.mul_nonneg (by omega) (by omega), Int.le_trans (Int.mul_le_mul (show (k : Int) + 1 ≤ 64 by omega) hcp.2 (by omega) (by omega)) (by decide)⟩
                refine G.seq ?_
                refine G.seq ?_
                refine G.quiet (by decide +kernel) rfl ?_
                refine Q.val rfl rfl rfl rfl (fun w3 hE => R.mv rfl) ?_
                refine Q.val rfl rfl rfl rfl (fun w3 hE => R.add rfl rfl (by omega)) ?_
                refine Q.val rfl rfl rfl rfl (fun w3 hE => R.mv rfl) ?_
                refine Q.call (.int .i64 (comF n)) rfl rfl rfl go23 (fun w3 hE => ⟨_, rfl, (refcom_ok _ _ hnn).mono (fun _ _ h => h)⟩) ?_
                refine Q.val rfl rfl rfl rfl (fun w3 hE => R.mul rfl rfl (by omega)) ?_
                refine Q.val rfl rfl rfl rfl (fun w3 hE => R.fld rfl) ?_
                refine Q.val rfl rfl rfl rfl (fun w3 hE => R.ldB rfl (B3.ext0 hE) rfl) ?_
                refine Q.val rfl rfl rfl rfl (fun w3 hE => R.sub' rfl rfl (by omega)) ?_
                refine Q.val rfl rfl rfl rfl (fun w3 hE => R.leq rfl rfl) ?_
                refine Q.nil (fun w3 e3 => ?_)
                replace B3 := B3.ext0 e3
                replace E := E.trans0 e3
                refine N.seq ?_
                refine G.condP rfl (fun h8 => ?_) (fun h8 => ?_)
                · have hpu := per_up hcp.1 h8
                  refine G.skip ?_
                  refine N.seq ?_
                  refine G.block ?_
                  refine G.region ?_
                  refine L.val rfl rfl (R.mv rfl) ?_
                  refine L.val rfl rfl (R.add rfl rfl (by omega)) ?_
                  refine L.val rfl rfl (R.as rfl) ?_
                  refine L.nil ?_
                  refine N.block ?_
                  exact N.again (k + 1) (by omega) (Sub.cons rfl (Sub.cons rfl (Sub.cons rfl (Sub.cons rfl (Sub.cons rfl (Sub.cons rfl (Sub.nil _))))))) ⟨by omega, E, B3⟩
                · refine G.be 11 rfl (show _ = Value.int .i64 (perF p q r n) by rw [hper, ← per_end hcp.1 hk h8]) ?_
                  refine G.exit _ rfl ?_
                  exact N.handX () (Sub.cons rfl (Sub.cons rfl (Sub.cons rfl (Sub.cons rfl (Sub.cons rfl (Sub.cons rfl (Sub.nil _))))))) ⟨E, B3⟩
              · refine G.be 11 rfl (show _ = Value.int .i64 (perF p q r n) by rw [perF_no h7]) ?_
                refine G.skip ?_
                exact N.handX () (Sub.cons rfl (Sub.cons rfl (Sub.cons rfl (Sub.cons rfl (Sub.cons rfl (Sub.cons rfl (Sub.nil _))))))) ⟨E, B3⟩
            · rintro _ w1 ⟨E, B3⟩
              refine N.seq ?_
              refine G.seq ?_
              refine G.quiet (by decide +kernel) rfl ?_
              refine Q.val rfl rfl rfl rfl (fun w3 hE => R.mv rfl) ?_
              refine Q.call (.int .i64 (comF n)) rfl rfl rfl go24 (fun w3 hE => ⟨_, rfl, (com_ok _ _ hnn).mono (by rintro _ _ ⟨rfl, rfl⟩; exact ⟨rfl, Ext.refl _ _⟩)⟩) ?_
              refine Q.val rfl rfl rfl rfl (fun w3 hE => R.mv rfl) ?_
              refine Q.call (.int .i64 (comF n)) rfl rfl rfl go23 (fun w3 hE => ⟨_, rfl, (refcom_ok _ _ hnn).mono (fun _ _ h => h)⟩) ?_
              refine Q.val rfl rfl rfl rfl (fun w3 hE => R.eqI rfl rfl) ?_
              refine Q.val rfl rfl rfl rfl (fun w3 hE => R.mv rfl) ?_
              refine Q.isT 77 rfl (by simp) ?_
              refine Q.val rfl rfl rfl rfl (fun w3 hE => R.ldBN rfl (B3.ext0 hE) rfl) ?_
              refine Q.val rfl rfl rfl rfl (fun w3 hE => R.mv rfl) ?_
              refine Q.call (.bool (decide (okFits p q r n))) rfl rfl rfl go25 (fun w3 hE => ⟨_, rfl, (lfits_ok _ _ _ _ _ hp hq hr hnn).mono (fun _ _ h => h)⟩) ?_
              refine Q.val rfl rfl rfl rfl (fun w3 hE => R.ldBN rfl (B3.ext0 hE) rfl) ?_
              refine Q.val rfl rfl rfl rfl (fun w3 hE => R.mv rfl) ?_
              refine Q.call (.bool (decide (okFits p q r n))) rfl rfl rfl go22 (fun w3 hE => ⟨_, rfl, (reffits_l _ _ _ _ _ hp hq hr hnn).mono (fun _ _ h => h)⟩) ?_
              refine Q.val rfl rfl rfl rfl (fun w3 hE => R.eqB rfl rfl) ?_
              first | refine Q.val rfl rfl rfl rfl (fun w3 hE => R.pickT rfl rfl) ?_ | refine Q.val rfl rfl rfl rfl (fun w3 hE => R.pickF rfl rfl) ?_
              refine Q.val rfl rfl rfl rfl (fun w3 hE => R.mv rfl) ?_
              refine Q.isT 86 rfl (by simp) ?_
              refine Q.val rfl rfl rfl rfl (fun w3 hE => R.ldBN rfl (B3.ext0 hE) rfl) ?_
              refine Q.val rfl rfl rfl rfl (fun w3 hE => R.mv rfl) ?_
              refine Q.call (.int .i64 (perF p q r n)) rfl rfl rfl go26 (fun w3 hE => ⟨_, rfl, (perseg_ok _ _ _ _ _ hp hq hr hnn).mono (fun _ _ h => h)⟩) ?_
              refine Q.val rfl rfl rfl rfl (fun w3 hE => R.mv rfl) ?_
              refine Q.val rfl rfl rfl rfl (fun w3 hE => R.eqI rfl rfl) ?_
              first | refine Q.val rfl rfl rfl rfl (fun w3 hE => R.pickT rfl rfl) ?_ | refine Q.val rfl rfl rfl rfl (fun w3 hE => R.pickF rfl rfl) ?_
              refine Q.val rfl rfl rfl rfl (fun w3 hE => R.mv rfl) ?_
              refine Q.isT 93 rfl (by simp) ?_
              refine Q.val rfl rfl rfl rfl (fun w3 hE => R.mv rfl) ?_
              refine Q.call (.int .i64 (backF n)) rfl rfl rfl go27 (fun w3 hE => ⟨_, rfl, (backup_ok _ _ hnn).mono (by rintro _ _ ⟨rfl, rfl⟩; exact ⟨rfl, Ext.refl _ _⟩)⟩) ?_
              refine Q.val rfl rfl rfl rfl (fun w3 hE => R.mv rfl) ?_
              refine Q.val rfl rfl rfl rfl (fun w3 hE => R.eqI rfl rfl) ?_
              first | refine Q.val rfl rfl rfl rfl (fun w3 hE => R.pickT rfl rfl) ?_ | refine Q.val rfl rfl rfl rfl (fun w3 hE => R.pickF rfl rfl) ?_
              refine Q.val rfl rfl rfl rfl (fun w3 hE => R.mv rfl) ?_
              refine Q.isT 99 rfl (by simp) ?_
              refine Q.val rfl rfl rfl rfl (fun w3 hE => R.ldBN rfl (B3.ext0 hE) rfl) ?_
              refine Q.call (.int .i64 (segF p q r)) rfl rfl rfl go28 (fun w3 hE => ⟨_, rfl, (segment_ok _ _ _ _ hp hq hr).mono (fun _ _ h => h)⟩) ?_
              refine Q.val rfl rfl rfl rfl (fun w3 hE => R.mv rfl) ?_
              refine Q.val rfl rfl rfl rfl (fun w3 hE => R.eqI rfl rfl) ?_
              first | refine Q.val rfl rfl rfl rfl (fun w3 hE => R.pickT rfl rfl) ?_ | refine Q.val rfl rfl rfl rfl (fun w3 hE => R.pickF rfl rfl) ?_
              refine Q.val rfl rfl rfl rfl (fun w3 hE => R.mv rfl) ?_
              refine Q.isT 105 rfl (by simp) ?_
              refine Q.val rfl rfl rfl rfl (fun w3 hE => R.mv rfl) ?_
              refine Q.call (.int .i64 (secF (itemsLen os : Nat))) rfl rfl rfl go29 (fun w3 hE => ⟨_, rfl, (lists_ok a m c os _ ⟨hT.cells.ext0 (E.trans0 hE), hT.len, hT.each⟩ (fun o ho => (hO o ho).ext0 (E.trans0 hE)) (by omega) h60).mono (fun _ _ h => h)⟩) ?_
              refine Q.val rfl rfl rfl rfl (fun w3 hE => R.mv rfl) ?_
              refine Q.call (.int .i64 (secF (itemsLen os : Nat))) rfl rfl rfl go30 (fun w3 hE => ⟨_, rfl, (reflists_ok a m c os _ ⟨hT.cells.ext0 (E.trans0 hE), hT.len, hT.each⟩ (fun o ho => (hO o ho).ext0 (E.trans0 hE)) (by omega) h60).mono (fun _ _ h => h)⟩) ?_
              refine Q.val rfl rfl rfl rfl (fun w3 hE => R.eqI rfl rfl) ?_
              first | refine Q.val rfl rfl rfl rfl (fun w3 hE => R.pickT rfl rfl) ?_ | refine Q.val rfl rfl rfl rfl (fun w3 hE => R.pickF rfl rfl) ?_
              refine Q.val rfl rfl rfl rfl (fun w3 hE => R.as rfl) ?_
              refine Q.nil (fun w3 e3 => ?_)
              replace B3 := B3.ext0 e3
              replace E := E.trans0 e3
              refine N.seq ?_
              refine G.ret1 rfl rfl ?_
              first
                | exact ⟨rfl, E⟩
                | exact ⟨congrArg Value.bool (by simp), E⟩

end Go.Proofs.Ytfbkbobphjncfaa
