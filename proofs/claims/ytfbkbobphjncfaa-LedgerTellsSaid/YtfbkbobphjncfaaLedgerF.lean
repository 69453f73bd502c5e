/-
  The walk of the law on ledger.
-/
import Derived.Test.YtfbkbobphjncfaaLedgerB
set_option linter.unusedVariables false
namespace Go.Proofs.Ytfbkbobphjncfaa
open Go Brv Brv.Crc Brv.Pack Brv.Ledger
theorem go18 : ∀ (vs : Array Value) w, (callFunc 18 vs).run Try.prog w = .ok (.enter 18 vs) w := callFunc_run Try.func18 (by decide) rfl

theorem ledger_first_ok  (w : World) : Meets Try.prog 18 [] w (fun v w' => v = .bool true ∧ Ext [] w w') := by
  refine Meets.enter Try.func18 rfl 46 rfl (Nat.le_of_ble_eq_true rfl) ?_
  have E := Ext.refl [] w
  refine G.seq ?_
  refine G.region ?_
  refine L.val rfl rfl (R.as rfl) ?_
  refine L.nil ?_
  refine N.seq ?_
  refine G.seq ?_
  refine G.region ?_
  refine L.val rfl rfl (R.build rfl rfl) ?_
  refine L.do rfl rfl (R.alloc) ?_
  rintro _ w1 ⟨b1, rfl, hb1, hs1, e1, B1⟩
  have hz := E.size
  have E1 := E
  refine L.set rfl (R.stN rfl rfl B1 rfl (Nat.le_refl 3) (by decide)) ?_
  rintro w2 ⟨e2, hs2, B1⟩
  replace B1 : Blk w2 b1 #[.int .i64 4, .int .i64 3, .int .i64 10] 35 (0, 0) := B1
  replace E := (E1.trans0 e1).trans e2 (M := []) (by simp) (by intro x hx; rw [List.mem_singleton.1 hx]; exact .inr (by omega))
  refine L.nil ?_
  refine N.seq ?_
  refine G.seq ?_
  refine G.region ?_
  refine L.callF rfl rfl rfl go24 (com_ok 0 _ (by decide)) ?_
  rintro _ _ ⟨rfl, hw⟩
  obtain rfl := hw.symm
  refine L.val rfl rfl (R.eqI rfl rfl) ?_
  refine L.val rfl rfl (R.mv rfl) ?_
  refine L.isT 5 rfl (by decide +kernel) ?_
  refine L.callF rfl rfl rfl go24 (com_ok 1 _ (by decide)) ?_
  rintro _ _ ⟨rfl, hw⟩
  obtain rfl := hw.symm
  refine L.val rfl rfl (R.eqI rfl rfl) ?_
  first | refine L.val rfl rfl (R.pickT rfl rfl) ?_ | refine L.val rfl rfl (R.pickF rfl rfl) ?_
  refine L.val rfl rfl (R.mv rfl) ?_
  refine L.isT 9 rfl (by decide +kernel) ?_
  refine L.callF rfl rfl rfl go24 (com_ok 65 _ (by decide)) ?_
  rintro _ _ ⟨rfl, hw⟩
  obtain rfl := hw.symm
  refine L.val rfl rfl (R.eqI rfl rfl) ?_
  first | refine L.val rfl rfl (R.pickT rfl rfl) ?_ | refine L.val rfl rfl (R.pickF rfl rfl) ?_
  refine L.val rfl rfl (R.mv rfl) ?_
  refine L.isT 13 rfl (by decide +kernel) ?_
  refine L.val rfl rfl (R.ldBN rfl B1 rfl) ?_
  refine L.callF rfl rfl rfl go25 (lfits_ok 4 3 10 3 _ (by decide) (by decide) (by decide) (by decide)) ?_
  rintro _ w3 ⟨rfl, e3⟩
  replace E := E.trans0 e3
  replace B1 := B1.ext0 e3
  first | refine L.val rfl rfl (R.pickT rfl rfl) ?_ | refine L.val rfl rfl (R.pickF rfl rfl) ?_
  refine L.val rfl rfl (R.mv rfl) ?_
  refine L.isT 17 rfl (by decide +kernel) ?_
  refine L.val rfl rfl (R.ldBN rfl B1 rfl) ?_
  refine L.callF rfl rfl rfl go25 (lfits_ok 4 3 10 5 _ (by decide) (by decide) (by decide) (by decide)) ?_
  rintro _ w4 ⟨rfl, e4⟩
  replace E := E.trans0 e4
  replace B1 := B1.ext0 e4
  refine L.val rfl rfl (R.not rfl) ?_
  first | refine L.val rfl rfl (R.pickT rfl rfl) ?_ | refine L.val rfl rfl (R.pickF rfl rfl) ?_
  refine L.val rfl rfl (R.mv rfl) ?_
  refine L.isT 22 rfl (by decide +kernel) ?_
  refine L.val rfl rfl (R.ldBN rfl B1 rfl) ?_
  refine L.callF rfl rfl rfl go26 (perseg_ok 4 3 10 1 _ (by decide) (by decide) (by decide) (by decide)) ?_
  rintro _ w5 ⟨rfl, e5⟩
  replace E := E.trans0 e5
  replace B1 := B1.ext0 e5
  refine L.val rfl rfl (R.eqI rfl rfl) ?_
  first | refine L.val rfl rfl (R.pickT rfl rfl) ?_ | refine L.val rfl rfl (R.pickF rfl rfl) ?_
  refine L.val rfl rfl (R.mv rfl) ?_
  refine L.isT 27 rfl (by decide +kernel) ?_
  refine L.val rfl rfl (R.ldBN rfl B1 rfl) ?_
  refine L.val rfl rfl (R.build rfl rfl) ?_
  refine L.callF rfl rfl rfl go53 (left_first _) ?_
  rintro _ w6 ⟨rfl, e6⟩
  replace E := E.trans0 e6
  replace B1 := B1.ext0 e6
  refine L.val rfl rfl (R.eqI rfl rfl) ?_
  first | refine L.val rfl rfl (R.pickT rfl rfl) ?_ | refine L.val rfl rfl (R.pickF rfl rfl) ?_
  refine L.val rfl rfl (R.mv rfl) ?_
  refine L.isT 33 rfl (by decide +kernel) ?_
  refine L.callF rfl rfl rfl go27 (backup_ok 4 _ (by decide)) ?_
  rintro _ _ ⟨rfl, hw⟩
  obtain rfl := hw.symm
  refine L.val rfl rfl (R.eqI rfl rfl) ?_
  first | refine L.val rfl rfl (R.pickT rfl rfl) ?_ | refine L.val rfl rfl (R.pickF rfl rfl) ?_
  refine L.val rfl rfl (R.mv rfl) ?_
  refine L.isT 37 rfl (by decide +kernel) ?_
  refine L.val rfl rfl (R.ldBN rfl B1 rfl) ?_
  refine L.callF rfl rfl rfl go28 (segment_ok 4 3 10 _ (by decide) (by decide) (by decide)) ?_
  rintro _ w7 ⟨rfl, e7⟩
  replace E := E.trans0 e7
  replace B1 := B1.ext0 e7
  refine L.val rfl rfl (R.eqI rfl rfl) ?_
  first | refine L.val rfl rfl (R.pickT rfl rfl) ?_ | refine L.val rfl rfl (R.pickF rfl rfl) ?_
  refine L.val rfl rfl (R.mv rfl) ?_
  refine L.isT 42 rfl (by decide +kernel) ?_
  refine L.callF rfl rfl rfl go29 (lists_ok none 0 0 [] _ ⟨Cells.nil _ _, rfl, by simp⟩ (by simp) (by decide) (by simp)) ?_
  rintro _ w8 ⟨rfl, e8⟩
  replace E := E.trans0 e8
  replace B1 := B1.ext0 e8
  refine L.val rfl rfl (R.eqI rfl rfl) ?_
  first | refine L.val rfl rfl (R.pickT rfl rfl) ?_ | refine L.val rfl rfl (R.pickF rfl rfl) ?_
  refine L.val rfl rfl (R.as rfl) ?_
  refine L.nil ?_
  refine N.seq ?_
  refine G.ret1 rfl rfl ?_
  exact ⟨congrArg Value.bool (by decide +kernel), E⟩

end Go.Proofs.Ytfbkbobphjncfaa
