/-
  Texts of this claim, put together.
-/
import Derived.Test.YtiiiplhfgblamaaRows
import Derived.JoinedOf
import Derived.Test.YtiiiplhfgblamaaRecBLz4
/-
  The walks of package record.
-/
set_option linter.unusedVariables false
set_option linter.unusedSimpArgs false
set_option maxRecDepth 4000
namespace Go.Proofs.Ytiiiplhfgblamaa
open Go Brv Brv.Pack Brv.Frame
theorem tells7_ok (kd tl nu kd2 tl2 nu2 : Int) (r r2 : RowW) (a : Option Addr) (n c : Nat) (l : List UInt8) (w : World) (hr : r.ok w) (hr2 : r2.ok w) (hb : Bs w a n l) (hnc : n ≤ c) : Meets Try.prog 3 [.agg #[.int .i64 kd, .int .i64 tl, .int .i64 nu, .slice r.a r.n r.c], .agg #[.int .i64 kd2, .int .i64 tl2, .int .i64 nu2, .slice r2.a r2.n r2.c], .slice a n c] w (fun v w' => v = .bool true ∧ Ext [] w w') := by
  refine Meets.law Try.func3 rfl 87 rfl (Nat.le_of_ble_eq_true rfl) (law_cons (p := fun w => RowW.ok w r) (fun w9 he => hr.ext0 he) (law_cons (p := fun w => RowW.ok w r2) (fun w9 he => hr2.ext0 he) (law_bs (hb) (law_nil w)))) ?_
  refine SG.seq ?_
  refine SG.region ?_
  refine SL.step rfl rfl (CS.boxA rfl) ?_
  rintro _ _ ⟨b3, rfl, rfl⟩
  refine SL.step rfl rfl (CS.boxA rfl) ?_
  rintro _ _ ⟨b4, rfl, rfl⟩
  refine SL.val rfl rfl (fun w9 F9 S9 s => R.as rfl) ?_
  refine SL.nil ?_
  refine SN.imp (Imp.fz (by repeat (first | exact Sel.keep | exact Sel.here | apply Sel.there))) ?_
  refine SN.imp (Imp.fz (by repeat (first | exact Sel.keep | exact Sel.here | apply Sel.there))) ?_
  refine SN.seq ?_
  refine SG.seq ?_
  refine SG.seq ?_
  refine SG.region ?_
  refine SL.step rfl rfl (CS.callR rfl go12 (fun w9 F9 S9 s => first7_ok w9)) ?_
  rintro _ _ ⟨rfl, rfl⟩
  refine SL.val rfl rfl (fun w9 F9 S9 s => R.not rfl) ?_
  refine SL.nil ?_
  refine SN.seq ?_
  refine SG.condF rfl ?_
  refine SG.skip ?_
  refine SN.seq ?_
  refine SG.seq ?_
  refine SG.seq ?_
  refine SG.region ?_
  refine SL.val rfl rfl (fun w9 F9 S9 s => R.ldBN rfl (s.cel (by repeat (first | exact SelB.blk | exact SelB.fz | apply SelB.there))) (by rfl)) ?_
  refine SL.step rfl rfl (CS.callR (φ := fun v => ∃ b, v = .bool b) rfl go13 (fun w9 F9 S9 s => (great_any kd tl nu r w9 (s.row (by repeat (first | exact Sel.keep | exact Sel.here | apply Sel.there)))).mono (fun v w8 ⟨b, h1, h2⟩ => ⟨⟨b, h1⟩, h2⟩))) ?_
  rintro _ _ ⟨⟨bgr, rfl⟩, rfl⟩
  refine SL.val rfl rfl (fun w9 F9 S9 s => R.mv rfl) ?_
  refine SL.caseB 17 rfl (fun hg3_2 => ?_) (fun hg3_2 => ?_)
  · refine SL.pass rfl rfl ?_
    refine SL.pass rfl rfl ?_
    first | refine SL.val rfl rfl (fun w9 F9 S9 s => R.pickT rfl rfl) ?_ | refine SL.val rfl rfl (fun w9 F9 S9 s => R.pickF rfl rfl) ?_
    refine SL.val rfl rfl (fun w9 F9 S9 s => R.mv rfl) ?_
    refine SL.pass rfl rfl ?_
    refine SL.pass rfl rfl ?_
    refine SL.pass rfl rfl ?_
    first | refine SL.val rfl rfl (fun w9 F9 S9 s => R.pickT rfl rfl) ?_ | refine SL.val rfl rfl (fun w9 F9 S9 s => R.pickF rfl rfl) ?_
    refine SL.nil ?_
    refine SN.seq ?_
    refine SG.condT rfl ?_
    refine SG.seq ?_
    refine SG.region ?_
    refine SL.val rfl rfl (fun w9 F9 S9 s => R.as rfl) ?_
    refine SL.nil ?_
    refine SN.seq ?_
    exact SG.ret1 rfl rfl ((Imp.sels (by repeat (first | exact Sels.nil | apply Sels.cons | exact Sel.keep | exact Sel.here | apply Sel.there)))) (rfl)
  · refine SL.val rfl rfl (fun w9 F9 S9 s => R.ldBN rfl (s.cel (by repeat (first | exact SelB.blk | exact SelB.fz | apply SelB.there))) (by rfl)) ?_
    refine SL.step rfl rfl (CS.callR (φ := fun v => ∃ b, v = .bool b) rfl go13 (fun w9 F9 S9 s => (great_any kd2 tl2 nu2 r2 w9 (s.row (by repeat (first | exact Sel.keep | exact Sel.here | apply Sel.there)))).mono (fun v w8 ⟨b, h1, h2⟩ => ⟨⟨b, h1⟩, h2⟩))) ?_
    rintro _ _ ⟨⟨bgr2, rfl⟩, rfl⟩
    first | refine SL.val rfl rfl (fun w9 F9 S9 s => R.pickT rfl rfl) ?_ | refine SL.val rfl rfl (fun w9 F9 S9 s => R.pickF rfl rfl) ?_
    refine SL.val rfl rfl (fun w9 F9 S9 s => R.mv rfl) ?_
    refine SL.caseB 21 rfl (fun hg3_6 => ?_) (fun hg3_6 => ?_)
    · refine SL.pass rfl rfl ?_
      refine SL.pass rfl rfl ?_
      refine SL.pass rfl rfl ?_
      first | refine SL.val rfl rfl (fun w9 F9 S9 s => R.pickT rfl rfl) ?_ | refine SL.val rfl rfl (fun w9 F9 S9 s => R.pickF rfl rfl) ?_
      refine SL.nil ?_
      refine SN.seq ?_
      refine SG.condT rfl ?_
      refine SG.seq ?_
      refine SG.region ?_
      refine SL.val rfl rfl (fun w9 F9 S9 s => R.as rfl) ?_
      refine SL.nil ?_
      refine SN.seq ?_
      exact SG.ret1 rfl rfl ((Imp.sels (by repeat (first | exact Sels.nil | apply Sels.cons | exact Sel.keep | exact Sel.here | apply Sel.there)))) (rfl)
    · refine SL.val rfl rfl (fun w9 F9 S9 s => R.mv rfl) ?_
      refine SL.val rfl rfl (fun w9 F9 S9 s => R.lenS rfl) ?_
      refine SL.val rfl rfl (fun w9 F9 S9 s => R.gtr rfl rfl) ?_
      first | refine SL.val rfl rfl (fun w9 F9 S9 s => R.pickT rfl rfl) ?_ | refine SL.val rfl rfl (fun w9 F9 S9 s => R.pickF rfl rfl) ?_
      refine SL.nil ?_
      refine SN.seq ?_
      refine SG.condP rfl (fun h1 => ?_) (fun h1 => ?_)
      · refine SG.seq ?_
        refine SG.region ?_
        refine SL.val rfl rfl (fun w9 F9 S9 s => R.as rfl) ?_
        refine SL.nil ?_
        refine SN.seq ?_
        exact SG.ret1 rfl rfl ((Imp.sels (by repeat (first | exact Sels.nil | apply Sels.cons | exact Sel.keep | exact Sel.here | apply Sel.there)))) (rfl)
      · have hln := hb.len
        refine SG.skip ?_
        refine SN.seq ?_
        refine SG.seq ?_
        refine SG.region ?_
        refine SL.val rfl rfl (fun w9 F9 S9 s => R.as rfl) ?_
        refine SL.val rfl rfl (fun w9 F9 S9 s => R.as rfl) ?_
        refine SL.nil ?_
        refine SN.seq ?_
        refine SG.seq ?_
        refine SG.seq ?_
        refine SG.region ?_
        refine SL.val rfl rfl (fun w9 F9 S9 s => R.ldBN rfl (s.cel (by repeat (first | exact SelB.blk | exact SelB.fz | apply SelB.there))) (by rfl)) ?_
        refine SL.step rfl rfl (CS.callR rfl go14 (fun w9 F9 S9 s => refrightV kd tl nu r w9 (s.row (by repeat (first | exact Sel.keep | exact Sel.here | apply Sel.there))))) ?_
        rintro _ _ ⟨rfl, rfl⟩
        refine SL.nil ?_
        refine SN.seq ?_
        refine SG.cut (X := Unit) (fun _ => [(2, .slice a n c), (3, .pointer (some ⟨b3, 0, none⟩)), (4, .pointer (some ⟨b4, 0, none⟩)), (7, .string (str (putR kd tl nu (r.os.map wv)))), (8, .int .i64 (secR kd tl nu (r.os.map wv)))]) (fun _ => [fz b3 [.int .i64 kd, .int .i64 tl, .int .i64 nu, .slice r.a r.n r.c] 24, fz b4 [.int .i64 kd2, .int .i64 tl2, .int .i64 nu2, .slice r2.a r2.n r2.c] 24, sh (fun w => RowW.ok w r), sh (fun w => RowW.ok w r2), bs a n l]) (fun _ => True) ?_ ?_
        · refine SG.condB rfl (fun h2 => ?_) (fun h2 => ?_)
          · have hok := rightB_iff.1 h2
            refine SG.draw [1, 3] [0, 2, 1, 3, 4, 5] (by decide +kernel) rfl ?_
            refine SW.read rfl rfl rfl rfl (fun w9 F9 S9 s => R.ldBN rfl (s.cel (by repeat (first | exact SelB.blk | exact SelB.fz | apply SelB.there))) (by rfl)) ?_
            refine SW.read rfl rfl rfl rfl (fun w9 F9 S9 s => R.ldBN rfl (s.cel (by repeat (first | exact SelB.blk | exact SelB.fz | apply SelB.there))) (by rfl)) ?_
            refine SW.step rfl rfl rfl rfl (CS.callR rfl go15 (fun w9 F9 S9 s => refput7_ok kd tl nu r w9 (s.row (by repeat (first | exact Sel.keep | exact Sel.here | apply Sel.there))) hok)) ?_
            rintro _ _ ⟨rfl, rfl⟩
            refine ⟨⟨.inr (fun w9 F9 S9 s => R.ldBN rfl (s.cel (by repeat (first | exact SelB.blk | exact SelB.fz | apply SelB.there))) (by rfl)), ⟨.inl (by decide +kernel), trivial⟩⟩, ?_⟩
            refine SW.step rfl rfl rfl rfl (CS.callR rfl go16 (fun w9 F9 S9 s => refsectors7_ok kd tl nu r w9 (s.row (by repeat (first | exact Sel.keep | exact Sel.here | apply Sel.there))) hok)) ?_
            rintro _ _ ⟨rfl, rfl⟩
            refine ⟨⟨.inl (by decide +kernel), ⟨.inl (by decide +kernel), trivial⟩⟩, ?_⟩
            refine SW.pure rfl rfl rfl rfl (fun w9 => R.as rfl) ?_
            refine SW.pure rfl rfl rfl rfl (fun w9 => R.as rfl) ?_
            refine SW.nil ?_
            exact SN.handX () (Sub.cons rfl (Sub.cons rfl (Sub.cons rfl (Sub.cons (by rw [putR_yes hok]; rfl) (Sub.cons (by rw [secR_yes hok]; rfl) (Sub.nil _)))))) (Imp.sels (by repeat (first | exact Sels.nil | apply Sels.cons | exact Sel.keep | exact Sel.here | apply Sel.there))) trivial
          · have hno : ¬ okR kd tl nu (r.os.map wv) := fun h9 => by rw [rightB_iff.2 h9] at h2; cases h2
            refine SG.skip ?_
            exact SN.handX () (Sub.cons rfl (Sub.cons rfl (Sub.cons rfl (Sub.cons (by rw [putR_no hno]; rfl) (Sub.cons (by rw [secR_no hno]; rfl) (Sub.nil _)))))) (Imp.sels (by repeat (first | exact Sels.nil | apply Sels.cons | exact Sel.keep | exact Sel.here | apply Sel.there))) trivial
        · rintro _ _
          refine SN.seq ?_
          refine SG.seq ?_
          refine SG.region ?_
          refine SL.val rfl rfl (fun w9 F9 S9 s => R.mv rfl) ?_
          refine SL.step rfl rfl (CS.callP rfl go17 (fun w9 F9 S9 s => getP a n c l w9 (s.bs (by repeat (first | exact Sel.keep | exact Sel.here | apply Sel.there))) hnc (by omega))) ?_
          rintro _ _ ⟨_, ⟨rx, rfl, hrx, rfl, rfl⟩, rfl⟩
          refine SL.val rfl rfl (fun w9 F9 S9 s => R.mv rfl) ?_
          refine SL.val rfl rfl (fun w9 F9 S9 s => R.ext rfl rfl) ?_
          refine SL.val rfl rfl (fun w9 F9 S9 s => R.ext rfl rfl) ?_
          refine SL.step rfl rfl (CS.alloc [.int .i64 0, .int .i64 0, .int .i64 0, .slice none 0 0] rfl) ?_
          rintro _ _ ⟨b9, rfl, rfl⟩
          refine SL.step0 rfl (CS.stA rfl rfl (by repeat (first | exact Sel.keep | exact Sel.here | apply Sel.there)) (by rfl) (by rfl) (by intro u hu; simp only [List.mem_cons, List.not_mem_nil, or_false] at hu; rcases hu with rfl | rfl | rfl | rfl <;> rfl)) ?_
          rintro _ _ rfl
          refine SL.val rfl rfl (fun w9 F9 S9 s => R.as rfl) ?_
          refine SL.nil ?_
          refine SN.imp (Imp.fz (by repeat (first | exact Sel.keep | exact Sel.here | apply Sel.there))) ?_
          refine SN.seq ?_
          refine SG.seq ?_
          refine SG.region ?_
          refine SL.val rfl rfl (fun w9 F9 S9 s => R.mv rfl) ?_
          refine SL.step rfl rfl (CS.call rfl go18 (refget7_ok a n c l (by omega)) (by repeat (first | exact Sels.nil | apply Sels.cons | exact Sel.keep | exact Sel.here | apply Sel.there))) ?_
          rintro _ _ ⟨_, ⟨ry, rfl, hry, rfl⟩, rfl⟩
          refine SL.n1 ?_
          refine SL.val rfl rfl (fun w9 F9 S9 s => R.mv rfl) ?_
          refine SL.val rfl rfl (fun w9 F9 S9 s => R.ext rfl rfl) ?_
          refine SL.val rfl rfl (fun w9 F9 S9 s => R.ext rfl rfl) ?_
          refine SL.step rfl rfl (CS.alloc [.int .i64 0, .int .i64 0, .int .i64 0, .slice none 0 0] rfl) ?_
          rintro _ _ ⟨b11, rfl, rfl⟩
          refine SL.step0 rfl (CS.stA rfl rfl (by repeat (first | exact Sel.keep | exact Sel.here | apply Sel.there)) (by rfl) (by rfl) (by intro u hu; simp only [List.mem_cons, List.not_mem_nil, or_false] at hu; rcases hu with rfl | rfl | rfl | rfl <;> rfl)) ?_
          rintro _ _ rfl
          refine SL.val rfl rfl (fun w9 F9 S9 s => R.as rfl) ?_
          refine SL.nil ?_
          refine SN.imp (Imp.fz (by repeat (first | exact Sel.keep | exact Sel.here | apply Sel.there))) ?_
          refine SN.seq ?_
          refine SG.seq ?_
          refine SG.draw [1, 3, 7, 14, 21, 24, 30] [0, 2, 1, 3, 4, 5, 6, 9, 7, 8, 10, 11, 12, 13, 15, 14, 16, 17, 18, 19, 20, 22, 23, 21, 24, 25, 26, 27, 28, 29, 30, 31, 32, 33, 34, 35, 36, 37, 38, 39, 40, 41, 42, 43, 44, 45] (by decide +kernel) rfl ?_
          refine SW.read rfl rfl rfl rfl (fun w9 F9 S9 s => R.ldBN rfl (s.cel (by repeat (first | exact SelB.blk | exact SelB.fz | apply SelB.there))) (by rfl)) ?_
          refine SW.read rfl rfl rfl rfl (fun w9 F9 S9 s => R.ldBN rfl (s.cel (by repeat (first | exact SelB.blk | exact SelB.fz | apply SelB.there))) (by rfl)) ?_
          refine SW.step rfl rfl rfl rfl (CS.callR rfl go19 (fun w9 F9 S9 s => rightV kd tl nu r w9 (s.row (by repeat (first | exact Sel.keep | exact Sel.here | apply Sel.there))))) ?_
          rintro _ _ ⟨rfl, rfl⟩
          refine ⟨⟨.inr (fun w9 F9 S9 s => R.ldBN rfl (s.cel (by repeat (first | exact SelB.blk | exact SelB.fz | apply SelB.there))) (by rfl)), ⟨.inl (by decide +kernel), trivial⟩⟩, ?_⟩
          refine SW.step rfl rfl rfl rfl (CS.callR rfl go14 (fun w9 F9 S9 s => refrightV kd tl nu r w9 (s.row (by repeat (first | exact Sel.keep | exact Sel.here | apply Sel.there))))) ?_
          rintro _ _ ⟨rfl, rfl⟩
          refine ⟨⟨.inl (by decide +kernel), ⟨.inl (by decide +kernel), trivial⟩⟩, ?_⟩
          refine SW.pure rfl rfl rfl rfl (fun w9 => R.eqB rfl rfl) ?_
          refine SW.pure rfl rfl rfl rfl (fun w9 => R.mv rfl) ?_
          refine SW.isT 47 rfl (by simp) ?_
          refine SW.read rfl rfl rfl rfl (fun w9 F9 S9 s => R.ldBN rfl (s.cel (by repeat (first | exact SelB.blk | exact SelB.fz | apply SelB.there))) (by rfl)) ?_
          refine SW.pure rfl rfl rfl rfl (fun w9 => R.mv rfl) ?_
          refine SW.step rfl rfl rfl rfl (CS.callP rfl go20 (fun w9 F9 S9 s => putP kd tl nu r w9 (s.row (by repeat (first | exact Sel.keep | exact Sel.here | apply Sel.there))))) ?_
          rintro _ _ ⟨_, ⟨ap, cp, rfl, hcp, rfl, rfl⟩, rfl⟩
          refine ⟨⟨.inl (by decide +kernel), ⟨.inl (by decide +kernel), ⟨.inl (by decide +kernel), trivial⟩⟩⟩, ?_⟩
          refine SW.read rfl rfl rfl rfl (fun w9 F9 S9 s => R.strB rfl (s.sh (p := fun w => Bs w ap (putR kd tl nu (r.os.map wv)).length (putR kd tl nu (r.os.map wv))) (by repeat (first | exact Sel.keep | exact Sel.here | apply Sel.there)))) ?_
          refine SW.pure rfl rfl rfl rfl (fun w9 => R.eqStr rfl rfl) ?_
          first | refine SW.pure rfl rfl rfl rfl (fun w9 => R.pickT rfl rfl) ?_ | refine SW.pure rfl rfl rfl rfl (fun w9 => R.pickF rfl rfl) ?_
          refine SW.pure rfl rfl rfl rfl (fun w9 => R.mv rfl) ?_
          refine SW.isT 54 rfl (by simp) ?_
          refine SW.read rfl rfl rfl rfl (fun w9 F9 S9 s => R.ldBN rfl (s.cel (by repeat (first | exact SelB.blk | exact SelB.fz | apply SelB.there))) (by rfl)) ?_
          refine SW.pure rfl rfl rfl rfl (fun w9 => R.mv rfl) ?_
          refine SW.step rfl rfl rfl rfl (CS.callR rfl go21 (fun w9 F9 S9 s => sectorsV kd tl nu r w9 (s.row (by repeat (first | exact Sel.keep | exact Sel.here | apply Sel.there))))) ?_
          rintro _ _ ⟨rfl, rfl⟩
          refine ⟨⟨.inl (by decide +kernel), ⟨.inl (by decide +kernel), ⟨.inl (by decide +kernel), ⟨.inl (by decide +kernel), ⟨.inl (by decide +kernel), trivial⟩⟩⟩⟩⟩, ?_⟩
          refine SW.pure rfl rfl rfl rfl (fun w9 => R.eqI rfl rfl) ?_
          first | refine SW.pure rfl rfl rfl rfl (fun w9 => R.pickT rfl rfl) ?_ | refine SW.pure rfl rfl rfl rfl (fun w9 => R.pickF rfl rfl) ?_
          refine SW.pure rfl rfl rfl rfl (fun w9 => R.mv rfl) ?_
          refine SW.isT 60 rfl (by simp) ?_
          refine SW.read rfl rfl rfl rfl (fun w9 F9 S9 s => R.ldBN rfl (s.cel (by repeat (first | exact SelB.blk | exact SelB.fz | apply SelB.there))) (by rfl)) ?_
          refine SW.read rfl rfl rfl rfl (fun w9 F9 S9 s => R.ldBN rfl (s.cel (by repeat (first | exact SelB.blk | exact SelB.fz | apply SelB.there))) (by rfl)) ?_
          refine SW.read rfl rfl rfl rfl (fun w9 F9 S9 s => R.ldBN rfl (s.cel (by repeat (first | exact SelB.blk | exact SelB.fz | apply SelB.there))) (by rfl)) ?_
          refine SW.read rfl rfl rfl rfl (fun w9 F9 S9 s => R.ldBN rfl (s.cel (by repeat (first | exact SelB.blk | exact SelB.fz | apply SelB.there))) (by rfl)) ?_
          refine SW.step rfl rfl rfl rfl (CS.callR rfl go22 (fun w9 F9 S9 s => rsame_ok kd tl nu kd2 tl2 nu2 r r2 w9 (s.row (by repeat (first | exact Sel.keep | exact Sel.here | apply Sel.there))) (s.row (by repeat (first | exact Sel.keep | exact Sel.here | apply Sel.there))))) ?_
          rintro _ _ ⟨rfl, rfl⟩
          refine ⟨⟨.inr (fun w9 F9 S9 s => R.ldBN rfl (s.cel (by repeat (first | exact SelB.blk | exact SelB.fz | apply SelB.there))) (by rfl)), ⟨.inr (fun w9 F9 S9 s => R.ldBN rfl (s.cel (by repeat (first | exact SelB.blk | exact SelB.fz | apply SelB.there))) (by rfl)), ⟨.inl (by decide +kernel), ⟨.inl (by decide +kernel), ⟨.inl (by decide +kernel), ⟨.inl (by decide +kernel), ⟨.inl (by decide +kernel), ⟨.inl (by decide +kernel), ⟨.inl (by decide +kernel), trivial⟩⟩⟩⟩⟩⟩⟩⟩⟩, ?_⟩
          refine SW.step rfl rfl rfl rfl (CS.callR rfl go23 (fun w9 F9 S9 s => refsame_ok kd tl nu kd2 tl2 nu2 r r2 w9 (s.row (by repeat (first | exact Sel.keep | exact Sel.here | apply Sel.there))) (s.row (by repeat (first | exact Sel.keep | exact Sel.here | apply Sel.there))))) ?_
          rintro _ _ ⟨rfl, rfl⟩
          refine ⟨⟨.inl (by decide +kernel), ⟨.inl (by decide +kernel), ⟨.inl (by decide +kernel), ⟨.inl (by decide +kernel), ⟨.inl (by decide +kernel), ⟨.inl (by decide +kernel), ⟨.inl (by decide +kernel), ⟨.inl (by decide +kernel), ⟨.inl (by decide +kernel), trivial⟩⟩⟩⟩⟩⟩⟩⟩⟩, ?_⟩
          refine SW.pure rfl rfl rfl rfl (fun w9 => R.eqB rfl rfl) ?_
          first | refine SW.pure rfl rfl rfl rfl (fun w9 => R.pickT rfl rfl) ?_ | refine SW.pure rfl rfl rfl rfl (fun w9 => R.pickF rfl rfl) ?_
          refine SW.pure rfl rfl rfl rfl (fun w9 => R.mv rfl) ?_
          refine SW.isT 69 rfl (by simp) ?_
          refine SW.read rfl rfl rfl rfl (fun w9 F9 S9 s => R.ldBN rfl (s.cel (by repeat (first | exact SelB.blk | exact SelB.fz | apply SelB.there))) (by rfl)) ?_
          refine SW.read rfl rfl rfl rfl (fun w9 F9 S9 s => R.ldBN rfl (s.cel (by repeat (first | exact SelB.blk | exact SelB.fz | apply SelB.there))) (by rfl)) ?_
          refine SW.step rfl rfl rfl rfl (CS.callR rfl go23 (fun w9 F9 S9 s => refsame_ok _ _ _ _ _ _ rx ry w9 (s.row (by repeat (first | exact Sel.keep | exact Sel.here | apply Sel.there))) (s.row (by repeat (first | exact Sel.keep | exact Sel.here | apply Sel.there))))) ?_
          rintro _ _ ⟨rfl, rfl⟩
          refine ⟨⟨.inl (by decide +kernel), ⟨.inl (by decide +kernel), ⟨.inl (by decide +kernel), ⟨.inl (by decide +kernel), ⟨.inl (by decide +kernel), ⟨.inl (by decide +kernel), ⟨.inl (by decide +kernel), ⟨.inl (by decide +kernel), ⟨.inl (by decide +kernel), ⟨.inl (by decide +kernel), ⟨.inl (by decide +kernel), trivial⟩⟩⟩⟩⟩⟩⟩⟩⟩⟩⟩, ?_⟩
          first | refine SW.pure rfl rfl rfl rfl (fun w9 => R.pickT rfl rfl) ?_ | refine SW.pure rfl rfl rfl rfl (fun w9 => R.pickF rfl rfl) ?_
          refine SW.pure rfl rfl rfl rfl (fun w9 => R.mv rfl) ?_
          refine SW.isT 74 rfl (by simp [hrx, hry]) ?_
          refine SW.pure rfl rfl rfl rfl (fun w9 => R.mv rfl) ?_
          refine SW.pure rfl rfl rfl rfl (fun w9 => R.eqI rfl rfl) ?_
          refine SW.pure rfl rfl rfl rfl (fun w9 => R.mv rfl) ?_
          refine SW.pure rfl rfl rfl rfl (fun w9 => R.eqB rfl rfl) ?_
          first | refine SW.pure rfl rfl rfl rfl (fun w9 => R.pickT rfl rfl) ?_ | refine SW.pure rfl rfl rfl rfl (fun w9 => R.pickF rfl rfl) ?_
          refine SW.pure rfl rfl rfl rfl (fun w9 => R.mv rfl) ?_
          refine SW.isT 80 rfl (by cases (getR l).isSome <;> decide) ?_
          refine SW.pure rfl rfl rfl rfl (fun w9 => R.mv rfl) ?_
          refine SW.pure rfl rfl rfl rfl (fun w9 => R.mv rfl) ?_
          refine SW.caseB 82 rfl (fun hg10_40 => ?_) (fun hg10_40 => ?_)
          · refine SW.pass (hd := rfl) rfl rfl rfl ?_
            refine SW.pass (hd := rfl) rfl rfl rfl ?_
            first | refine SW.pure rfl rfl rfl rfl (fun w9 => R.pickT rfl rfl) ?_ | refine SW.pure rfl rfl rfl rfl (fun w9 => R.pickF rfl rfl) ?_
            first | refine SW.pure rfl rfl rfl rfl (fun w9 => R.pickT rfl rfl) ?_ | refine SW.pure rfl rfl rfl rfl (fun w9 => R.pickF rfl rfl) ?_
            refine SW.pure rfl rfl rfl rfl (fun w9 => R.as rfl) ?_
            refine SW.nil ?_
            refine SN.seq ?_
            exact SG.ret1 rfl rfl ((Imp.sels (by repeat (first | exact Sels.nil | apply Sels.cons | exact Sel.keep | exact Sel.here | apply Sel.there)))) (rfl)
          · refine SW.pure rfl rfl rfl rfl (fun w9 => R.mv rfl) ?_
            refine SW.pure rfl rfl rfl rfl (fun w9 => R.eqI rfl rfl) ?_
            first | refine SW.pure rfl rfl rfl rfl (fun w9 => R.pickT rfl rfl) ?_ | refine SW.pure rfl rfl rfl rfl (fun w9 => R.pickF rfl rfl) ?_
            first | refine SW.pure rfl rfl rfl rfl (fun w9 => R.pickT rfl rfl) ?_ | refine SW.pure rfl rfl rfl rfl (fun w9 => R.pickF rfl rfl) ?_
            refine SW.pure rfl rfl rfl rfl (fun w9 => R.as rfl) ?_
            refine SW.nil ?_
            refine SN.seq ?_
            exact SG.ret1 rfl rfl ((Imp.sels (by repeat (first | exact Sels.nil | apply Sels.cons | exact Sel.keep | exact Sel.here | apply Sel.there)))) (congrArg Value.bool (by rw [hg10_40]; decide))

end Go.Proofs.Ytiiiplhfgblamaa
/-
  Records among the arguments.
-/
set_option linter.unusedVariables false
namespace Go.Proofs.Ytiiiplhfgblamaa
open Go Brv
structure RecordV where
  mk ::
  (Kind' : Int)
  (Timeline' : Int)
  (Number' : Int)
  (Writes'a : Option Addr) (Writes'n Writes'c : Nat) (Writes' : List WriteV)
def RecordV.cells (o : RecordV) : List Value := [.int .i64 o.Kind', .int .i64 o.Timeline', .int .i64 o.Number', .slice o.Writes'a o.Writes'n o.Writes'c]
def RecordV.ok (w : World) (o : RecordV) : Prop := (Lit.int .i64 o.Kind').wf = true ∧ (Lit.int .i64 o.Timeline').wf = true ∧ (Lit.int .i64 o.Number').wf = true ∧ (o.Writes'n ≤ o.Writes'c ∧ o.Writes'c * 32 ≤ 140737488351232 ∧ Tab w o.Writes'a o.Writes'n 2 (o.Writes'.map WriteV.cells) ∧ ∀ x ∈ o.Writes', x.ok w)
theorem RecordV.ok.ext0 {w w' : World} {o : RecordV} (h : o.ok w) (he : Ext [] w w') : o.ok w' := by
  obtain ⟨h0, h1, h2, h3⟩ := h
  exact ⟨h0, h1, h2, ⟨h3.1, h3.2.1, h3.2.2.1.ext0 he, fun x hx => (h3.2.2.2 x hx).ext0 he⟩⟩
theorem RecordV.cells.length (o : RecordV) : o.cells.length = 4 := rfl
theorem RecordV.cells.one (o : RecordV) : ∀ u ∈ o.cells.toArray.toList, u.oneCell' = true := by
  intro u hu
  simp only [RecordV.cells, List.mem_cons, List.not_mem_nil, or_false] at hu
  rcases hu with rfl | rfl | rfl | rfl <;> rfl
set_option maxRecDepth 100000 in
theorem recordV_of {w : World} {f : Nat} {cs : List Value} (h : Rd Try.prog w f 24 cs) : ∃ o : RecordV, cs = o.cells ∧ o.ok w := by
  cases f with
  | zero => exact h.elim
  | succ f =>
    unfold Rd at h
    rw [Try.underlying24] at h
    obtain ⟨hl, hf⟩ := h
    rw [show Try.prog.cellsOf 24 = 4 from by kernel_rfl] at hl
    obtain ⟨v0, v1, v2, v3, rfl⟩ : ∃ v0 v1 v2 v3, cs = [v0, v1, v2, v3] := by
      match cs, hl with
      | [v0, v1, v2, v3], _ => exact ⟨v0, v1, v2, v3, rfl⟩
    have r0 : Rd Try.prog w f 3 (List.take (Try.prog.cellsOf 3) (List.drop 0 [v0, v1, v2, v3])) := hf 0 _ rfl
    rw [show Try.prog.cellsOf 3 = 1 from by kernel_rfl] at r0
    replace r0 : Rd Try.prog w f 3 [v0] := r0
    have r1 : Rd Try.prog w f 3 (List.take (Try.prog.cellsOf 3) (List.drop 1 [v0, v1, v2, v3])) := hf 1 _ rfl
    rw [show Try.prog.cellsOf 3 = 1 from by kernel_rfl] at r1
    replace r1 : Rd Try.prog w f 3 [v1] := r1
    have r2 : Rd Try.prog w f 3 (List.take (Try.prog.cellsOf 3) (List.drop 2 [v0, v1, v2, v3])) := hf 2 _ rfl
    rw [show Try.prog.cellsOf 3 = 1 from by kernel_rfl] at r2
    replace r2 : Rd Try.prog w f 3 [v2] := r2
    have r3 : Rd Try.prog w f 22 (List.take (Try.prog.cellsOf 22) (List.drop 3 [v0, v1, v2, v3])) := hf 3 _ rfl
    rw [show Try.prog.cellsOf 22 = 1 from by kernel_rfl] at r3
    replace r3 : Rd Try.prog w f 22 [v3] := r3
    obtain ⟨x0, e0, w0⟩ := r0.int
    cases e0
    obtain ⟨x1, e1, w1⟩ := r1.int
    cases e1
    obtain ⟨x2, e2, w2⟩ := r2.int
    cases e2
    obtain ⟨a3, n3, c3, l3, e3, z3, y3, b3, q3⟩ := writeV_rows22 r3
    cases e3
    exact ⟨⟨x0, x1, x2, a3, n3, c3, l3⟩, rfl, ⟨w0, w1, w2, ⟨z3, y3, b3, q3⟩⟩⟩

def RecordV.row (o : RecordV) : RowW := ⟨o.Writes'a, o.Writes'n, o.Writes'c, o.Writes'⟩
theorem RecordV.row_ok {w : World} {o : RecordV} (h : o.ok w) : o.row.ok w := by
  obtain ⟨_, _, _, h1, h2, h3, h4⟩ := h
  exact ⟨⟨h1, by show o.Writes'n ≤ _; omega⟩, h3, fun x hx => (h4 x hx).W⟩
end Go.Proofs.Ytiiiplhfgblamaa
/-
  Laws where what is read is small: the row, and the arguments' sizes.
-/
set_option linter.unusedVariables false
set_option linter.unusedSimpArgs false
namespace Go.Proofs.Ytiiiplhfgblamaa
open Go Brv
namespace Upt
section
variable {H : Type} {enc : TypeId × Value → H}
def X (enc : TypeId × Value → H) (P : Program) (fn : Func) (s : ChangeSpec) (apart : Bool) (k : (H : Type) → List (DataW H) → Bool) : World → Array Value → Prop :=
  fun w args => ∃ ds gs before, DataW.Whole enc P fn.params.toList s.vars apart w args.toList ds gs before ∧ k H (ds ++ gs) = true
def smallB (enc : TypeId × Value → H) (P : Program) (f : Func) (s : ChangeSpec) (apart : Bool) (k : (H : Type) → List (DataW H) → Bool) (w : World) (args : Array Value) (fuel : Nat) : Bool :=
  match DataW.whole enc P w f.params.toList s.vars apart args.toList fuel with
  | some x => k H (x.1 ++ x.2.1)
  | none => false
theorem X_of {P : Program} {f : Func} {s : ChangeSpec} {apart : Bool} {k : (H : Type) → List (DataW H) → Bool} {w : World} {args : Array Value} {fuel : Nat} (h : smallB enc P f s apart k w args fuel = true) : X enc P f s apart k w args := by
  unfold smallB at h
  split at h
  · rename_i x hx
    exact ⟨x.1, x.2.1, x.2.2, DataW.Whole_of_whole hx, h⟩
  · cases h
theorem X_heap {P : Program} {f : Func} {s : ChangeSpec} {apart : Bool} {k : (H : Type) → List (DataW H) → Bool} (w w' : World) (args : Array Value) (hh : w.heap = w'.heap) (h : X enc P f s apart k w args) : X enc P f s apart k w' args :=
  let ⟨ds, gs, before, h1, h2⟩ := h
  ⟨ds, gs, before, h1.of_heap hh, h2⟩
theorem witness {C : Checked} {os : Os} {f : FuncId} {fn : Func} {s : ChangeSpec} {conds : List PathCond} {apart : Bool} {k : (H : Type) → List (DataW H) → Bool} (modest : Bool) (i : Input) (fuel : Nat)
    (hv : (World.plainHolding C.prog os i).variablesB C.prog = true)
    (hr : ((World.plainHolding C.prog os i).heap.toList.drop C.prog.globals.size).take ((begin C.prog (fun _ _ => 0) default).world.heap.size - C.prog.globals.size) =
      (begin C.prog (fun _ _ => 0) default).world.heap.toList.drop C.prog.globals.size)
    (hok : Input.okWideB C.prog (World.plainHolding C.prog os i) f ⟨#[], i.args, []⟩ = true)
    (hpre : s.preB enc C.prog fn conds apart (World.plainHolding C.prog os i).memory i.args fuel = true)
    (hk : smallB enc C.prog fn s apart k (World.plainHolding C.prog os i).memory i.args fuel = true)
    (hsz : s.sizedB enc C.prog fn apart (World.plainHolding C.prog os i).memory i.args fuel = true := by kernel_rfl) :
    ∃ (w : World) (tape : Tape) (i : Input), w.os = os ∧ (w.forCall tape i).Shaped C.prog ∧ i.vars = [] ∧ Input.okWide C.prog (w.forCall tape i) .any w.heap.size f i ∧
      ((s.pre enc C.prog fn conds apart (w.forCall tape i).memory i.args ∧ X enc C.prog fn s apart k (w.forCall tape i).memory i.args) ∧ sizedMet enc C.prog fn (OpenSpec.ofChange s) apart (w.forCall tape i).memory i.args) ∧ ({ modest := modest } : Assume).holds C.prog (lone (Frame.enter C.prog f i.args .normal) [] (w.forCall tape i)) :=
  ⟨World.holding C.prog os i, fun _ _ => 0, ⟨#[], i.args, []⟩, rfl, World.shaped_of_B hv hr, (Input.okWide_of_okWideB (base := 0) hok).1, (Input.okWide_of_okWideB hok).2, ⟨⟨ChangeSpec.pre_of_preB hpre, X_of hk⟩, sizedMet_of_sizedB hsz⟩, by
    simp only [Assume.holds]
    exact ⟨by simp, by simp, fun _ => Modest.zero, by simp, by simp⟩⟩
end
theorem holds {p : Pinned} {s : ChangeSpec} {c : OpenClaim} {k : (H : Type) → List (DataW H) → Bool} (f : FuncId) (fn : Func)
    (hn : c.program = p.name) (hs : c.sum = p.sum) (hsp : c.spec = s.name)
    (hstart : c.start = .entering) (hout : c.outside = []) (hin : c.inits = []) (hun : c.under = none) (hi4 : c.initsInPlace = [] ∧ c.initsUnfollowed = false ∧ c.initsRecurse = false ∧ c.initsNamed = [] ∧ c.initsPassed = []) (hnb : c.noBlocks = false) (hlv : c.leaving = false) (hfo : c.followed = none) (hnar : c.narrowed = true) (hstill : c.still = false) (hlaid : c.laid = [])
    (hfn : p.checked.prog.funcNamed c.func = some f) (hf : p.checked.prog.funcs[f]? = some fn)
    (closed : joinedFacts p.checked.prog f fn s c = true)
    (hinst : fn.isInstance p.checked.prog c.origin c.targs) (hwrap : fn.isWrapper p.checked.prog c.wrapper c.mainSum)
    (h : ∀ os : Os, os.Started → ∀ (H : Type) (enc : TypeId × Value → H), (∀ a b, enc a = enc b → a = b) →
      ReturnsInHanded c.assume p.checked os f .any (fun w args => (s.pre enc p.checked.prog fn c.domain c.apart w args ∧ X enc p.checked.prog fn s c.apart k w args) ∧ sizedMet enc p.checked.prog fn (OpenSpec.ofChange s) c.apart w args) (s.post enc p.checked.prog fn c.apart c.fresh c.handsOn c.again)) :
    c.holds p { OpenSpec.ofChange s with cond := some k } := by
  simp only [joinedFacts, Bool.and_eq_true, beq_iff_eq, Array.all_eq_true_iff_forall_mem, List.all_eq_true, decide_eq_true_eq] at closed
  obtain ⟨⟨⟨⟨⟨⟨⟨⟨⟨⟨⟨⟨⟨⟨⟨⟨⟨⟨⟨⟨⟨⟨⟨⟨⟨⟨⟨⟨⟨⟨⟨k1, k2⟩, k3⟩, k4⟩, k5⟩, k6⟩, k7⟩, k8⟩, k9⟩, k10⟩, k11⟩, k12⟩, k13⟩, k14⟩, k15⟩, k16⟩, k17⟩, k17b⟩, k18⟩, k19⟩, k20⟩, k21⟩, k22⟩, k23⟩, k23b⟩, k24⟩, k24b⟩, k24c⟩, k25⟩, k26⟩, k27⟩, k28⟩ := closed
  have hq : ∀ os : Os, Stop.quiet p.checked.prog os := fun os k hk => by rw [k9] at hk; cases hk
  refine ⟨k1, hn, hs, hsp, k2, k3, by unfold OpenClaim.startFits; rw [hstart]; exact k24, by unfold OpenClaim.startTold; rw [hstart]; exact ⟨hin, hun, hi4⟩, f, fn, hfn, hf, ⟨k4, k19⟩, (fun hb => by rw [hnb] at hb; cases hb), by unfold OpenClaim.namedList; rw [hfo]; exact k5, hinst, hwrap,
    k6.trans k7.symm, ⟨k8.trans k9.symm, by unfold Program.envWorded; rw [k9]; rfl, k23b⟩, k10, k11, k12, k13, k14, ⟨k15, k27, k28⟩, ⟨k16, k20⟩, ⟨k17, k21, k25, k26⟩, ⟨k22, k24b, k24c, k17b⟩, (by rw [hout, hnar]; rfl), fun n hn' => varReadable_some (k18 n hn'),
    ⟨_, by unfold OpenClaim.world; rw [hout, hstart]; exact WideRow.started_initial, hq _⟩, [], by unfold OpenClaim.lists; rw [hfo], fun os st _ H enc inj => ?_⟩
  have st' : os.Started := by unfold OpenClaim.world at st; rw [hout, hstart] at st; exact st
  rw [OpenClaim.post_not_still hstill]
  unfold OpenClaim.form
  rw [hstart, k6]
  intro F
  have e1 : c.okInput = Input.okWide := by unfold OpenClaim.okInput; rw [hnb]
  have e2 : c.atReturn p.checked.prog = aloneAtReturn p.checked.prog := by unfold OpenClaim.atReturn; rw [hlv]
  have e3 : c.always p.checked.prog [] = nothingAlways := by unfold OpenClaim.always; rw [hfo]
  have e4 : ({ OpenSpec.ofChange s with cond := some k } : OpenSpec).post enc p.checked.prog fn F c.outside c.apart c.fresh c.handsOn c.again = s.post enc p.checked.prog fn c.apart c.fresh c.handsOn c.again := by rw [hout]; rfl
  have e5 : c.pre enc p.checked.prog fn { OpenSpec.ofChange s with cond := some k } = (fun w args => (s.pre enc p.checked.prog fn c.domain c.apart w args ∧ X enc p.checked.prog fn s c.apart k w args) ∧ sizedMet enc p.checked.prog fn (OpenSpec.ofChange s) c.apart w args) := by
    funext w args
    unfold OpenClaim.pre OpenClaim.preLaid
    rw [hlaid]
    refine propext ⟨fun ⟨⟨ds, gs, before, h1, h2, h3⟩, h4⟩ => ⟨⟨⟨ds, gs, before, h1, h2⟩, ⟨ds, gs, before, h1, h3⟩⟩, h4⟩, fun ⟨⟨⟨ds, gs, before, h1, h2⟩, ⟨ds', gs', before', h1', h3⟩⟩, h4⟩ => ?_⟩
    obtain ⟨rfl, rfl, _⟩ := h1.unique h1'
    exact ⟨⟨ds, gs, before, h1, h2, h3⟩, h4⟩
  rw [e1, e2, e3]
  show ReturnsInOpen _ _ _ _ _ _ _ _ (({ OpenSpec.ofChange s with cond := some k } : OpenSpec).post enc p.checked.prog fn F c.outside c.apart c.fresh c.handsOn c.again) _ _
  rw [e4, e5]
  exact h os st' H enc inj k24
end Upt

/-- The cells cs read as plain data of type t, of bulk at most m. -/
def RdM (P : Program) (w : World) : Nat → TypeId → List Value → Nat → Prop
  | 0, _, _, _ => False
  | f + 1, t, cs, m => match P.underlying t with
    | some .bool => (∃ b, cs = [.bool b]) ∧ 1 ≤ m
    | some (.int k) => (∃ n, cs = [.int k n] ∧ (Lit.int k n).wf = true) ∧ 1 ≤ m
    | some .string => ∃ l : List UInt8, cs = [.string (str l)] ∧ l.length ≤ 140737488351232 ∧ l.length + 1 ≤ m
    | some (.slice e) => ∃ a n c, cs = [.slice a n c] ∧ n ≤ c ∧ (a = none → c = 0) ∧ c * P.bytesOf e ≤ 140737488351232 ∧
        ∃ (vss : List (List Value)) (ms : List Nat), vss.length = n ∧ ms.length = n ∧ Cells w a vss.flatten ∧ (∀ (i : Nat) (vs : List Value), vss[i]? = some vs → vs.length = P.cellsOf e ∧ ∃ k : Nat, ms[i]? = some k ∧ RdM P w f e vs k) ∧ ms.sum + 1 ≤ m
    | some (.struct fs) => cs.length = P.cellsOf t ∧ ∃ ms : List Nat, ms.length = fs.size ∧ (∀ (i : Nat) (f' : Field), fs[i]? = some f' → ∃ k, ms[i]? = some k ∧ RdM P w f f'.type ((cs.drop f'.offset).take (P.cellsOf f'.type)) k) ∧ ms.sum ≤ m
    | some (.array l e) => cs.length = P.cellsOf t ∧ ∀ i, i < l → ∃ k, RdM P w f e ((cs.drop (i * P.cellsOf e)).take (P.cellsOf e)) k
    | _ => True
theorem RdM.rd {P : Program} {w : World} : ∀ {f : Nat} {t : TypeId} {cs : List Value} {m : Nat}, RdM P w f t cs m → Rd P w f t cs
  | 0, _, _, _, h => h.elim
  | f + 1, t, cs, m, h => by
    unfold RdM at h
    unfold Rd
    cases hu : P.underlying t with
    | none => trivial
    | some dsc =>
      rw [hu] at h
      cases dsc with
      | bool => exact h.1
      | int k => exact h.1
      | string => obtain ⟨l, h1, h2, _⟩ := h; exact ⟨l, h1, h2⟩
      | slice e =>
        obtain ⟨a, n, c, rfl, h1, h2, h3, vss, ms, h4, _, h6, h7, _⟩ := h
        refine ⟨a, n, c, rfl, h1, h2, h3, vss, h4, h6, fun vs hvs => ?_⟩
        obtain ⟨i, hi⟩ := List.getElem?_of_mem hvs
        obtain ⟨q1, k, _, q2⟩ := h7 i vs hi
        exact ⟨q1, q2.rd⟩
      | struct fs =>
        obtain ⟨h1, ms, _, h2, _⟩ := h
        exact ⟨h1, fun i f' hf' => let ⟨k, _, q⟩ := h2 i f' hf'; q.rd⟩
      | array l e => exact ⟨h.1, fun i hi => let ⟨k, q⟩ := h.2 i hi; q.rd⟩
      | _ => trivial
theorem bulkAll_sum {H : Type} : ∀ (l : List (DataW H)), Rows.uptoBulkAll l = (l.map Rows.uptoBulk).sum
  | [] => rfl
  | d :: r => by simp only [Rows.uptoBulkAll, List.map_cons, List.sum_cons]; rw [bulkAll_sum r]
theorem rdM_of_trod {H : Type} {enc : TypeId × Value → H} {P : Program} {w : World} {base : Nat} {sp : Nat → Bool} (hsp : ∀ b, sp b = true) : ∀ (fuel : Nat) (t : TypeId) (cs : List Value) (x : DataW H × List MemPlace), DataW.trod enc P w base sp true fuel t cs = some x →
    (∀ n ∈ x.1.weights P t, n ≤ 140737488351232) → ∀ m, Rows.uptoBulk x.1 ≤ m → RdM P w fuel t cs m
  | 0, t, cs, x, h, _ => by simp [DataW.trod] at h
  | fuel + 1, t, cs, x, h, hw => by
    intro m hm
    unfold RdM
    cases hu : P.underlying t with
    | none => trivial
    | some dsc =>
      cases dsc with
      | bool => obtain ⟨b, rfl, rfl⟩ := DataW.trod_bool hu h; exact ⟨⟨b, rfl⟩, by simpa [Rows.uptoBulk] using hm⟩
      | int k => obtain ⟨n, rfl, rfl, hwf⟩ := DataW.trod_int hu h; exact ⟨⟨n, rfl, hwf⟩, by simpa [Rows.uptoBulk] using hm⟩
      | string =>
        obtain ⟨s, rfl, rfl, _⟩ := DataW.trod_string hu h
        refine ⟨s.data.toList, by rw [str_toList], ?_, by simpa [Rows.uptoBulk] using hm⟩
        exact hw _ (by simp [DataW.weights])
      | slice e =>
        rcases DataW.trod_slice hu h with ⟨rfl, rfl⟩ | ⟨a, len, cap, elems, rest, n, hf, rfl, rfl, _, hlc, _, hel, hcell, hsr, _⟩
        · exact ⟨none, 0, 0, rfl, Nat.le_refl _, fun _ => rfl, by simp, [], [], rfl, rfl, Cells.nil _ _, by simp, by simpa [Rows.uptoBulk] using hm⟩
        · cases hf
          have hrest := (hsr (hsp _)).1
          have hget : ∀ i, i < len → ∃ vs y, w.cells? base (a.add (i * P.cellsOf e)) (P.cellsOf e) = some vs ∧ DataW.trod enc P w base sp true fuel e vs = some y ∧ elems[i]? = some y := by
            intro i hi
            have := hcell i hi
            rw [List.getElem?_eq_getElem (by omega)] at this
            obtain ⟨vs, h1, h2⟩ := Option.bind_eq_some_iff.1 this
            exact ⟨vs, _, h1, h2, List.getElem?_eq_getElem (by omega)⟩
          refine ⟨some a, len, cap, rfl, hlc, (fun h => by cases h), ?_, ?_⟩
          · have := hw ((elems.length + rest.length) * P.bytesOf e) (by simp [DataW.weights, hu])
            rw [hel, hrest, show len + (cap - len) = cap by omega] at this
            exact this
          · let vss : List (List Value) := (List.range len).map fun i => (w.cells? base (a.add (i * P.cellsOf e)) (P.cellsOf e)).getD []
            have hvget : ∀ i vs, vss[i]? = some vs → i < len ∧ w.cells? base (a.add (i * P.cellsOf e)) (P.cellsOf e) = some vs := by
              intro i vs hi
              have hlt : i < len := by have := (List.getElem?_eq_some_iff.1 hi).1; simpa [vss] using this
              obtain ⟨vs', _, h1, _⟩ := hget i hlt
              simp [vss, hlt, h1] at hi
              subst hi
              exact ⟨hlt, h1⟩
            refine ⟨vss, elems.map (fun y => Rows.uptoBulk y.1), by simp [vss], by simpa using hel, ?_, ?_, ?_⟩
            · intro j v hj
              refine ⟨a, rfl, ?_⟩
              have := flatten_cells (w := w) (p := a) (size := P.cellsOf e) vss 0 (fun i vs hi => by
                obtain ⟨_, h1⟩ := hvget i vs hi
                obtain ⟨hl, hc⟩ := cells?_get h1
                refine ⟨hl, fun j v hj => ?_⟩
                rw [Nat.zero_add]; exact hc j v hj) j v hj
              simpa using this
            · intro i vs hi
              obtain ⟨hlt, h1⟩ := hvget i vs hi
              obtain ⟨vs', y, h1', h2, h3⟩ := hget i hlt
              rw [h1] at h1'; cases h1'
              refine ⟨(cells?_get h1).1, Rows.uptoBulk y.1, by rw [List.getElem?_map, h3]; rfl, rdM_of_trod hsp fuel e vs y h2 (fun m hm => ?_) _ (Nat.le_refl _)⟩
              refine hw m ?_
              simp only [DataW.weights, hu, List.mem_cons, List.mem_append]
              refine .inr (.inl (mem_weightsAll (List.mem_map.2 ⟨y, List.mem_of_getElem? h3, rfl⟩) hm))
            · simp only [Rows.uptoBulk, bulkAll_sum, List.map_map] at hm
              have : (elems.map (Rows.uptoBulk ∘ fun x => x.1)).sum = (elems.map fun y => Rows.uptoBulk y.1).sum := rfl
              omega
      | struct fs =>
        obtain ⟨xs, n, hf, rfl, hl, hxl, hget⟩ := DataW.trod_struct hu h
        cases hf
        refine ⟨hl, xs.map (fun y => Rows.uptoBulk y.1), by simpa using hxl, fun i f' hf' => ?_, ?_⟩
        · have := hget i f' hf'
          have hlt : i < xs.length := by have := (Array.getElem?_eq_some_iff.1 hf').1; omega
          rw [List.getElem?_eq_getElem hlt] at this
          refine ⟨Rows.uptoBulk xs[i].1, by simp [List.getElem?_eq_getElem hlt], rdM_of_trod hsp fuel f'.type _ _ this (fun m hm => ?_) _ (Nat.le_refl _)⟩
          refine hw m ?_
          simp only [DataW.weights, hu]
          exact DataW.weights_mem_each (j := i) (by simp [hf']) (by simp [List.getElem?_eq_getElem hlt]) m hm
        · simp only [Rows.uptoBulk, bulkAll_sum, List.map_map] at hm
          have : (xs.map (Rows.uptoBulk ∘ fun x => x.1)).sum = (xs.map fun y => Rows.uptoBulk y.1).sum := rfl
          omega
      | array l e =>
        obtain ⟨xs, n, hf, rfl, hl, hxl, hget⟩ := DataW.trod_array hu h
        cases hf
        refine ⟨hl, fun i hi => ?_⟩
        have := hget i hi
        rw [List.getElem?_eq_getElem (by omega)] at this
        refine ⟨_, rdM_of_trod hsp fuel e _ _ this (fun q hm => ?_) _ (Nat.le_refl _)⟩
        refine hw q ?_
        simp only [DataW.weights, hu]
        exact mem_weightsAll (List.mem_map.2 ⟨_, List.getElem_mem (by omega), rfl⟩) hm
      | _ => trivial
theorem RdM.of {H : Type} {enc : TypeId × Value → H} {P : Program} {w : World} {t : TypeId} {v : Value} {d : DataW H} {ps : List MemPlace} {ts : List TypeId} {ds : List (DataW H)} {j : Nat}
    (h : DataW.Trod enc P w 0 (fun _ => true) true t v d ps) (hsz : (DataW.weightsEach P ts ds).all (· ≤ reachBytes) = true) (ht : ts[j]? = some t) (hd : ds[j]? = some d) : ∃ f, RdM P w f t v.cells.toList (Rows.uptoBulk d) := by
  obtain ⟨fuel, hf⟩ := h
  refine ⟨fuel, rdM_of_trod (fun _ => rfl) fuel t _ _ hf (fun n hn => ?_) _ (Nat.le_refl _)⟩
  have := List.all_eq_true.1 hsz n (DataW.weights_mem_each ht hd n hn)
  exact of_decide_eq_true this
theorem sum_ge : ∀ (ms : List Nat), (∀ k ∈ ms, 1 ≤ k) → ms.length ≤ ms.sum
  | [], _ => Nat.zero_le _
  | k :: ms, h => by
    have := h k (by simp)
    have := sum_ge ms (fun x hx => h x (by simp [hx]))
    simp only [List.length_cons, List.sum_cons]; omega
/-- A slice of bytes, and its bulk. -/
theorem RdM.bytes {P : Program} {w : World} {f : Nat} {T E : TypeId} [t : TyBytes P T E] (hc : P.cellsOf E = 1) (hby : P.bytesOf E = 1) {cs : List Value} {m : Nat} (h : RdM P w f T cs m) :
    ∃ a n c l, cs = [.slice a n c] ∧ n ≤ c ∧ (a = none → c = 0) ∧ c ≤ 140737488351232 ∧ Bs w a n l ∧ l.length + 1 ≤ m := by
  obtain ⟨a, n, c, l, rfl, h1, h2, h3, h4⟩ := h.rd.bytes hc hby
  refine ⟨a, n, c, l, rfl, h1, h2, h3, h4, ?_⟩
  cases f with
  | zero => exact h.elim
  | succ f =>
    unfold RdM at h
    rw [t.h] at h
    obtain ⟨a', n', c', he, _, _, _, vss, ms, hl, hml, hcell, hv, hm⟩ := h
    cases he
    have := sum_ge ms (fun k hk => by
      obtain ⟨i, hi⟩ := List.getElem?_of_mem hk
      have hil : i < vss.length := by have := (List.getElem?_eq_some_iff.1 hi).1; omega
      obtain ⟨_, k', hk', hr⟩ := hv i _ (List.getElem?_eq_getElem hil)
      rw [hi] at hk'; cases hk'
      cases f with
      | zero => exact hr.elim
      | succ f => unfold RdM at hr; rw [t.e] at hr; exact hr.2)
    rw [← h4.len]; omega
theorem RdM.int {P : Program} {w : World} {f : Nat} {T : TypeId} {k : IntKind} [t : TyInt P T k] {cs : List Value} {m : Nat} (h : RdM P w f T cs m) : ∃ n, cs = [.int k n] ∧ (Lit.int k n).wf = true ∧ 1 ≤ m := by
  cases f with
  | zero => exact h.elim
  | succ f => unfold RdM at h; rw [t.h] at h; obtain ⟨⟨n, h1, h2⟩, h3⟩ := h; exact ⟨n, h1, h2, h3⟩
/-- The rows of a slice, each of which reads as data of a kind. -/
theorem RdM.rows {P : Program} {w : World} {f : Nat} {T E size : TypeId} {α : Type} {cells : α → List Value} {ok : α → Prop} {bulk : α → Nat} (hT : P.underlying T = some (.slice E)) (hs : P.cellsOf E = size)
    (hof : ∀ f cs m, RdM P w f E cs m → ∃ o, cs = cells o ∧ ok o ∧ bulk o ≤ m) {cs : List Value} {m : Nat} (h : RdM P w f T cs m) :
    ∃ a n c, ∃ os : List α, cs = [.slice a n c] ∧ n ≤ c ∧ c * P.bytesOf E ≤ 140737488351232 ∧ Tab w a n size (os.map cells) ∧ (∀ o ∈ os, ok o) ∧ (os.map bulk).sum + 1 ≤ m := by
  cases f with
  | zero => exact h.elim
  | succ f =>
    unfold RdM at h
    rw [hT] at h
    obtain ⟨a, n, c, rfl, h1, _, h3, vss, ms, hl, hml, hcell, hv, hm⟩ := h
    have hex : ∀ (vss : List (List Value)) (ms : List Nat), vss.length = ms.length → (∀ (i : Nat) (vs : List Value), vss[i]? = some vs → vs.length = P.cellsOf E ∧ ∃ k : Nat, ms[i]? = some k ∧ RdM P w f E vs k) → ∃ os : List α, vss = os.map cells ∧ (∀ o ∈ os, ok o) ∧ (os.map bulk).sum ≤ ms.sum := by
      intro vss
      induction vss with
      | nil => exact fun ms _ _ => ⟨[], rfl, by simp, by simp⟩
      | cons vs r ih =>
        intro ms hl hv
        cases ms with
        | nil => simp at hl
        | cons k ms =>
          obtain ⟨_, k', hk', hr⟩ := hv 0 vs rfl
          simp only [List.getElem?_cons_zero, Option.some.injEq] at hk'
          subst hk'
          obtain ⟨o, rfl, ho, hb⟩ := hof f vs k hr
          obtain ⟨os, rfl, hos, hbs⟩ := ih ms (by simpa using hl) (fun i vs hi => hv (i + 1) vs hi)
          refine ⟨o :: os, rfl, fun x hx => (List.mem_cons.1 hx).elim (fun e => e ▸ ho) (hos x), ?_⟩
          simp only [List.map_cons, List.sum_cons]; omega
    obtain ⟨os, rfl, hos, hbs⟩ := hex vss ms (by omega) hv
    refine ⟨a, n, c, os, rfl, h1, h3, ⟨hcell, hl.symm, fun vs hvs => ?_⟩, hos, by omega⟩
    obtain ⟨i, hi⟩ := List.getElem?_of_mem hvs
    rw [← hs]; exact (hv i vs hi).1
end Go.Proofs.Ytiiiplhfgblamaa
/-
  Writes and records among the arguments, and their bulk.
-/
set_option linter.unusedVariables false
namespace Go.Proofs.Ytiiiplhfgblamaa
open Go Brv
def WriteV.bulk (o : WriteV) : Nat := 1 + (o.B'.length + 1)
set_option maxRecDepth 100000 in
theorem writeV_ofM {w : World} (f : Nat) (cs : List Value) (m : Nat) (h : RdM Try.prog w f 40 cs m) : ∃ o : WriteV, cs = o.cells ∧ o.ok w ∧ o.bulk ≤ m := by
  cases f with
  | zero => exact h.elim
  | succ f =>
    unfold RdM at h
    rw [Try.underlying40] at h
    obtain ⟨hl, ms, hml, hf, hsum⟩ := h
    rw [show Try.prog.cellsOf 40 = 2 from by kernel_rfl] at hl
    obtain ⟨v0, v1, rfl⟩ : ∃ v0 v1, cs = [v0, v1] := by
      match cs, hl with
      | [v0, v1], _ => exact ⟨v0, v1, rfl⟩
    obtain ⟨k0, k1, rfl⟩ : ∃ k0 k1, ms = [k0, k1] := by
      match ms, hml with
      | [k0, k1], _ => exact ⟨k0, k1, rfl⟩
    obtain ⟨k, hk0, r0⟩ := hf 0 _ rfl
    cases hk0
    replace r0 : RdM Try.prog w f 3 (List.take (Try.prog.cellsOf 3) (List.drop 0 [v0, v1])) k0 := r0
    rw [show Try.prog.cellsOf 3 = 1 from by kernel_rfl] at r0
    replace r0 : RdM Try.prog w f 3 [v0] k0 := r0
    obtain ⟨k, hk1, r1⟩ := hf 1 _ rfl
    cases hk1
    replace r1 : RdM Try.prog w f 25 (List.take (Try.prog.cellsOf 25) (List.drop 1 [v0, v1])) k1 := r1
    rw [show Try.prog.cellsOf 25 = 1 from by kernel_rfl] at r1
    replace r1 : RdM Try.prog w f 25 [v1] k1 := r1
    obtain ⟨x0, e0, w0, d0⟩ := r0.int
    cases e0
    obtain ⟨a1, n1, c1, l1, e1, z1, _, y1, b1, d1⟩ := r1.bytes (by kernel_rfl) (by kernel_rfl)
    cases e1
    simp only [List.sum_cons, List.sum_nil] at hsum
    exact ⟨⟨x0, a1, n1, c1, l1⟩, rfl, ⟨w0, ⟨z1, y1, b1⟩⟩, by show 1 + (l1.length + 1) ≤ m; omega⟩
set_option maxRecDepth 100000 in
theorem writeV_rowsM22 {w : World} {f : Nat} {cs : List Value} {m : Nat} (h : RdM Try.prog w f 22 cs m) : ∃ a n c, ∃ os : List WriteV, cs = [.slice a n c] ∧ n ≤ c ∧ c * 32 ≤ 140737488351232 ∧ Tab w a n 2 (os.map WriteV.cells) ∧ (∀ o ∈ os, o.ok w) ∧ (os.map WriteV.bulk).sum + 1 ≤ m := by
  have := RdM.rows (α := WriteV) (cells := WriteV.cells) (ok := fun o => o.ok w) (bulk := WriteV.bulk) (size := 2) Try.underlying22 (by kernel_rfl) (fun f cs m h => writeV_ofM f cs m h) h
  rw [show Try.prog.bytesOf 40 = 32 from by kernel_rfl] at this
  exact this

def RecordV.bulk (o : RecordV) : Nat := 1 + 1 + 1 + ((o.Writes'.map WriteV.bulk).sum + 1)
set_option maxRecDepth 100000 in
theorem recordV_ofM {w : World} (f : Nat) (cs : List Value) (m : Nat) (h : RdM Try.prog w f 24 cs m) : ∃ o : RecordV, cs = o.cells ∧ o.ok w ∧ o.bulk ≤ m := by
  cases f with
  | zero => exact h.elim
  | succ f =>
    unfold RdM at h
    rw [Try.underlying24] at h
    obtain ⟨hl, ms, hml, hf, hsum⟩ := h
    rw [show Try.prog.cellsOf 24 = 4 from by kernel_rfl] at hl
    obtain ⟨v0, v1, v2, v3, rfl⟩ : ∃ v0 v1 v2 v3, cs = [v0, v1, v2, v3] := by
      match cs, hl with
      | [v0, v1, v2, v3], _ => exact ⟨v0, v1, v2, v3, rfl⟩
    obtain ⟨k0, k1, k2, k3, rfl⟩ : ∃ k0 k1 k2 k3, ms = [k0, k1, k2, k3] := by
      match ms, hml with
      | [k0, k1, k2, k3], _ => exact ⟨k0, k1, k2, k3, rfl⟩
    obtain ⟨k, hk0, r0⟩ := hf 0 _ rfl
    cases hk0
    replace r0 : RdM Try.prog w f 3 (List.take (Try.prog.cellsOf 3) (List.drop 0 [v0, v1, v2, v3])) k0 := r0
    rw [show Try.prog.cellsOf 3 = 1 from by kernel_rfl] at r0
    replace r0 : RdM Try.prog w f 3 [v0] k0 := r0
    obtain ⟨k, hk1, r1⟩ := hf 1 _ rfl
    cases hk1
    replace r1 : RdM Try.prog w f 3 (List.take (Try.prog.cellsOf 3) (List.drop 1 [v0, v1, v2, v3])) k1 := r1
    rw [show Try.prog.cellsOf 3 = 1 from by kernel_rfl] at r1
    replace r1 : RdM Try.prog w f 3 [v1] k1 := r1
    obtain ⟨k, hk2, r2⟩ := hf 2 _ rfl
    cases hk2
    replace r2 : RdM Try.prog w f 3 (List.take (Try.prog.cellsOf 3) (List.drop 2 [v0, v1, v2, v3])) k2 := r2
    rw [show Try.prog.cellsOf 3 = 1 from by kernel_rfl] at r2
    replace r2 : RdM Try.prog w f 3 [v2] k2 := r2
    obtain ⟨k, hk3, r3⟩ := hf 3 _ rfl
    cases hk3
    replace r3 : RdM Try.prog w f 22 (List.take (Try.prog.cellsOf 22) (List.drop 3 [v0, v1, v2, v3])) k3 := r3
    rw [show Try.prog.cellsOf 22 = 1 from by kernel_rfl] at r3
    replace r3 : RdM Try.prog w f 22 [v3] k3 := r3
    obtain ⟨x0, e0, w0, d0⟩ := r0.int
    cases e0
    obtain ⟨x1, e1, w1, d1⟩ := r1.int
    cases e1
    obtain ⟨x2, e2, w2, d2⟩ := r2.int
    cases e2
    obtain ⟨a3, n3, c3, l3, e3, z3, y3, b3, q3, d3⟩ := writeV_rowsM22 r3
    cases e3
    simp only [List.sum_cons, List.sum_nil] at hsum
    exact ⟨⟨x0, x1, x2, a3, n3, c3, l3⟩, rfl, ⟨w0, w1, w2, ⟨z3, y3, b3, q3⟩⟩, by show 1 + 1 + 1 + ((l3.map WriteV.bulk).sum + 1) ≤ m; omega⟩

def RowW.bulk (r : RowW) : Nat := (r.os.map WriteV.bulk).sum + 1
set_option maxRecDepth 100000 in
theorem rowW_ofM {w : World} (f : Nat) (cs : List Value) (m : Nat) (h : RdM Try.prog w f 22 cs m) : ∃ r : RowW, cs = [r.val] ∧ r.ok w ∧ r.bulk ≤ m := by
  obtain ⟨a, n, c, os, rfl, h1, h2, h3, h4, h5⟩ := writeV_rowsM22 h
  exact ⟨⟨a, n, c, os⟩, rfl, ⟨⟨h1, by show n ≤ _; omega⟩, h3, fun o ho => (h4 o ho).W⟩, h5⟩
set_option maxRecDepth 100000 in
theorem rowsW_ofM {w : World} {f : Nat} {cs : List Value} {m : Nat} (h : RdM Try.prog w f 38 cs m) : ∃ a n c, ∃ rs : List RowW, cs = [.slice a n c] ∧ n = rs.length ∧ Cells w a (rs.map RowW.val) ∧ (∀ r ∈ rs, r.ok w) ∧ (rs.map RowW.bulk).sum + 1 ≤ m := by
  obtain ⟨a, n, c, rs, rfl, h1, h2, h3, h4, h5⟩ := RdM.rows (α := RowW) (cells := fun r => [r.val]) (ok := fun r => r.ok w) (bulk := RowW.bulk) (size := 1) Try.underlying38 (by kernel_rfl) (fun f cs m h => rowW_ofM f cs m h) h
  refine ⟨a, n, c, rs, rfl, by have := h3.len; simpa using this, ?_, h4, h5⟩
  have hc := h3.cells
  have e : (rs.map fun r => [RowW.val r]).flatten = rs.map RowW.val := by clear hc h3 h4 h5; induction rs with
    | nil => rfl
    | cons r rs ih => simp [ih]
  rw [e] at hc; exact hc
end Go.Proofs.Ytiiiplhfgblamaa
/-
  The walks of package record.
-/
set_option linter.unusedVariables false
set_option linter.unusedSimpArgs false
set_option maxRecDepth 4000
namespace Go.Proofs.Ytiiiplhfgblamaa
open Go Brv Brv.Pack Brv.Frame
def wtW (k : Nat) (o : WriteV) : Nat := k + o.B'.length
def sumT (k : Nat) (os : List WriteV) : Nat := (os.map (wtW k)).sum
theorem sumT_append (k : Nat) (a b : List WriteV) : sumT k (a ++ b) = sumT k a + sumT k b := by simp [sumT]
theorem sumT_len (k : Nat) (os : List WriteV) : k * os.length ≤ sumT k os := by
  induction os with
  | nil => simp [sumT]
  | cons o os ih => simp only [sumT, List.map_cons, List.sum_cons, List.length_cons, wtW, Nat.mul_add] at ih ⊢; omega
theorem sumT_succ {k : Nat} {os : List WriteV} {j : Nat} {z : WriteV} (h : os[j]? = some z) : sumT k (os.take (j + 1)) = sumT k (os.take j) + (k + z.B'.length) := by
  rw [List.take_add_one, h]
  simp [sumT, wtW]
theorem sumT_take (k : Nat) (os : List WriteV) (j : Nat) : sumT k (os.take j) ≤ sumT k os := by
  conv => rhs; rw [← List.take_append_drop j os]
  rw [sumT_append]; omega
theorem sumT_all {k : Nat} {rs : List RowW} {i : Nat} {r : RowW} (h : rs[i]? = some r) : sumT k (allW (rs.take (i + 1))) = sumT k (allW (rs.take i)) + sumT k r.os := by rw [allW_succ h, sumT_append]
theorem sumT_all_le (k : Nat) (rs : List RowW) (i : Nat) : sumT k (allW (rs.take i)) ≤ sumT k (allW rs) := by
  conv => rhs; rw [← List.take_append_drop i rs]
  unfold allW
  rw [List.map_append, List.flatten_append, sumT_append]; omega
theorem _root_.Brv.St.rows {H H' : List Asn} {la : Option Addr} {rs : List RowW} {F S : List Nat} {w : World} (s : St H F S w) (h : Sel H (sh (fun w => Cells w la (rs.map RowW.val) ∧ ∀ r ∈ rs, r.ok w)) H') : Cells w la (rs.map RowW.val) ∧ ∀ r ∈ rs, r.ok w := s.sh h
theorem row_pt {r : RowW} {w : World} {j : Nat} {z : WriteV} (h : r.ok w) (hz : r.os[j]? = some z) : ∃ p, r.a = some p := by
  obtain ⟨p, hp, _⟩ := h.2.1.at (by decide) j (by rw [List.length_map]; exact (List.getElem?_eq_some_iff.1 hz).1)
  exact ⟨p, hp⟩
theorem row_cells {r : RowW} {w : World} {j : Nat} {z : WriteV} {p : Addr} (h : r.ok w) (hp : r.a = some p) (hz : r.os[j]? = some z) : Cells w (some (p.add ((j : Int).toNat * 2))) (WriteV.cells z) := by
  obtain ⟨hj, rfl⟩ := List.getElem?_eq_some_iff.1 hz
  obtain ⟨q, hq, hc⟩ := h.2.1.at (by decide) j (by rw [List.length_map]; exact hj)
  rw [hp] at hq; cases hq
  rw [Int.toNat_natCast]
  simpa using hc
theorem row_len {r : RowW} {w : World} (h : r.ok w) : r.os.length = r.n := by have := h.2.1.len; rw [List.length_map] at this; exact this.symm
theorem row_bn {r : RowW} {w : World} {j : Nat} {z : WriteV} (h : r.ok w) (hz : r.os[j]? = some z) : z.B'n = z.B'.length ∧ z.B'n ≤ 140737488351232 := ⟨(h.2.2 z (List.mem_of_getElem? hz)).2.2.len, (h.2.2 z (List.mem_of_getElem? hz)).2.1⟩
theorem row_z {r : RowW} {j : Nat} (h : j < r.os.length) : ∃ z, r.os[j]? = some z := ⟨_, List.getElem?_eq_getElem h⟩
theorem putK_len (ps : List (Pr Int)) (k : Int) (v : List Value) : (putK ps k v).length ≤ ps.length + 1 := by
  unfold putK
  split
  · rw [List.length_set]; omega
  · rw [List.length_append, List.length_cons, List.length_take, List.length_drop]; omega
theorem mergeP_len (ps : List (Pr Int)) (l : List Wr) : (mergeP ps l).length ≤ ps.length + l.length := by
  induction l generalizing ps with
  | nil => exact Nat.le_refl _
  | cons w l ih =>
    have h1 := ih (putK ps w.1 (vbs w.2))
    have h2 := putK_len ps w.1 (vbs w.2)
    show (mergeP (putK ps w.1 (vbs w.2)) l).length ≤ _
    simp only [List.length_cons]; omega
theorem merged_len {rm : RowW} {rs : List RowW} (h : (rm.os.map fun o => toQ (wv o)) = mergeP [] ((allW rs).map wv)) : rm.os.length ≤ (allW rs).length := by
  have := congrArg List.length h
  have h2 := mergeP_len [] ((allW rs).map wv)
  rw [List.length_map] at this h2
  simp only [List.length_nil] at h2; omega
theorem same_q {a b : List WriteV} {l : List (Pr Int)} (h1 : (a.map fun o => toQ (wv o)) = l) (h2 : (b.map fun o => toQ (wv o)) = l) : a.map wv = b.map wv := by
  refine toQ_inj ?_
  rw [List.map_map, List.map_map]
  exact h1.trans h2.symm

theorem great7_ok (kd tl nu : Int) (r : RowW) (w : World) (hr : r.ok w) (hs : sumT 8 r.os ≤ 1000000000000) : Meets Try.prog 13 [.agg #[.int .i64 kd, .int .i64 tl, .int .i64 nu, .slice r.a r.n r.c]] w (fun v w' => v = .bool (decide ((3000 : Int) < (sumT 8 r.os : Nat))) ∧ Ext [] w w') := by
  refine Meets.law Try.func13 rfl 22 rfl (Nat.le_of_ble_eq_true rfl) (law_cons (p := fun w => RowW.ok w r) (fun w9 he => hr.ext0 he) (law_nil w)) ?_
  have hln := row_len hr
  have hsl := sumT_len 8 r.os
  refine SG.seq ?_
  refine SG.region ?_
  refine SL.step rfl rfl (CS.boxA rfl) ?_
  rintro _ _ ⟨b1, rfl, rfl⟩
  refine SL.val rfl rfl (fun w9 F9 S9 s => R.as rfl) ?_
  refine SL.nil ?_
  refine SN.seq ?_
  refine SG.seq ?_
  refine SG.region ?_
  refine SL.val rfl rfl (fun w9 F9 S9 s => R.as rfl) ?_
  refine SL.nil ?_
  refine SN.seq ?_
  refine SG.seq ?_
  refine SG.seq ?_
  refine SG.region ?_
  refine SL.val rfl rfl (fun w9 F9 S9 s => R.fld rfl) ?_
  refine SL.val rfl rfl (fun w9 F9 S9 s => R.ldB (v := .slice r.a r.n r.c) rfl (s.cel (by repeat (first | exact SelB.blk | exact SelB.fz | apply SelB.there))) (by rfl)) ?_
  refine SL.val rfl rfl (fun w9 F9 S9 s => R.lenS rfl) ?_
  refine SL.val rfl rfl (fun w9 F9 S9 s => R.mv rfl) ?_
  refine SL.nil ?_
  refine SN.seq ?_
  refine SG.block ?_
  refine SG.loop (X := Nat) (fun i => [(3, .int .i64 (sumT 8 (r.os.take i) : Nat)), (7, .slice r.a r.n r.c), (8, .int .i64 (r.n : Int)), (9, .int .i64 (i : Int))]) (fun i => [sh (fun w => RowW.ok w r)]) (fun i => i ≤ r.n) (fun i => r.n - i) (0) (Sub.cons rfl (Sub.cons rfl (Sub.cons rfl (Sub.cons rfl (Sub.nil _))))) ((Imp.sels (by repeat (first | exact Sels.nil | apply Sels.cons | exact Sel.keep | exact Sel.here | apply Sel.there)))) (Nat.zero_le _) ?_
  intro i hi
  show SG _ _ _ _ _ [(3, .int .i64 (sumT 8 (r.os.take i) : Nat)), (7, .slice r.a r.n r.c), (8, .int .i64 (r.n : Int)), (9, .int .i64 (i : Int))] [sh (fun w => RowW.ok w r)] _
  refine SG.seq ?_
  refine SG.region ?_
  refine SL.val rfl rfl (fun w9 F9 S9 s => R.lss rfl rfl) ?_
  refine SL.nil ?_
  refine SN.seq ?_
  refine SG.seq ?_
  refine SG.condP rfl (fun h0 => ?_) (fun h0 => ?_)
  · obtain ⟨z, hz⟩ := row_z (r := r) (j := i) (by omega)
    refine SG.fact (fun w9 F9 S9 s => row_pt (s.row (by repeat (first | exact Sel.keep | exact Sel.here | apply Sel.there))) hz) (fun hf9 => ?_)
    obtain ⟨q, hq⟩ := hf9
    refine SG.fact (fun w9 F9 S9 s => row_bn (s.row (by repeat (first | exact Sel.keep | exact Sel.here | apply Sel.there))) hz) (fun hf9 => ?_)
    obtain ⟨hzn, hzl⟩ := hf9
    have hs1 := sumT_succ (k := 8) hz
    have hs2 := sumT_take 8 r.os (i + 1)
    refine SG.skip ?_
    refine SN.seq ?_
    refine SG.seq ?_
    refine SG.block ?_
    refine SG.seq ?_
    refine SG.region ?_
    refine SL.val rfl rfl (fun w9 F9 S9 s => R.idx rfl rfl (by omega) (by omega) q hq) ?_
    refine SL.val rfl rfl (fun w9 F9 S9 s => R.ldN (vs := WriteV.cells z) rfl (row_cells (s.row (by repeat (first | exact Sel.keep | exact Sel.here | apply Sel.there))) hq hz) rfl) ?_
    refine SL.step rfl rfl (CS.alloc [.int .i64 0, .slice none 0 0] rfl) ?_
    rintro _ _ ⟨b5, rfl, rfl⟩
    refine SL.step0 rfl (CS.stA (vs := WriteV.cells z) rfl rfl (by repeat (first | exact Sel.keep | exact Sel.here | apply Sel.there)) (by rfl) (by rfl) (by intro u hu; exact WriteV.cells.one _ u (by simpa using hu))) ?_
    rintro _ _ rfl
    refine SL.nil ?_
    refine SN.seq ?_
    refine SG.region ?_
    refine SL.val rfl rfl (fun w9 F9 S9 s => R.mv rfl) ?_
    refine SL.val rfl rfl (fun w9 F9 S9 s => R.fld rfl) ?_
    refine SL.val rfl rfl (fun w9 F9 S9 s => R.ldB (v := .slice z.B'a z.B'n z.B'c) rfl (s.cel (by repeat (first | exact SelB.blk | exact SelB.fz | apply SelB.there))) (by rfl)) ?_
    refine SL.val rfl rfl (fun w9 F9 S9 s => R.lenS rfl) ?_
    refine SL.val rfl rfl (fun w9 F9 S9 s => R.add rfl rfl (by omega)) ?_
    refine SL.val rfl rfl (fun w9 F9 S9 s => R.add rfl rfl (by omega)) ?_
    refine SL.val rfl rfl (fun w9 F9 S9 s => R.as rfl) ?_
    refine SL.nil ?_
    refine SN.be 3 rfl (congrArg (Value.int .i64) (show ((sumT 8 (r.os.take i) : Nat) : Int) + (8 + (z.B'n : Int)) = ((sumT 8 (r.os.take (i + 1)) : Nat) : Int) by rw [hs1, hzn]; omega)) ?_
    refine SN.block ?_
    refine SN.seq ?_
    refine SG.region ?_
    refine SL.val rfl rfl (fun w9 F9 S9 s => R.add rfl rfl (by omega)) ?_
    refine SL.val rfl rfl (fun w9 F9 S9 s => R.mv rfl) ?_
    refine SL.nil ?_
    exact SN.again (i + 1) (by show r.n - (i + 1) < r.n - i; omega) (Sub.cons rfl (Sub.cons rfl (Sub.cons rfl (Sub.cons rfl (Sub.nil _))))) ((Imp.sels (by repeat (first | exact Sels.nil | apply Sels.cons | exact Sel.keep | exact Sel.here | apply Sel.there)))) (by show i + 1 ≤ r.n; omega)
  · obtain rfl : i = r.n := by omega
    have htk : r.os.take r.n = r.os := List.take_of_length_le (by omega)
    rw [htk]
    refine SG.exit _ rfl ?_
    refine SN.seq ?_
    refine SG.seq ?_
    refine SG.region ?_
    refine SL.val rfl rfl (fun w9 F9 S9 s => R.mv rfl) ?_
    refine SL.val rfl rfl (fun w9 F9 S9 s => R.gtr rfl rfl) ?_
    refine SL.val rfl rfl (fun w9 F9 S9 s => R.as rfl) ?_
    refine SL.nil ?_
    refine SN.seq ?_
    exact SG.ret1 rfl rfl ((Imp.sels (by repeat (first | exact Sels.nil | apply Sels.cons | exact Sel.keep | exact Sel.here | apply Sel.there)))) (rfl)

theorem merges7_ok (la : Option Addr) (ln lc : Nat) (rs : List RowW) (w : World) (hL : Cells w la (rs.map RowW.val)) (hln : ln = rs.length) (hR : ∀ r ∈ rs, r.ok w) (hs : sumT 10 (allW rs) ≤ 1000000000000) (hlb : ln ≤ 2000000) : Meets Try.prog 4 [.slice la ln lc] w (fun v w' => v = .bool true ∧ Ext [] w w') := by
  refine Meets.law Try.func4 rfl 39 rfl (Nat.le_of_ble_eq_true rfl) (law_cons (p := fun w => Cells w la (rs.map RowW.val) ∧ ∀ r ∈ rs, r.ok w) (fun w9 he => ⟨hL.ext0 he, fun r hr => (hR r hr).ext0 he⟩) (law_nil w)) ?_
  have hsl := sumT_len 10 (allW rs)
  refine SG.seq ?_
  refine SG.region ?_
  refine SL.val rfl rfl (fun w9 F9 S9 s => R.as rfl) ?_
  refine SL.nil ?_
  refine SN.seq ?_
  refine SG.seq ?_
  refine SG.seq ?_
  refine SG.region ?_
  refine SL.step rfl rfl (CS.callR rfl go12 (fun w9 F9 S9 s => first7_ok w9)) ?_
  rintro _ _ ⟨rfl, rfl⟩
  refine SL.val rfl rfl (fun w9 F9 S9 s => R.not rfl) ?_
  refine SL.nil ?_
  refine SN.seq ?_
  refine SG.condF rfl ?_
  refine SG.skip ?_
  refine SN.seq ?_
  refine SG.seq ?_
  refine SG.region ?_
  refine SL.val rfl rfl (fun w9 F9 S9 s => R.as rfl) ?_
  refine SL.nil ?_
  refine SN.seq ?_
  refine SG.seq ?_
  refine SG.seq ?_
  refine SG.region ?_
  refine SL.val rfl rfl (fun w9 F9 S9 s => R.mv rfl) ?_
  refine SL.val rfl rfl (fun w9 F9 S9 s => R.lenS rfl) ?_
  refine SL.val rfl rfl (fun w9 F9 S9 s => R.mv rfl) ?_
  refine SL.nil ?_
  refine SN.seq ?_
  refine SG.block ?_
  refine SG.loop (X := Nat) (fun i => [(0, .slice la ln lc), (3, .int .i64 (sumT 10 (allW (rs.take i)) : Nat)), (10, .slice la ln lc), (11, .int .i64 (ln : Int)), (12, .int .i64 (i : Int))]) (fun i => [sh (fun w => Cells w la (rs.map RowW.val) ∧ ∀ r ∈ rs, r.ok w)]) (fun i => i ≤ ln) (fun i => ln - i) (0) (Sub.cons rfl (Sub.cons rfl (Sub.cons rfl (Sub.cons rfl (Sub.cons rfl (Sub.nil _)))))) ((Imp.sels (by repeat (first | exact Sels.nil | apply Sels.cons | exact Sel.keep | exact Sel.here | apply Sel.there)))) (Nat.zero_le _) ?_
  intro i hi
  have hsa := sumT_all_le 10 rs i
  show SG _ _ _ _ _ [(0, .slice la ln lc), (3, .int .i64 (sumT 10 (allW (rs.take i)) : Nat)), (10, .slice la ln lc), (11, .int .i64 (ln : Int)), (12, .int .i64 (i : Int))] [sh (fun w => Cells w la (rs.map RowW.val) ∧ ∀ r ∈ rs, r.ok w)] _
  refine SG.seq ?_
  refine SG.region ?_
  refine SL.val rfl rfl (fun w9 F9 S9 s => R.lss rfl rfl) ?_
  refine SL.nil ?_
  refine SN.seq ?_
  refine SG.seq ?_
  refine SG.condP rfl (fun h1 => ?_) (fun h1 => ?_)
  · obtain ⟨r, hr⟩ : ∃ r, rs[i]? = some r := ⟨_, List.getElem?_eq_getElem (by omega)⟩
    refine SG.fact (fun w9 F9 S9 s => row_some (s.rows (by repeat (first | exact Sel.keep | exact Sel.here | apply Sel.there))).1 hr) (fun hf9 => ?_)
    obtain ⟨q, hq⟩ := hf9
    refine SG.fact (fun w9 F9 S9 s => row_len ((s.rows (by repeat (first | exact Sel.keep | exact Sel.here | apply Sel.there))).2 r (List.mem_of_getElem? hr))) (fun hf9 => ?_)
    have hln2 := hf9; clear hf9
    have hsb := sumT_all (k := 10) hr
    have hsc := sumT_all_le 10 rs (i + 1)
    have hsl2 := sumT_len 10 r.os
    refine SG.skip ?_
    refine SN.seq ?_
    refine SG.seq ?_
    refine SG.block ?_
    refine SG.seq ?_
    refine SG.region ?_
    refine SL.val rfl rfl (fun w9 F9 S9 s => R.idx rfl rfl (by omega) (by omega) q hq) ?_
    refine SL.val rfl rfl (fun w9 F9 S9 s => R.ld rfl (v := .slice r.a r.n r.c) (row_cell (s.rows (by repeat (first | exact Sel.keep | exact Sel.here | apply Sel.there))).1 hq hr)) ?_
    refine SL.val rfl rfl (fun w9 F9 S9 s => R.as rfl) ?_
    refine SL.nil ?_
    refine SN.seq ?_
    refine SG.seq ?_
    refine SG.region ?_
    refine SL.val rfl rfl (fun w9 F9 S9 s => R.mv rfl) ?_
    refine SL.val rfl rfl (fun w9 F9 S9 s => R.lenS rfl) ?_
    refine SL.val rfl rfl (fun w9 F9 S9 s => R.mv rfl) ?_
    refine SL.nil ?_
    refine SN.seq ?_
    refine SG.block ?_
    refine SG.loop (X := Nat) (fun j => [(0, .slice la ln lc), (3, .int .i64 ((sumT 10 (allW (rs.take i)) + sumT 10 (r.os.take j) : Nat) : Int)), (10, .slice la ln lc), (11, .int .i64 (ln : Int)), (12, .int .i64 (i : Int)), (16, .slice r.a r.n r.c), (17, .int .i64 (r.n : Int)), (18, .int .i64 (j : Int))]) (fun j => [sh (fun w => Cells w la (rs.map RowW.val) ∧ ∀ r ∈ rs, r.ok w)]) (fun j => j ≤ r.n) (fun j => r.n - j) (0) (Sub.cons rfl (Sub.cons rfl (Sub.cons rfl (Sub.cons rfl (Sub.cons rfl (Sub.cons rfl (Sub.cons rfl (Sub.cons rfl (Sub.nil _))))))))) ((Imp.sels (by repeat (first | exact Sels.nil | apply Sels.cons | exact Sel.keep | exact Sel.here | apply Sel.there)))) (Nat.zero_le _) ?_
    intro j hj
    show SG _ _ _ _ _ [(0, .slice la ln lc), (3, .int .i64 ((sumT 10 (allW (rs.take i)) + sumT 10 (r.os.take j) : Nat) : Int)), (10, .slice la ln lc), (11, .int .i64 (ln : Int)), (12, .int .i64 (i : Int)), (16, .slice r.a r.n r.c), (17, .int .i64 (r.n : Int)), (18, .int .i64 (j : Int))] [sh (fun w => Cells w la (rs.map RowW.val) ∧ ∀ r ∈ rs, r.ok w)] _
    refine SG.seq ?_
    refine SG.region ?_
    refine SL.val rfl rfl (fun w9 F9 S9 s => R.lss rfl rfl) ?_
    refine SL.nil ?_
    refine SN.seq ?_
    refine SG.seq ?_
    refine SG.condP rfl (fun h2 => ?_) (fun h2 => ?_)
    · obtain ⟨z, hz⟩ := row_z (r := r) (j := j) (by omega)
      have hrm := List.mem_of_getElem? hr
      refine SG.fact (fun w9 F9 S9 s => row_pt ((s.rows (by repeat (first | exact Sel.keep | exact Sel.here | apply Sel.there))).2 r hrm) hz) (fun hf9 => ?_)
      obtain ⟨q2, hq2⟩ := hf9
      refine SG.fact (fun w9 F9 S9 s => row_bn ((s.rows (by repeat (first | exact Sel.keep | exact Sel.here | apply Sel.there))).2 r hrm) hz) (fun hf9 => ?_)
      obtain ⟨hzn, hzl⟩ := hf9
      have hs1 := sumT_succ (k := 10) hz
      have hs2 := sumT_take 10 r.os (j + 1)
      refine SG.skip ?_
      refine SN.seq ?_
      refine SG.seq ?_
      refine SG.block ?_
      refine SG.seq ?_
      refine SG.region ?_
      refine SL.val rfl rfl (fun w9 F9 S9 s => R.idx rfl rfl (by omega) (by omega) q2 hq2) ?_
      refine SL.val rfl rfl (fun w9 F9 S9 s => R.ldN (vs := WriteV.cells z) rfl (row_cells ((s.rows (by repeat (first | exact Sel.keep | exact Sel.here | apply Sel.there))).2 r hrm) hq2 hz) rfl) ?_
      refine SL.step rfl rfl (CS.alloc [.int .i64 0, .slice none 0 0] rfl) ?_
      rintro _ _ ⟨b7, rfl, rfl⟩
      refine SL.step0 rfl (CS.stA (vs := WriteV.cells z) rfl rfl (by repeat (first | exact Sel.keep | exact Sel.here | apply Sel.there)) (by rfl) (by rfl) (by intro u hu; exact WriteV.cells.one _ u (by simpa using hu))) ?_
      rintro _ _ rfl
      refine SL.nil ?_
      refine SN.seq ?_
      refine SG.region ?_
      refine SL.val rfl rfl (fun w9 F9 S9 s => R.mv rfl) ?_
      refine SL.val rfl rfl (fun w9 F9 S9 s => R.fld rfl) ?_
      refine SL.val rfl rfl (fun w9 F9 S9 s => R.ldB (v := .slice z.B'a z.B'n z.B'c) rfl (s.cel (by repeat (first | exact SelB.blk | exact SelB.fz | apply SelB.there))) (by rfl)) ?_
      refine SL.val rfl rfl (fun w9 F9 S9 s => R.lenS rfl) ?_
      refine SL.val rfl rfl (fun w9 F9 S9 s => R.add rfl rfl (by omega)) ?_
      refine SL.val rfl rfl (fun w9 F9 S9 s => R.add rfl rfl (by omega)) ?_
      refine SL.val rfl rfl (fun w9 F9 S9 s => R.as rfl) ?_
      refine SL.nil ?_
      refine SN.be 3 rfl (congrArg (Value.int .i64) (show ((sumT 10 (allW (rs.take i)) + sumT 10 (r.os.take j) : Nat) : Int) + (10 + (z.B'n : Int)) = ((sumT 10 (allW (rs.take i)) + sumT 10 (r.os.take (j + 1)) : Nat) : Int) by rw [hs1, hzn]; omega)) ?_
      refine SN.block ?_
      refine SN.seq ?_
      refine SG.region ?_
      refine SL.val rfl rfl (fun w9 F9 S9 s => R.add rfl rfl (by omega)) ?_
      refine SL.val rfl rfl (fun w9 F9 S9 s => R.mv rfl) ?_
      refine SL.nil ?_
      exact SN.again (j + 1) (by show r.n - (j + 1) < r.n - j; omega) (Sub.cons rfl (Sub.cons rfl (Sub.cons rfl (Sub.cons rfl (Sub.cons rfl (Sub.cons rfl (Sub.cons rfl (Sub.cons rfl (Sub.nil _))))))))) ((Imp.sels (by repeat (first | exact Sels.nil | apply Sels.cons | exact Sel.keep | exact Sel.here | apply Sel.there)))) (by show j + 1 ≤ r.n; omega)
    · obtain rfl : j = r.n := by omega
      have htk : r.os.take r.n = r.os := List.take_of_length_le (by omega)
      refine SG.be 3 rfl (congrArg (Value.int .i64) (show ((sumT 10 (allW (rs.take i)) + sumT 10 (r.os.take r.n) : Nat) : Int) = ((sumT 10 (allW (rs.take (i + 1))) : Nat) : Int) by rw [hsb, htk])) ?_
      refine SG.exit _ rfl ?_
      refine SN.block ?_
      refine SN.seq ?_
      refine SG.region ?_
      refine SL.val rfl rfl (fun w9 F9 S9 s => R.add rfl rfl (by omega)) ?_
      refine SL.val rfl rfl (fun w9 F9 S9 s => R.mv rfl) ?_
      refine SL.nil ?_
      exact SN.again (i + 1) (by show ln - (i + 1) < ln - i; omega) (Sub.cons rfl (Sub.cons rfl (Sub.cons rfl (Sub.cons rfl (Sub.cons rfl (Sub.nil _)))))) ((Imp.sels (by repeat (first | exact Sels.nil | apply Sels.cons | exact Sel.keep | exact Sel.here | apply Sel.there)))) (by show i + 1 ≤ ln; omega)
  · obtain rfl : i = ln := by omega
    rw [List.take_of_length_le (show rs.length ≤ i by omega)]
    refine SG.exit _ rfl ?_
    refine SN.seq ?_
    refine SG.seq ?_
    refine SG.region ?_
    refine SL.val rfl rfl (fun w9 F9 S9 s => R.mv rfl) ?_
    refine SL.val rfl rfl (fun w9 F9 S9 s => R.gtr rfl rfl) ?_
    refine SL.val rfl rfl (fun w9 F9 S9 s => R.mv rfl) ?_
    refine SL.caseP 32 rfl (fun hg13_2 => ?_) (fun hg13_2 => ?_)
    · refine SL.pass rfl rfl ?_
      refine SL.pass rfl rfl ?_
      refine SL.pass rfl rfl ?_
      refine SL.pass rfl rfl ?_
      refine SL.pass rfl rfl ?_
      first | refine SL.val rfl rfl (fun w9 F9 S9 s => R.pickT rfl rfl) ?_ | refine SL.val rfl rfl (fun w9 F9 S9 s => R.pickF rfl rfl) ?_
      refine SL.val rfl rfl (fun w9 F9 S9 s => R.as rfl) ?_
      refine SL.nil ?_
      refine SN.seq ?_
      exact SG.ret1 rfl rfl ((Imp.sels (by repeat (first | exact Sels.nil | apply Sels.cons | exact Sel.keep | exact Sel.here | apply Sel.there)))) (rfl)
    · refine SL.val rfl rfl (fun w9 F9 S9 s => R.mv rfl) ?_
      refine SL.step rfl rfl (CS.callP rfl go25 (fun w9 F9 S9 s => mergeP7 la i lc rs w9 (s.rows (by repeat (first | exact Sel.keep | exact Sel.here | apply Sel.there))).1 hln (s.rows (by repeat (first | exact Sel.keep | exact Sel.here | apply Sel.there))).2 (by omega) (by omega))) ?_
      rintro _ _ ⟨_, ⟨rm, rfl, hrm, hrmn, hrml, rfl, rfl⟩, rfl⟩
      refine SL.val rfl rfl (fun w9 F9 S9 s => R.mv rfl) ?_
      refine SL.step rfl rfl (CS.call rfl go26 (refmerge7_ok la i lc rs hln (by omega) (by omega)) (by repeat (first | exact Sels.nil | apply Sels.cons | exact Sel.keep | exact Sel.here | apply Sel.there))) ?_
      rintro _ _ ⟨_, ⟨r2, rfl, hr2, hr2n, rfl⟩, rfl⟩
      refine SL.n1 ?_
      refine SL.step rfl rfl (CS.callR rfl go24 (fun w9 F9 S9 s => rsamew_ok rm r2 w9 (s.row (by repeat (first | exact Sel.keep | exact Sel.here | apply Sel.there))) (s.row (by repeat (first | exact Sel.keep | exact Sel.here | apply Sel.there))))) ?_
      rintro _ _ ⟨rfl, rfl⟩
      first | refine SL.val rfl rfl (fun w9 F9 S9 s => R.pickT rfl rfl) ?_ | refine SL.val rfl rfl (fun w9 F9 S9 s => R.pickF rfl rfl) ?_
      refine SL.val rfl rfl (fun w9 F9 S9 s => R.as rfl) ?_
      refine SL.nil ?_
      refine SN.seq ?_
      exact SG.ret1 rfl rfl ((Imp.sels (by repeat (first | exact Sels.nil | apply Sels.cons | exact Sel.keep | exact Sel.here | apply Sel.there)))) (congrArg Value.bool (decide_eq_true (same_q hrm hr2)))

set_option maxHeartbeats 2000000 in
theorem joins7_ok (ra rb rc : RowW) (w : World) (hra : ra.ok w) (hrb : rb.ok w) (hrc : rc.ok w) (hsra : sumT 8 ra.os ≤ 1000000000000) (hsrb : sumT 8 rb.os ≤ 1000000000000) (hsrc : sumT 8 rc.os ≤ 1000000000000) : Meets Try.prog 6 [.slice ra.a ra.n ra.c, .slice rb.a rb.n rb.c, .slice rc.a rc.n rc.c] w (fun v w' => v = .bool true ∧ Ext [] w w') := by
  refine Meets.law Try.func6 rfl 48 rfl (Nat.le_of_ble_eq_true rfl) (law_cons (p := fun w => RowW.ok w ra) (fun w9 he => hra.ext0 he) (law_cons (p := fun w => RowW.ok w rb) (fun w9 he => hrb.ext0 he) (law_cons (p := fun w => RowW.ok w rc) (fun w9 he => hrc.ext0 he) (law_nil w)))) ?_
  have hla := sumT_len 8 ra.os
  have hlb := sumT_len 8 rb.os
  have hlc := sumT_len 8 rc.os
  refine SG.seq ?_
  refine SG.region ?_
  refine SL.val rfl rfl (fun w9 F9 S9 s => R.as rfl) ?_
  refine SL.nil ?_
  refine SN.seq ?_
  refine SG.seq ?_
  refine SG.seq ?_
  refine SG.region ?_
  refine SL.step rfl rfl (CS.callR rfl go12 (fun w9 F9 S9 s => first7_ok w9)) ?_
  rintro _ _ ⟨rfl, rfl⟩
  refine SL.val rfl rfl (fun w9 F9 S9 s => R.not rfl) ?_
  refine SL.nil ?_
  refine SN.seq ?_
  refine SG.condF rfl ?_
  refine SG.skip ?_
  refine SN.seq ?_
  refine SG.seq ?_
  refine SG.seq ?_
  refine SG.region ?_
  refine SL.val rfl rfl (fun w9 F9 S9 s => R.mv rfl) ?_
  refine SL.val rfl rfl (fun w9 F9 S9 s => R.build (cs := [.int .i64 0, .int .i64 0, .int .i64 0, .slice ra.a ra.n ra.c].toArray) rfl rfl) ?_
  refine SL.step rfl rfl (CS.callR rfl go13 (fun w9 F9 S9 s => great7_ok 0 0 0 ra w9 (s.row (by repeat (first | exact Sel.keep | exact Sel.here | apply Sel.there))) hsra)) ?_
  rintro _ _ ⟨rfl, rfl⟩
  refine SL.val rfl rfl (fun w9 F9 S9 s => R.mv rfl) ?_
  refine SL.caseP 13 rfl (fun hg3_3 => ?_) (fun hg3_3 => ?_)
  · refine SL.pass rfl rfl ?_
    refine SL.pass rfl rfl ?_
    refine SL.pass rfl rfl ?_
    first | refine SL.val rfl rfl (fun w9 F9 S9 s => R.pickT rfl rfl) ?_ | refine SL.val rfl rfl (fun w9 F9 S9 s => R.pickF rfl rfl) ?_
    refine SL.val rfl rfl (fun w9 F9 S9 s => R.mv rfl) ?_
    refine SL.pass rfl rfl ?_
    refine SL.pass rfl rfl ?_
    refine SL.pass rfl rfl ?_
    first | refine SL.val rfl rfl (fun w9 F9 S9 s => R.pickT rfl rfl) ?_ | refine SL.val rfl rfl (fun w9 F9 S9 s => R.pickF rfl rfl) ?_
    refine SL.nil ?_
    refine SN.seq ?_
    refine SG.condT rfl ?_
    refine SG.seq ?_
    refine SG.region ?_
    refine SL.val rfl rfl (fun w9 F9 S9 s => R.as rfl) ?_
    refine SL.nil ?_
    refine SN.seq ?_
    exact SG.ret1 rfl rfl ((Imp.sels (by repeat (first | exact Sels.nil | apply Sels.cons | exact Sel.keep | exact Sel.here | apply Sel.there)))) (rfl)
  · refine SL.val rfl rfl (fun w9 F9 S9 s => R.mv rfl) ?_
    refine SL.val rfl rfl (fun w9 F9 S9 s => R.build (cs := [.int .i64 0, .int .i64 0, .int .i64 0, .slice rb.a rb.n rb.c].toArray) rfl rfl) ?_
    refine SL.step rfl rfl (CS.callR rfl go13 (fun w9 F9 S9 s => great7_ok 0 0 0 rb w9 (s.row (by repeat (first | exact Sel.keep | exact Sel.here | apply Sel.there))) hsrb)) ?_
    rintro _ _ ⟨rfl, rfl⟩
    first | refine SL.val rfl rfl (fun w9 F9 S9 s => R.pickT rfl rfl) ?_ | refine SL.val rfl rfl (fun w9 F9 S9 s => R.pickF rfl rfl) ?_
    refine SL.val rfl rfl (fun w9 F9 S9 s => R.mv rfl) ?_
    refine SL.caseP 18 rfl (fun hg3_8 => ?_) (fun hg3_8 => ?_)
    · refine SL.pass rfl rfl ?_
      refine SL.pass rfl rfl ?_
      refine SL.pass rfl rfl ?_
      first | refine SL.val rfl rfl (fun w9 F9 S9 s => R.pickT rfl rfl) ?_ | refine SL.val rfl rfl (fun w9 F9 S9 s => R.pickF rfl rfl) ?_
      refine SL.nil ?_
      refine SN.seq ?_
      refine SG.condT rfl ?_
      refine SG.seq ?_
      refine SG.region ?_
      refine SL.val rfl rfl (fun w9 F9 S9 s => R.as rfl) ?_
      refine SL.nil ?_
      refine SN.seq ?_
      exact SG.ret1 rfl rfl ((Imp.sels (by repeat (first | exact Sels.nil | apply Sels.cons | exact Sel.keep | exact Sel.here | apply Sel.there)))) (rfl)
    · refine SL.val rfl rfl (fun w9 F9 S9 s => R.mv rfl) ?_
      refine SL.val rfl rfl (fun w9 F9 S9 s => R.build (cs := [.int .i64 0, .int .i64 0, .int .i64 0, .slice rc.a rc.n rc.c].toArray) rfl rfl) ?_
      refine SL.step rfl rfl (CS.callR rfl go13 (fun w9 F9 S9 s => great7_ok 0 0 0 rc w9 (s.row (by repeat (first | exact Sel.keep | exact Sel.here | apply Sel.there))) hsrc)) ?_
      rintro _ _ ⟨rfl, rfl⟩
      first | refine SL.val rfl rfl (fun w9 F9 S9 s => R.pickT rfl rfl) ?_ | refine SL.val rfl rfl (fun w9 F9 S9 s => R.pickF rfl rfl) ?_
      refine SL.nil ?_
      refine SN.seq ?_
      refine SG.condP rfl (fun h1 => ?_) (fun h1 => ?_)
      · refine SG.seq ?_
        refine SG.region ?_
        refine SL.val rfl rfl (fun w9 F9 S9 s => R.as rfl) ?_
        refine SL.nil ?_
        refine SN.seq ?_
        exact SG.ret1 rfl rfl ((Imp.sels (by repeat (first | exact Sels.nil | apply Sels.cons | exact Sel.keep | exact Sel.here | apply Sel.there)))) (rfl)
      · refine SG.skip ?_
        refine SN.seq ?_
        refine SG.seq ?_
        refine SG.region ?_
        refine SL.val rfl rfl (fun w9 F9 S9 s => R.mv rfl) ?_
        refine SL.val rfl rfl (fun w9 F9 S9 s => R.mv rfl) ?_
        refine SL.val rfl rfl (fun w9 F9 S9 s => R.mv rfl) ?_
        refine SL.step rfl rfl (CS.buildA rfl rfl rfl rfl rfl ([ra, rb, rc].map RowW.val) rfl) ?_
        rintro _ _ ⟨b26, rfl, rfl⟩
        refine SL.imp (Imp.blkSh (p := fun w => Cells w (some ⟨b26, 0, none⟩) ([ra, rb, rc].map RowW.val)) (show Sel _ (blk b26 ([ra, rb, rc].map RowW.val) _) _ from (by repeat (first | exact Sel.keep | exact Sel.here | apply Sel.there))) (fun w h => Cells.of_blk h 0 _ (fun j v hj => by simpa using hj))) ?_
        refine SL.step rfl rfl (CS.callP rfl go25 (fun w9 F9 S9 s => mergeP7 (some ⟨b26, 0, none⟩) 3 3 [ra, rb, rc] w9 (s.sh (p := fun w => Cells w (some ⟨b26, 0, none⟩) ([ra, rb, rc].map RowW.val)) (by repeat (first | exact Sel.keep | exact Sel.here | apply Sel.there))) rfl (by intro r9 hr9; simp only [List.mem_cons, List.not_mem_nil, or_false] at hr9; rcases hr9 with rfl | rfl | rfl; exact s.row (by repeat (first | exact Sel.keep | exact Sel.here | apply Sel.there)); exact s.row (by repeat (first | exact Sel.keep | exact Sel.here | apply Sel.there)); exact s.row (by repeat (first | exact Sel.keep | exact Sel.here | apply Sel.there))) (by simp only [allW, List.map_cons, List.map_nil, List.flatten_cons, List.flatten_nil, List.length_append, List.length_nil]; omega) (by decide))) ?_
        rintro _ _ ⟨_, ⟨rx, rfl, hrx, hrxn, hrxl, rfl, rfl⟩, rfl⟩
        refine SL.val rfl rfl (fun w9 F9 S9 s => R.as rfl) ?_
        refine SL.nil ?_
        refine SN.seq ?_
        refine SG.seq ?_
        refine SG.region ?_
        refine SL.val rfl rfl (fun w9 F9 S9 s => R.mv rfl) ?_
        refine SL.val rfl rfl (fun w9 F9 S9 s => R.mv rfl) ?_
        refine SL.step rfl rfl (CS.buildA rfl rfl rfl rfl rfl ([ra, rb].map RowW.val) rfl) ?_
        rintro _ _ ⟨b30, rfl, rfl⟩
        refine SL.imp (Imp.blkSh (p := fun w => Cells w (some ⟨b30, 0, none⟩) ([ra, rb].map RowW.val)) (show Sel _ (blk b30 ([ra, rb].map RowW.val) _) _ from (by repeat (first | exact Sel.keep | exact Sel.here | apply Sel.there))) (fun w h => Cells.of_blk h 0 _ (fun j v hj => by simpa using hj))) ?_
        refine SL.step rfl rfl (CS.callP rfl go25 (fun w9 F9 S9 s => mergeP7 (some ⟨b30, 0, none⟩) 2 2 [ra, rb] w9 (s.sh (p := fun w => Cells w (some ⟨b30, 0, none⟩) ([ra, rb].map RowW.val)) (by repeat (first | exact Sel.keep | exact Sel.here | apply Sel.there))) rfl (by intro r9 hr9; simp only [List.mem_cons, List.not_mem_nil, or_false] at hr9; rcases hr9 with rfl | rfl; exact s.row (by repeat (first | exact Sel.keep | exact Sel.here | apply Sel.there)); exact s.row (by repeat (first | exact Sel.keep | exact Sel.here | apply Sel.there))) (by simp only [allW, List.map_cons, List.map_nil, List.flatten_cons, List.flatten_nil, List.length_append, List.length_nil]; omega) (by decide))) ?_
        rintro _ _ ⟨_, ⟨rab, rfl, hrab, hrabn, hrabl, rfl, rfl⟩, rfl⟩
        have hlab : rab.os.length ≤ ra.os.length + rb.os.length := by have := merged_len hrab; simpa [allW] using this
        refine SL.val rfl rfl (fun w9 F9 S9 s => R.mv rfl) ?_
        refine SL.step rfl rfl (CS.buildA rfl rfl rfl rfl rfl ([rab, rc].map RowW.val) rfl) ?_
        rintro _ _ ⟨b33, rfl, rfl⟩
        refine SL.imp (Imp.blkSh (p := fun w => Cells w (some ⟨b33, 0, none⟩) ([rab, rc].map RowW.val)) (show Sel _ (blk b33 ([rab, rc].map RowW.val) _) _ from (by repeat (first | exact Sel.keep | exact Sel.here | apply Sel.there))) (fun w h => Cells.of_blk h 0 _ (fun j v hj => by simpa using hj))) ?_
        refine SL.step rfl rfl (CS.callP rfl go25 (fun w9 F9 S9 s => mergeP7 (some ⟨b33, 0, none⟩) 2 2 [rab, rc] w9 (s.sh (p := fun w => Cells w (some ⟨b33, 0, none⟩) ([rab, rc].map RowW.val)) (by repeat (first | exact Sel.keep | exact Sel.here | apply Sel.there))) rfl (by intro r9 hr9; simp only [List.mem_cons, List.not_mem_nil, or_false] at hr9; rcases hr9 with rfl | rfl; exact s.row (by repeat (first | exact Sel.keep | exact Sel.here | apply Sel.there)); exact s.row (by repeat (first | exact Sel.keep | exact Sel.here | apply Sel.there))) (by simp only [allW, List.map_cons, List.map_nil, List.flatten_cons, List.flatten_nil, List.length_append, List.length_nil]; omega) (by decide))) ?_
        rintro _ _ ⟨_, ⟨ry, rfl, hry, hryn, hryl, rfl, rfl⟩, rfl⟩
        refine SL.val rfl rfl (fun w9 F9 S9 s => R.mv rfl) ?_
        refine SL.step rfl rfl (CS.callR rfl go24 (fun w9 F9 S9 s => rsamew_ok ry rx w9 (s.row (by repeat (first | exact Sel.keep | exact Sel.here | apply Sel.there))) (s.row (by repeat (first | exact Sel.keep | exact Sel.here | apply Sel.there))))) ?_
        rintro _ _ ⟨rfl, rfl⟩
        refine SL.val rfl rfl (fun w9 F9 S9 s => R.mv rfl) ?_
        refine SL.isT 37 rfl (decide_eq_true (same_q hry (hrx.trans (by rw [show (allW [rab, rc]).map wv = [] ++ rab.os.map wv ++ rc.os.map wv by simp [allW], merge_parts (a := (allW [ra, rb]).map wv) [] (rc.os.map wv) (by rw [List.map_map]; exact hrab)]; simp [allW])))) ?_
        refine SL.val rfl rfl (fun w9 F9 S9 s => R.mv rfl) ?_
        refine SL.val rfl rfl (fun w9 F9 S9 s => R.mv rfl) ?_
        refine SL.val rfl rfl (fun w9 F9 S9 s => R.mv rfl) ?_
        refine SL.step rfl rfl (CS.buildA rfl rfl rfl rfl rfl ([rb, rc].map RowW.val) rfl) ?_
        rintro _ _ ⟨b41, rfl, rfl⟩
        refine SL.imp (Imp.blkSh (p := fun w => Cells w (some ⟨b41, 0, none⟩) ([rb, rc].map RowW.val)) (show Sel _ (blk b41 ([rb, rc].map RowW.val) _) _ from (by repeat (first | exact Sel.keep | exact Sel.here | apply Sel.there))) (fun w h => Cells.of_blk h 0 _ (fun j v hj => by simpa using hj))) ?_
        refine SL.step rfl rfl (CS.callP rfl go25 (fun w9 F9 S9 s => mergeP7 (some ⟨b41, 0, none⟩) 2 2 [rb, rc] w9 (s.sh (p := fun w => Cells w (some ⟨b41, 0, none⟩) ([rb, rc].map RowW.val)) (by repeat (first | exact Sel.keep | exact Sel.here | apply Sel.there))) rfl (by intro r9 hr9; simp only [List.mem_cons, List.not_mem_nil, or_false] at hr9; rcases hr9 with rfl | rfl; exact s.row (by repeat (first | exact Sel.keep | exact Sel.here | apply Sel.there)); exact s.row (by repeat (first | exact Sel.keep | exact Sel.here | apply Sel.there))) (by simp only [allW, List.map_cons, List.map_nil, List.flatten_cons, List.flatten_nil, List.length_append, List.length_nil]; omega) (by decide))) ?_
        rintro _ _ ⟨_, ⟨rbc, rfl, hrbc, hrbcn, hrbcl, rfl, rfl⟩, rfl⟩
        have hlbc : rbc.os.length ≤ rb.os.length + rc.os.length := by have := merged_len hrbc; simpa [allW] using this
        refine SL.step rfl rfl (CS.buildA rfl rfl rfl rfl rfl ([ra, rbc].map RowW.val) rfl) ?_
        rintro _ _ ⟨b43, rfl, rfl⟩
        refine SL.imp (Imp.blkSh (p := fun w => Cells w (some ⟨b43, 0, none⟩) ([ra, rbc].map RowW.val)) (show Sel _ (blk b43 ([ra, rbc].map RowW.val) _) _ from (by repeat (first | exact Sel.keep | exact Sel.here | apply Sel.there))) (fun w h => Cells.of_blk h 0 _ (fun j v hj => by simpa using hj))) ?_
        refine SL.step rfl rfl (CS.callP rfl go25 (fun w9 F9 S9 s => mergeP7 (some ⟨b43, 0, none⟩) 2 2 [ra, rbc] w9 (s.sh (p := fun w => Cells w (some ⟨b43, 0, none⟩) ([ra, rbc].map RowW.val)) (by repeat (first | exact Sel.keep | exact Sel.here | apply Sel.there))) rfl (by intro r9 hr9; simp only [List.mem_cons, List.not_mem_nil, or_false] at hr9; rcases hr9 with rfl | rfl; exact s.row (by repeat (first | exact Sel.keep | exact Sel.here | apply Sel.there)); exact s.row (by repeat (first | exact Sel.keep | exact Sel.here | apply Sel.there))) (by simp only [allW, List.map_cons, List.map_nil, List.flatten_cons, List.flatten_nil, List.length_append, List.length_nil]; omega) (by decide))) ?_
        rintro _ _ ⟨_, ⟨rz, rfl, hrz, hrzn, hrzl, rfl, rfl⟩, rfl⟩
        refine SL.val rfl rfl (fun w9 F9 S9 s => R.mv rfl) ?_
        refine SL.step rfl rfl (CS.callR rfl go24 (fun w9 F9 S9 s => rsamew_ok rz rx w9 (s.row (by repeat (first | exact Sel.keep | exact Sel.here | apply Sel.there))) (s.row (by repeat (first | exact Sel.keep | exact Sel.here | apply Sel.there))))) ?_
        rintro _ _ ⟨rfl, rfl⟩
        first | refine SL.val rfl rfl (fun w9 F9 S9 s => R.pickT rfl rfl) ?_ | refine SL.val rfl rfl (fun w9 F9 S9 s => R.pickF rfl rfl) ?_
        refine SL.val rfl rfl (fun w9 F9 S9 s => R.as rfl) ?_
        refine SL.nil ?_
        refine SN.seq ?_
        exact SG.ret1 rfl rfl ((Imp.sels (by repeat (first | exact Sels.nil | apply Sels.cons | exact Sel.keep | exact Sel.here | apply Sel.there)))) (congrArg Value.bool (decide_eq_true (same_q hrz (hrx.trans (by rw [show (allW [ra, rbc]).map wv = ra.os.map wv ++ rbc.os.map wv ++ [] by simp [allW], merge_parts (a := (allW [rb, rc]).map wv) (ra.os.map wv) [] (by rw [List.map_map]; exact hrbc)]; simp [allW])))))

end Go.Proofs.Ytiiiplhfgblamaa
/-
  The walks of package record.
-/
set_option linter.unusedVariables false
set_option linter.unusedSimpArgs false
set_option maxRecDepth 4000
namespace Go.Proofs.Ytiiiplhfgblamaa
open Go Brv Brv.Pack Brv.Frame
theorem allW_count {k : Nat} {rs : List RowW} (h : ∀ r ∈ rs, r.os.length ≤ k) : (allW rs).length ≤ k * rs.length := by
  induction rs with
  | nil => simp [allW]
  | cons r rs ih =>
    have h1 := h r (by simp)
    have h2 := ih (fun x hx => h x (by simp [hx]))
    unfold allW at h2 ⊢
    simp only [List.map_cons, List.flatten_cons, List.length_append, List.length_cons, Nat.mul_add]; omega
theorem key_lt {os : List WriteV} {i : Nat} {y z : WriteV} (h : Sorted (os.map fun o => toQ (wv o))) (hi : 0 < i) (hy : os[i - 1]? = some y) (hz : os[i]? = some z) : y.Block' < z.Block' := by
  have hp := List.pairwise_iff_getElem.1 h (i - 1) i (by have := (List.getElem?_eq_some_iff.1 hy).1; simpa using this) (by have := (List.getElem?_eq_some_iff.1 hz).1; simpa using this) (by omega)
  obtain ⟨h1, rfl⟩ := List.getElem?_eq_some_iff.1 hy
  obtain ⟨h2, rfl⟩ := List.getElem?_eq_some_iff.1 hz
  simp only [List.getElem_map] at hp
  have h3 : Key.lt (os[i - 1]).Block' (os[i]).Block' = true := hp
  exact of_decide_eq_true h3
theorem row_blk {r : RowW} {w : World} {j : Nat} {z : WriteV} {p : Addr} (h : r.ok w) (hp : r.a = some p) (hz : r.os[j]? = some z) : w.cell? ((p.add ((j : Int).toNat * 2)).add 0) = some (.int .i64 z.Block') := (row_cells h hp hz).load (j := 0) rfl

set_option maxHeartbeats 2000000 in
theorem back7_ok (kd tl nu : Int) (r : RowW) (la : Option Addr) (ln lc : Nat) (rs : List RowW) (w : World) (hr : r.ok w) (hsr : sumT 8 r.os ≤ 1000000000000) (hL : Cells w la (rs.map RowW.val)) (hln : ln = rs.length) (hR : ∀ r ∈ rs, r.ok w) (hss : ∀ q ∈ rs, sumT 8 q.os ≤ 1000000000000) : Meets Try.prog 5 [.agg #[.int .i64 kd, .int .i64 tl, .int .i64 nu, .slice r.a r.n r.c], .slice la ln lc] w (fun v w' => v = .bool true ∧ Ext [] w w') := by
  refine Meets.law Try.func5 rfl 75 rfl (Nat.le_of_ble_eq_true rfl) (law_cons (p := fun w => RowW.ok w r) (fun w9 he => hr.ext0 he) (law_cons (p := fun w => Cells w la (rs.map RowW.val) ∧ ∀ r ∈ rs, r.ok w) (fun w9 he => ⟨hL.ext0 he, fun r hr => (hR r hr).ext0 he⟩) (law_nil w))) ?_
  refine SG.seq ?_
  refine SG.region ?_
  refine SL.step rfl rfl (CS.boxA rfl) ?_
  rintro _ _ ⟨b2, rfl, rfl⟩
  refine SL.val rfl rfl (fun w9 F9 S9 s => R.as rfl) ?_
  refine SL.nil ?_
  refine SN.imp (Imp.fz (by repeat (first | exact Sel.keep | exact Sel.here | apply Sel.there))) ?_
  refine SN.seq ?_
  refine SG.seq ?_
  refine SG.seq ?_
  refine SG.region ?_
  refine SL.step rfl rfl (CS.callR rfl go12 (fun w9 F9 S9 s => first7_ok w9)) ?_
  rintro _ _ ⟨rfl, rfl⟩
  refine SL.val rfl rfl (fun w9 F9 S9 s => R.not rfl) ?_
  refine SL.nil ?_
  refine SN.seq ?_
  refine SG.condF rfl ?_
  refine SG.skip ?_
  refine SN.seq ?_
  refine SG.seq ?_
  refine SG.seq ?_
  refine SG.region ?_
  refine SL.val rfl rfl (fun w9 F9 S9 s => R.ldBN rfl (s.cel (by repeat (first | exact SelB.blk | exact SelB.fz | apply SelB.there))) (by rfl)) ?_
  refine SL.step rfl rfl (CS.callR rfl go13 (fun w9 F9 S9 s => great7_ok kd tl nu r w9 (s.row (by repeat (first | exact Sel.keep | exact Sel.here | apply Sel.there))) hsr)) ?_
  rintro _ _ ⟨rfl, rfl⟩
  refine SL.val rfl rfl (fun w9 F9 S9 s => R.mv rfl) ?_
  refine SL.caseP 15 rfl (fun hg3_2 => ?_) (fun hg3_2 => ?_)
  · refine SL.pass rfl rfl ?_
    refine SL.pass rfl rfl ?_
    refine SL.pass rfl rfl ?_
    first | refine SL.val rfl rfl (fun w9 F9 S9 s => R.pickT rfl rfl) ?_ | refine SL.val rfl rfl (fun w9 F9 S9 s => R.pickF rfl rfl) ?_
    refine SL.nil ?_
    refine SN.seq ?_
    refine SG.condT rfl ?_
    refine SG.seq ?_
    refine SG.region ?_
    refine SL.val rfl rfl (fun w9 F9 S9 s => R.as rfl) ?_
    refine SL.nil ?_
    refine SN.seq ?_
    exact SG.ret1 rfl rfl ((Imp.sels (by repeat (first | exact Sels.nil | apply Sels.cons | exact Sel.keep | exact Sel.here | apply Sel.there)))) (rfl)
  · refine SL.val rfl rfl (fun w9 F9 S9 s => R.mv rfl) ?_
    refine SL.val rfl rfl (fun w9 F9 S9 s => R.lenS rfl) ?_
    refine SL.val rfl rfl (fun w9 F9 S9 s => R.gtr rfl rfl) ?_
    first | refine SL.val rfl rfl (fun w9 F9 S9 s => R.pickT rfl rfl) ?_ | refine SL.val rfl rfl (fun w9 F9 S9 s => R.pickF rfl rfl) ?_
    refine SL.nil ?_
    refine SN.seq ?_
    refine SG.condP rfl (fun h1 => ?_) (fun h1 => ?_)
    · refine SG.seq ?_
      refine SG.region ?_
      refine SL.val rfl rfl (fun w9 F9 S9 s => R.as rfl) ?_
      refine SL.nil ?_
      refine SN.seq ?_
      exact SG.ret1 rfl rfl ((Imp.sels (by repeat (first | exact Sels.nil | apply Sels.cons | exact Sel.keep | exact Sel.here | apply Sel.there)))) (rfl)
    · refine SG.skip ?_
      refine SN.seq ?_
      refine SG.seq ?_
      refine SG.seq ?_
      refine SG.region ?_
      refine SL.val rfl rfl (fun w9 F9 S9 s => R.mv rfl) ?_
      refine SL.val rfl rfl (fun w9 F9 S9 s => R.lenS rfl) ?_
      refine SL.val rfl rfl (fun w9 F9 S9 s => R.mv rfl) ?_
      refine SL.nil ?_
      refine SN.seq ?_
      refine SG.block ?_
      refine SG.loop (X := Nat) (fun i => [(1, .slice la ln lc), (2, .pointer (some ⟨b2, 0, none⟩)), (20, .slice la ln lc), (21, .int .i64 (ln : Int)), (22, .int .i64 (i : Int))]) (fun i => [fz b2 [.int .i64 kd, .int .i64 tl, .int .i64 nu, .slice r.a r.n r.c] 24, sh (fun w => Cells w la (rs.map RowW.val) ∧ ∀ r ∈ rs, r.ok w), sh (fun w => RowW.ok w r)]) (fun i => i ≤ ln ∧ ∀ j q, j < i → rs[j]? = some q → sumT 8 q.os ≤ 3000) (fun i => ln - i) (0) (Sub.cons rfl (Sub.cons rfl (Sub.cons rfl (Sub.cons rfl (Sub.cons rfl (Sub.nil _)))))) ((Imp.sels (by repeat (first | exact Sels.nil | apply Sels.cons | exact Sel.keep | exact Sel.here | apply Sel.there)))) (⟨Nat.zero_le _, fun j q hj => by omega⟩) ?_
      rintro i ⟨hi, hall⟩
      show SG _ _ _ _ _ [(1, .slice la ln lc), (2, .pointer (some ⟨b2, 0, none⟩)), (20, .slice la ln lc), (21, .int .i64 (ln : Int)), (22, .int .i64 (i : Int))] [fz b2 [.int .i64 kd, .int .i64 tl, .int .i64 nu, .slice r.a r.n r.c] 24, sh (fun w => Cells w la (rs.map RowW.val) ∧ ∀ r ∈ rs, r.ok w), sh (fun w => RowW.ok w r)] _
      refine SG.seq ?_
      refine SG.region ?_
      refine SL.val rfl rfl (fun w9 F9 S9 s => R.lss rfl rfl) ?_
      refine SL.nil ?_
      refine SN.seq ?_
      refine SG.seq ?_
      refine SG.condP rfl (fun h2 => ?_) (fun h2 => ?_)
      · obtain ⟨q0, hq0⟩ : ∃ r, rs[i]? = some r := ⟨_, List.getElem?_eq_getElem (by omega)⟩
        refine SG.fact (fun w9 F9 S9 s => row_some (s.rows (by repeat (first | exact Sel.keep | exact Sel.here | apply Sel.there))).1 hq0) (fun hf9 => ?_)
        obtain ⟨q, hq⟩ := hf9
        have hq0m := List.mem_of_getElem? hq0
        refine SG.skip ?_
        refine SN.seq ?_
        refine SG.seq ?_
        refine SG.block ?_
        refine SG.seq ?_
        refine SG.region ?_
        refine SL.val rfl rfl (fun w9 F9 S9 s => R.idx rfl rfl (by omega) (by omega) q hq) ?_
        refine SL.val rfl rfl (fun w9 F9 S9 s => R.ld rfl (v := .slice q0.a q0.n q0.c) (row_cell (s.rows (by repeat (first | exact Sel.keep | exact Sel.here | apply Sel.there))).1 hq hq0)) ?_
        refine SL.val rfl rfl (fun w9 F9 S9 s => R.as rfl) ?_
        refine SL.nil ?_
        refine SN.seq ?_
        refine SG.seq ?_
        refine SG.region ?_
        refine SL.val rfl rfl (fun w9 F9 S9 s => R.mv rfl) ?_
        refine SL.val rfl rfl (fun w9 F9 S9 s => R.build (cs := [.int .i64 0, .int .i64 0, .int .i64 0, .slice q0.a q0.n q0.c].toArray) rfl rfl) ?_
        refine SL.step rfl rfl (CS.callR rfl go13 (fun w9 F9 S9 s => great7_ok 0 0 0 q0 w9 ((s.rows (by repeat (first | exact Sel.keep | exact Sel.here | apply Sel.there))).2 q0 hq0m) (hss q0 hq0m))) ?_
        rintro _ _ ⟨rfl, rfl⟩
        refine SL.nil ?_
        refine SN.seq ?_
        refine SG.condP rfl (fun h3 => ?_) (fun h3 => ?_)
        · refine SG.seq ?_
          refine SG.region ?_
          refine SL.val rfl rfl (fun w9 F9 S9 s => R.as rfl) ?_
          refine SL.nil ?_
          refine SN.seq ?_
          exact SG.ret1 rfl rfl ((Imp.sels (by repeat (first | exact Sels.nil | apply Sels.cons | exact Sel.keep | exact Sel.here | apply Sel.there)))) (rfl)
        · refine SG.skip ?_
          refine SN.block ?_
          refine SN.seq ?_
          refine SG.region ?_
          refine SL.val rfl rfl (fun w9 F9 S9 s => R.add rfl rfl (by omega)) ?_
          refine SL.val rfl rfl (fun w9 F9 S9 s => R.mv rfl) ?_
          refine SL.nil ?_
          exact SN.again (i + 1) (by show ln - (i + 1) < ln - i; omega) (Sub.cons rfl (Sub.cons rfl (Sub.cons rfl (Sub.cons rfl (Sub.cons rfl (Sub.nil _)))))) ((Imp.sels (by repeat (first | exact Sels.nil | apply Sels.cons | exact Sel.keep | exact Sel.here | apply Sel.there)))) (⟨by show i + 1 ≤ ln; omega, fun j q hj hq => by
            by_cases hji : j = i
            · subst hji; rw [hq0] at hq; cases hq; omega
            · exact hall j q (by omega) hq⟩)
      · obtain rfl : i = ln := by omega
        have hcnt := allW_count (k := 375) (rs := rs) (fun q hq => by obtain ⟨j, hj⟩ := List.getElem?_of_mem hq; have h9 := hall j q (by have := (List.getElem?_eq_some_iff.1 hj).1; omega) hj; have h8 := sumT_len 8 q.os; omega)
        refine SG.exit _ rfl ?_
        refine SN.seq ?_
        refine SG.seq ?_
        refine SG.seq ?_
        refine SG.region ?_
        refine SL.val rfl rfl (fun w9 F9 S9 s => R.ldBN rfl (s.cel (by repeat (first | exact SelB.blk | exact SelB.fz | apply SelB.there))) (by rfl)) ?_
        refine SL.step rfl rfl (CS.callR rfl go19 (fun w9 F9 S9 s => rightV kd tl nu r w9 (s.row (by repeat (first | exact Sel.keep | exact Sel.here | apply Sel.there))))) ?_
        rintro _ _ ⟨rfl, rfl⟩
        refine SL.nil ?_
        refine SN.seq ?_
        refine SG.cut (X := Unit) (fun _ => [(1, .slice la i lc)]) (fun _ => [sh (fun w => Cells w la (rs.map RowW.val) ∧ ∀ r ∈ rs, r.ok w)]) (fun _ => True) ?_ ?_
        · refine SG.condB rfl (fun h4 => ?_) (fun h4 => ?_)
          · have hok := rightB_iff.1 h4
            have hbl := recB_len hok
            have hRB2 := putR_yes hok
            obtain ⟨RB, hRB⟩ : ∃ x, x = putR kd tl nu (r.os.map wv) := ⟨_, rfl⟩
            rw [← hRB] at hRB2
            rw [← hRB2] at hbl
            have hgV : getR RB = some ((kd, tl, nu), r.os.map wv) := by rw [hRB2]; exact getR_recB hok
            have hgv2 : getV RB = ((kd, tl, nu), r.os.map wv) := by unfold getV; rw [hgV]; rfl
            refine SG.seq ?_
            refine SG.region ?_
            refine SL.val rfl rfl (fun w9 F9 S9 s => R.ldBN rfl (s.cel (by repeat (first | exact SelB.blk | exact SelB.fz | apply SelB.there))) (by rfl)) ?_
            refine SL.step rfl rfl (CS.callP rfl go20 (fun w9 F9 S9 s => putP kd tl nu r w9 (s.row (by repeat (first | exact Sel.keep | exact Sel.here | apply Sel.there))))) ?_
            rintro _ _ ⟨_, ⟨ap, cp, rfl, hcp, rfl, rfl⟩, rfl⟩
            rw [← hRB] at hcp ⊢
            refine SL.step rfl rfl (CS.callP rfl go17 (fun w9 F9 S9 s => getP ap RB.length cp RB w9 (s.sh (p := fun w => Bs w ap RB.length RB) (by repeat (first | exact Sel.keep | exact Sel.here | apply Sel.there))) hcp (by omega))) ?_
            rintro _ _ ⟨_, ⟨rg, rfl, hrg, rfl, rfl⟩, rfl⟩
            rw [hgv2] at hrg ⊢
            simp only [hgV, Option.isSome_some, if_true]
            refine SL.val rfl rfl (fun w9 F9 S9 s => R.mv rfl) ?_
            refine SL.val rfl rfl (fun w9 F9 S9 s => R.ext rfl rfl) ?_
            refine SL.val rfl rfl (fun w9 F9 S9 s => R.ext rfl rfl) ?_
            refine SL.step rfl rfl (CS.alloc [.int .i64 0, .int .i64 0, .int .i64 0, .slice none 0 0] rfl) ?_
            rintro _ _ ⟨b7, rfl, rfl⟩
            refine SL.step0 rfl (CS.stA rfl rfl (by repeat (first | exact Sel.keep | exact Sel.here | apply Sel.there)) (by rfl) (by rfl) (by intro u hu; simp only [List.mem_cons, List.not_mem_nil, or_false] at hu; rcases hu with rfl | rfl | rfl | rfl <;> rfl)) ?_
            rintro _ _ rfl
            refine SL.val rfl rfl (fun w9 F9 S9 s => R.as rfl) ?_
            refine SL.nil ?_
            refine SN.imp (Imp.fz (by repeat (first | exact Sel.keep | exact Sel.here | apply Sel.there))) ?_
            refine SN.seq ?_
            refine SG.seq ?_
            refine SG.region ?_
            refine SL.val rfl rfl (fun w9 F9 S9 s => R.mv rfl) ?_
            refine SL.val rfl rfl (fun w9 F9 S9 s => R.neI rfl rfl) ?_
            refine SL.val rfl rfl (fun w9 F9 S9 s => R.mv rfl) ?_
            refine SL.isF 40 rfl (by decide) ?_
            refine SL.val rfl rfl (fun w9 F9 S9 s => R.ldBN rfl (s.cel (by repeat (first | exact SelB.blk | exact SelB.fz | apply SelB.there))) (by rfl)) ?_
            refine SL.val rfl rfl (fun w9 F9 S9 s => R.ldBN rfl (s.cel (by repeat (first | exact SelB.blk | exact SelB.fz | apply SelB.there))) (by rfl)) ?_
            refine SL.step rfl rfl (CS.callR rfl go22 (fun w9 F9 S9 s => rsame_ok kd tl nu kd tl nu rg r w9 (s.row (by repeat (first | exact Sel.keep | exact Sel.here | apply Sel.there))) (s.row (by repeat (first | exact Sel.keep | exact Sel.here | apply Sel.there))))) ?_
            rintro _ _ ⟨rfl, rfl⟩
            refine SL.val rfl rfl (fun w9 F9 S9 s => R.not rfl) ?_
            first | refine SL.val rfl rfl (fun w9 F9 S9 s => R.pickT rfl rfl) ?_ | refine SL.val rfl rfl (fun w9 F9 S9 s => R.pickF rfl rfl) ?_
            refine SL.nil ?_
            refine SN.seq ?_
            refine SG.condB rfl (fun h5 => ?_) (fun h5 => ?_)
            · exfalso
              simp [hrg] at h5
            · refine SG.skip ?_
              exact SN.handX () (Sub.cons rfl (Sub.nil _)) (Imp.sels (by repeat (first | exact Sels.nil | apply Sels.cons | exact Sel.keep | exact Sel.here | apply Sel.there))) trivial
          · refine SG.skip ?_
            exact SN.handX () (Sub.cons rfl (Sub.nil _)) (Imp.sels (by repeat (first | exact Sels.nil | apply Sels.cons | exact Sel.keep | exact Sel.here | apply Sel.there))) trivial
        · rintro _ _
          refine SN.seq ?_
          refine SG.seq ?_
          refine SG.region ?_
          refine SL.val rfl rfl (fun w9 F9 S9 s => R.mv rfl) ?_
          refine SL.step rfl rfl (CS.callP rfl go25 (fun w9 F9 S9 s => mergeP7 la i lc rs w9 (s.rows (by repeat (first | exact Sel.keep | exact Sel.here | apply Sel.there))).1 hln (s.rows (by repeat (first | exact Sel.keep | exact Sel.here | apply Sel.there))).2 (by omega) (by omega))) ?_
          rintro _ _ ⟨_, ⟨rm, rfl, hrm, hrmn, hrml, rfl, rfl⟩, rfl⟩
          have hso : Sorted (rm.os.map fun o => toQ (wv o)) := by rw [hrm]; exact mergeP_sorted nil_sorted _
          refine SL.val rfl rfl (fun w9 F9 S9 s => R.as rfl) ?_
          refine SL.nil ?_
          refine SN.seq ?_
          refine SG.seq ?_
          refine SG.seq ?_
          refine SG.region ?_
          refine SL.val rfl rfl (fun w9 F9 S9 s => R.mv rfl) ?_
          refine SL.val rfl rfl (fun w9 F9 S9 s => R.lenS rfl) ?_
          refine SL.val rfl rfl (fun w9 F9 S9 s => R.mv rfl) ?_
          refine SL.nil ?_
          refine SN.seq ?_
          refine SG.block ?_
          refine SG.loop (X := Nat) (fun j => [(9, .slice rm.a rm.n rm.c), (48, .slice rm.a rm.n rm.c), (49, .int .i64 (rm.n : Int)), (50, .int .i64 (j : Int))]) (fun j => [sh (fun w => RowW.ok w rm)]) (fun j => j ≤ rm.n) (fun j => rm.n - j) (0) (Sub.cons rfl (Sub.cons rfl (Sub.cons rfl (Sub.cons rfl (Sub.nil _))))) ((Imp.sels (by repeat (first | exact Sels.nil | apply Sels.cons | exact Sel.keep | exact Sel.here | apply Sel.there)))) (Nat.zero_le _) ?_
          intro j hj
          show SG _ _ _ _ _ [(9, .slice rm.a rm.n rm.c), (48, .slice rm.a rm.n rm.c), (49, .int .i64 (rm.n : Int)), (50, .int .i64 (j : Int))] [sh (fun w => RowW.ok w rm)] _
          refine SG.seq ?_
          refine SG.region ?_
          refine SL.val rfl rfl (fun w9 F9 S9 s => R.lss rfl rfl) ?_
          refine SL.nil ?_
          refine SN.seq ?_
          refine SG.seq ?_
          refine SG.condP rfl (fun h6 => ?_) (fun h6 => ?_)
          · obtain ⟨z, hz⟩ := row_z (r := rm) (j := j) (by omega)
            refine SG.fact (fun w9 F9 S9 s => row_pt (s.row (by repeat (first | exact Sel.keep | exact Sel.here | apply Sel.there))) hz) (fun hf9 => ?_)
            obtain ⟨q2, hq2⟩ := hf9
            refine SG.skip ?_
            refine SN.seq ?_
            refine SG.seq ?_
            refine SG.block ?_
            refine SG.seq ?_
            refine SG.region ?_
            refine SL.val rfl rfl (fun w9 F9 S9 s => R.mv rfl) ?_
            refine SL.val rfl rfl (fun w9 F9 S9 s => R.as rfl) ?_
            refine SL.nil ?_
            refine SN.seq ?_
            refine SG.seq ?_
            refine SG.draw [] [0, 1, 2, 3, 4, 5, 6, 7, 8, 9, 10, 11, 12, 13, 14, 15] (by decide +kernel) rfl ?_
            refine SW.pure rfl rfl rfl rfl (fun w9 => R.mv rfl) ?_
            refine SW.pure rfl rfl rfl rfl (fun w9 => R.gtr rfl rfl) ?_
            refine SW.pure rfl rfl rfl rfl (fun w9 => R.mv rfl) ?_
            refine SW.caseP 55 rfl (fun hg19_2 => ?_) (fun hg19_2 => ?_)
            · obtain ⟨y, hy⟩ := row_z (r := rm) (j := j - 1) (by omega)
              have hylt := key_lt hso (by omega) hy hz
              have hcast : ((j : Int) - 1) = ((j - 1 : Nat) : Int) := by omega
              refine SW.pure rfl rfl rfl rfl (fun w9 => R.mv rfl) ?_
              refine SW.pure rfl rfl rfl rfl (fun w9 => R.mv rfl) ?_
              refine SW.pure rfl rfl rfl rfl (fun w9 => R.sub' rfl rfl (by omega)) ?_
              refine SW.be 58 rfl (congrArg (Value.int .i64) hcast) ?_
              refine SW.pure rfl rfl rfl rfl (fun w9 => R.idx rfl rfl (by omega) (by omega) q2 hq2) ?_
              refine SW.pure rfl rfl rfl rfl (fun w9 => R.fldA rfl) ?_
              refine SW.read rfl rfl rfl rfl (fun w9 F9 S9 s => R.ld (v := .int .i64 y.Block') rfl (row_blk (s.row (by repeat (first | exact Sel.keep | exact Sel.here | apply Sel.there))) hq2 hy)) ?_
              refine SW.pure rfl rfl rfl rfl (fun w9 => R.mv rfl) ?_
              refine SW.pure rfl rfl rfl rfl (fun w9 => R.mv rfl) ?_
              refine SW.pure rfl rfl rfl rfl (fun w9 => R.idx rfl rfl (by omega) (by omega) q2 hq2) ?_
              refine SW.pure rfl rfl rfl rfl (fun w9 => R.fldA rfl) ?_
              refine SW.read rfl rfl rfl rfl (fun w9 F9 S9 s => R.ld (v := .int .i64 z.Block') rfl (row_blk (s.row (by repeat (first | exact Sel.keep | exact Sel.here | apply Sel.there))) hq2 hz)) ?_
              refine SW.pure rfl rfl rfl rfl (fun w9 => R.geq rfl rfl) ?_
              first | refine SW.pure rfl rfl rfl rfl (fun w9 => R.pickT rfl rfl) ?_ | refine SW.pure rfl rfl rfl rfl (fun w9 => R.pickF rfl rfl) ?_
              refine SW.nil ?_
              refine SN.seq ?_
              refine SG.condP rfl (fun h7 => ?_) (fun h7 => ?_)
              · exfalso; omega
              · refine SG.skip ?_
                refine SN.block ?_
                refine SN.seq ?_
                refine SG.region ?_
                refine SL.val rfl rfl (fun w9 F9 S9 s => R.add rfl rfl (by omega)) ?_
                refine SL.val rfl rfl (fun w9 F9 S9 s => R.mv rfl) ?_
                refine SL.nil ?_
                exact SN.again (j + 1) (by show rm.n - (j + 1) < rm.n - j; omega) (Sub.cons rfl (Sub.cons rfl (Sub.cons rfl (Sub.cons rfl (Sub.nil _))))) ((Imp.sels (by repeat (first | exact Sels.nil | apply Sels.cons | exact Sel.keep | exact Sel.here | apply Sel.there)))) (by show j + 1 ≤ rm.n; omega)
            · refine SW.pass (hd := rfl) rfl rfl rfl ?_
              refine SW.pass (hd := rfl) rfl rfl rfl ?_
              refine SW.pass (hd := rfl) rfl rfl rfl ?_
              refine SW.pass (hd := rfl) rfl rfl rfl ?_
              refine SW.pass (hd := rfl) rfl rfl rfl ?_
              refine SW.pass (hd := rfl) rfl rfl rfl ?_
              refine SW.pass (hd := rfl) rfl rfl rfl ?_
              refine SW.pass (hd := rfl) rfl rfl rfl ?_
              refine SW.pass (hd := rfl) rfl rfl rfl ?_
              refine SW.pass (hd := rfl) rfl rfl rfl ?_
              refine SW.pass (hd := rfl) rfl rfl rfl ?_
              refine SW.pass (hd := rfl) rfl rfl rfl ?_
              first | refine SW.pure rfl rfl rfl rfl (fun w9 => R.pickT rfl rfl) ?_ | refine SW.pure rfl rfl rfl rfl (fun w9 => R.pickF rfl rfl) ?_
              refine SW.nil ?_
              refine SN.seq ?_
              refine SG.condF rfl ?_
              refine SG.skip ?_
              refine SN.block ?_
              refine SN.seq ?_
              refine SG.region ?_
              refine SL.val rfl rfl (fun w9 F9 S9 s => R.add rfl rfl (by omega)) ?_
              refine SL.val rfl rfl (fun w9 F9 S9 s => R.mv rfl) ?_
              refine SL.nil ?_
              exact SN.again (j + 1) (by show rm.n - (j + 1) < rm.n - j; omega) (Sub.cons rfl (Sub.cons rfl (Sub.cons rfl (Sub.cons rfl (Sub.nil _))))) ((Imp.sels (by repeat (first | exact Sels.nil | apply Sels.cons | exact Sel.keep | exact Sel.here | apply Sel.there)))) (by show j + 1 ≤ rm.n; omega)
          · refine SG.exit _ rfl ?_
            refine SN.seq ?_
            refine SG.seq ?_
            refine SG.region ?_
            refine SL.val rfl rfl (fun w9 F9 S9 s => R.mv rfl) ?_
            refine SL.step rfl rfl (CS.buildA rfl rfl rfl rfl rfl ([rm].map RowW.val) rfl) ?_
            rintro _ _ ⟨b71, rfl, rfl⟩
            refine SL.imp (Imp.blkSh (p := fun w => Cells w (some ⟨b71, 0, none⟩) ([rm].map RowW.val)) (show Sel _ (blk b71 ([rm].map RowW.val) _) _ from (by repeat (first | exact Sel.keep | exact Sel.here | apply Sel.there))) (fun w h => Cells.of_blk h 0 _ (fun j v hj => by simpa using hj))) ?_
            refine SL.step rfl rfl (CS.callP rfl go25 (fun w9 F9 S9 s => mergeP7 (some ⟨b71, 0, none⟩) 1 1 [rm] w9 (s.sh (p := fun w => Cells w (some ⟨b71, 0, none⟩) ([rm].map RowW.val)) (by repeat (first | exact Sel.keep | exact Sel.here | apply Sel.there))) rfl (by intro r9 hr9; simp only [List.mem_cons, List.not_mem_nil, or_false] at hr9; rcases hr9 with rfl; exact s.row (by repeat (first | exact Sel.keep | exact Sel.here | apply Sel.there))) (by simp only [allW, List.map_cons, List.map_nil, List.flatten_cons, List.flatten_nil, List.length_append, List.length_nil]; omega) (by decide))) ?_
            rintro _ _ ⟨_, ⟨rn, rfl, hrn, hrnn, hrnl, rfl, rfl⟩, rfl⟩
            refine SL.val rfl rfl (fun w9 F9 S9 s => R.mv rfl) ?_
            refine SL.step rfl rfl (CS.callR rfl go24 (fun w9 F9 S9 s => rsamew_ok rn rm w9 (s.row (by repeat (first | exact Sel.keep | exact Sel.here | apply Sel.there))) (s.row (by repeat (first | exact Sel.keep | exact Sel.here | apply Sel.there))))) ?_
            rintro _ _ ⟨rfl, rfl⟩
            refine SL.val rfl rfl (fun w9 F9 S9 s => R.as rfl) ?_
            refine SL.nil ?_
            refine SN.seq ?_
            exact SG.ret1 rfl rfl ((Imp.sels (by repeat (first | exact Sels.nil | apply Sels.cons | exact Sel.keep | exact Sel.here | apply Sel.there)))) (congrArg Value.bool (decide_eq_true (same_q hrn (by rw [show (allW [rm]).map wv = [] ++ rm.os.map wv ++ [] by simp [allW], merge_parts (a := (allW rs).map wv) [] [] (by rw [List.map_map]; exact hrm)]; simpa using hrm))))

end Go.Proofs.Ytiiiplhfgblamaa
/-
  The bulk of writes bounds their sums.
-/
set_option linter.unusedVariables false
namespace Go.Proofs.Ytiiiplhfgblamaa
open Go Brv
theorem sumT_bulk {k : Nat} (hk : 1 ≤ k) {os : List WriteV} {w : World} (h : ∀ o ∈ os, o.okW w) : sumT k os ≤ k * (os.map WriteV.bulk).sum := by
  induction os with
  | nil => simp [sumT]
  | cons o os ih =>
    have h1 := ih (fun x hx => h x (by simp [hx]))
    have h2 := (h o (by simp)).2.2.len
    have h3 : k * 2 + k * o.B'.length = k * (1 + (o.B'.length + 1)) := by rw [← Nat.mul_add]; congr 1; omega
    have h4 : o.B'.length ≤ k * o.B'.length := Nat.le_mul_of_pos_left _ hk
    simp only [sumT, List.map_cons, List.sum_cons, wtW, WriteV.bulk, Nat.mul_add] at h1 h3 ⊢
    omega
theorem RowW.sum_bulk {k : Nat} (hk : 1 ≤ k) {r : RowW} {w : World} (h : r.ok w) : sumT k r.os ≤ k * r.bulk := by
  have := sumT_bulk hk h.2.2
  unfold RowW.bulk
  rw [Nat.mul_add]; omega
theorem allW_bulk {k : Nat} (hk : 1 ≤ k) {rs : List RowW} {w : World} (h : ∀ r ∈ rs, r.ok w) : sumT k (allW rs) ≤ k * (rs.map RowW.bulk).sum := by
  induction rs with
  | nil => simp [allW, sumT]
  | cons r rs ih =>
    have h1 := ih (fun x hx => h x (by simp [hx]))
    have h2 := RowW.sum_bulk hk (h r (by simp))
    simp only [allW, List.map_cons, List.flatten_cons, List.sum_cons, Nat.mul_add] at h1 ⊢
    rw [sumT_append]; omega
theorem rows_bulk (rs : List RowW) : rs.length ≤ (rs.map RowW.bulk).sum := by
  induction rs with
  | nil => simp
  | cons r rs ih => simp only [List.length_cons, List.map_cons, List.sum_cons, RowW.bulk] at ih ⊢; omega
theorem row_bulk_le {r : RowW} {rs : List RowW} (h : r ∈ rs) : r.bulk ≤ (rs.map RowW.bulk).sum := by
  induction rs with
  | nil => cases h
  | cons q rs ih =>
    simp only [List.map_cons, List.sum_cons]
    rcases List.mem_cons.1 h with rfl | h
    · omega
    · have := ih h; omega
end Go.Proofs.Ytiiiplhfgblamaa
