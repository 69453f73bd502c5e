/-
  Texts of this claim, put together.
-/
import Derived.Test.YtiiiplhfgblamaaRecTLz4
/-
  The walks of package record.
-/
set_option linter.unusedVariables false
set_option linter.unusedSimpArgs false
set_option maxRecDepth 4000
namespace Go.Proofs.Ytiiiplhfgblamaa
open Go Brv Brv.Pack Brv.Frame
theorem tells7_ok (kd tl nu kd2 tl2 nu2 : Int) (r r2 : RowW) (a : Option Addr) (n c : Nat) (l : List UInt8) (w : World) (hr : r.ok w) (hr2 : r2.ok w) (hb : Bs w a n l) (hnc : n ≤ c) : Meets Try.prog 3 [.agg #[.int .i64 kd, .int .i64 tl, .int .i64 nu, .slice r.a r.n r.c], .agg #[.int .i64 kd2, .int .i64 tl2, .int .i64 nu2, .slice r2.a r2.n r2.c], .slice a n c] w (fun v w' => v = .bool true ∧ Ext [] w w') := by
  refine Meets.law Try.func3 rfl 87 rfl (Nat.le_of_ble_eq_true rfl) (law_cons (p := fun w => RowW.ok w r) (fun w9 he => hr.ext0 he) (law_cons (p := fun w => RowW.ok w r2) (fun w9 he => hr2.ext0 he) (law_bs (hb) (law_nil w)))) ?_
  refine SG.seq ?_
  refine SG.region ?_
  refine SL.step rfl rfl (CS.boxA rfl) ?_
  rintro _ _ ⟨b3, rfl, rfl⟩
  refine SL.step rfl rfl (CS.boxA rfl) ?_
  rintro _ _ ⟨b4, rfl, rfl⟩
  refine SL.val rfl rfl (fun w9 F9 S9 s => R.as rfl) ?_
  refine SL.nil ?_
  refine SN.imp (Imp.fz (by repeat (first | exact Sel.keep | exact Sel.here | apply Sel.there))) ?_
  refine SN.imp (Imp.fz (by repeat (first | exact Sel.keep | exact Sel.here | apply Sel.there))) ?_
  refine SN.seq ?_
  refine SG.seq ?_
  refine SG.seq ?_
  refine SG.region ?_
  refine SL.step rfl rfl (CS.callR rfl go12 (fun w9 F9 S9 s => first7_ok w9)) ?_
  rintro _ _ ⟨rfl, rfl⟩
  refine SL.val rfl rfl (fun w9 F9 S9 s => R.not rfl) ?_
  refine SL.nil ?_
  refine SN.seq ?_
  refine SG.condF rfl ?_
  refine SG.skip ?_
  refine SN.seq ?_
  refine SG.seq ?_
  refine SG.seq ?_
  refine SG.region ?_
  refine SL.val rfl rfl (fun w9 F9 S9 s => R.ldBN rfl (s.cel (by repeat (first | exact SelB.blk | exact SelB.fz | apply SelB.there))) (by rfl)) ?_
  refine SL.step rfl rfl (CS.callR (φ := fun v => ∃ b, v = .bool b) rfl go13 (fun w9 F9 S9 s => (great_any kd tl nu r w9 (s.row (by repeat (first | exact Sel.keep | exact Sel.here | apply Sel.there)))).mono (fun v w8 ⟨b, h1, h2⟩ => ⟨⟨b, h1⟩, h2⟩))) ?_
  rintro _ _ ⟨⟨bgr, rfl⟩, rfl⟩
  refine SL.val rfl rfl (fun w9 F9 S9 s => R.mv rfl) ?_
  refine SL.caseB 17 rfl (fun hg3_2 => ?_) (fun hg3_2 => ?_)
  · refine SL.pass rfl rfl ?_
    refine SL.pass rfl rfl ?_
    first | refine SL.val rfl rfl (fun w9 F9 S9 s => R.pickT rfl rfl) ?_ | refine SL.val rfl rfl (fun w9 F9 S9 s => R.pickF rfl rfl) ?_
    refine SL.val rfl rfl (fun w9 F9 S9 s => R.mv rfl) ?_
    refine SL.pass rfl rfl ?_
    refine SL.pass rfl rfl ?_
    refine SL.pass rfl rfl ?_
    first | refine SL.val rfl rfl (fun w9 F9 S9 s => R.pickT rfl rfl) ?_ | refine SL.val rfl rfl (fun w9 F9 S9 s => R.pickF rfl rfl) ?_
    refine SL.nil ?_
    refine SN.seq ?_
    refine SG.condT rfl ?_
    refine SG.seq ?_
    refine SG.region ?_
    refine SL.val rfl rfl (fun w9 F9 S9 s => R.as rfl) ?_
    refine SL.nil ?_
    refine SN.seq ?_
    exact SG.ret1 rfl rfl ((Imp.sels (by repeat (first | exact Sels.nil | apply Sels.cons | exact Sel.keep | exact Sel.here | apply Sel.there)))) (rfl)
  · refine SL.val rfl rfl (fun w9 F9 S9 s => R.ldBN rfl (s.cel (by repeat (first | exact SelB.blk | exact SelB.fz | apply SelB.there))) (by rfl)) ?_
    refine SL.step rfl rfl (CS.callR (φ := fun v => ∃ b, v = .bool b) rfl go13 (fun w9 F9 S9 s => (great_any kd2 tl2 nu2 r2 w9 (s.row (by repeat (first | exact Sel.keep | exact Sel.here | apply Sel.there)))).mono (fun v w8 ⟨b, h1, h2⟩ => ⟨⟨b, h1⟩, h2⟩))) ?_
    rintro _ _ ⟨⟨bgr2, rfl⟩, rfl⟩
    first | refine SL.val rfl rfl (fun w9 F9 S9 s => R.pickT rfl rfl) ?_ | refine SL.val rfl rfl (fun w9 F9 S9 s => R.pickF rfl rfl) ?_
    refine SL.val rfl rfl (fun w9 F9 S9 s => R.mv rfl) ?_
    refine SL.caseB 21 rfl (fun hg3_6 => ?_) (fun hg3_6 => ?_)
    · refine SL.pass rfl rfl ?_
      refine SL.pass rfl rfl ?_
      refine SL.pass rfl rfl ?_
      first | refine SL.val rfl rfl (fun w9 F9 S9 s => R.pickT rfl rfl) ?_ | refine SL.val rfl rfl (fun w9 F9 S9 s => R.pickF rfl rfl) ?_
      refine SL.nil ?_
      refine SN.seq ?_
      refine SG.condT rfl ?_
      refine SG.seq ?_
      refine SG.region ?_
      refine SL.val rfl rfl (fun w9 F9 S9 s => R.as rfl) ?_
      refine SL.nil ?_
      refine SN.seq ?_
      exact SG.ret1 rfl rfl ((Imp.sels (by repeat (first | exact Sels.nil | apply Sels.cons | exact Sel.keep | exact Sel.here | apply Sel.there)))) (rfl)
    · refine SL.val rfl rfl (fun w9 F9 S9 s => R.mv rfl) ?_
      refine SL.val rfl rfl (fun w9 F9 S9 s => R.lenS rfl) ?_
      refine SL.val rfl rfl (fun w9 F9 S9 s => R.gtr rfl rfl) ?_
      first | refine SL.val rfl rfl (fun w9 F9 S9 s => R.pickT rfl rfl) ?_ | refine SL.val rfl rfl (fun w9 F9 S9 s => R.pickF rfl rfl) ?_
      refine SL.nil ?_
      refine SN.seq ?_
      refine SG.condP rfl (fun h1 => ?_) (fun h1 => ?_)
      · refine SG.seq ?_
        refine SG.region ?_
        refine SL.val rfl rfl (fun w9 F9 S9 s => R.as rfl) ?_
        refine SL.nil ?_
        refine SN.seq ?_
        exact SG.ret1 rfl rfl ((Imp.sels (by repeat (first | exact Sels.nil | apply Sels.cons | exact Sel.keep | exact Sel.here | apply Sel.there)))) (rfl)
      · have hln := hb.len
        refine SG.skip ?_
        refine SN.seq ?_
        refine SG.seq ?_
        refine SG.region ?_
        refine SL.val rfl rfl (fun w9 F9 S9 s => R.as rfl) ?_
        refine SL.val rfl rfl (fun w9 F9 S9 s => R.as rfl) ?_
        refine SL.nil ?_
        refine SN.seq ?_
        refine SG.seq ?_
        refine SG.seq ?_
        refine SG.region ?_
        refine SL.val rfl rfl (fun w9 F9 S9 s => R.ldBN rfl (s.cel (by repeat (first | exact SelB.blk | exact SelB.fz | apply SelB.there))) (by rfl)) ?_
        refine SL.step rfl rfl (CS.callR rfl go14 (fun w9 F9 S9 s => refrightV kd tl nu r w9 (s.row (by repeat (first | exact Sel.keep | exact Sel.here | apply Sel.there))))) ?_
        rintro _ _ ⟨rfl, rfl⟩
        refine SL.nil ?_
        refine SN.seq ?_
        refine SG.cut (X := Unit) (fun _ => [(2, .slice a n c), (3, .pointer (some ⟨b3, 0, none⟩)), (4, .pointer (some ⟨b4, 0, none⟩)), (7, .string (str (putR kd tl nu (r.os.map wv)))), (8, .int .i64 (secR kd tl nu (r.os.map wv)))]) (fun _ => [fz b3 [.int .i64 kd, .int .i64 tl, .int .i64 nu, .slice r.a r.n r.c] 24, fz b4 [.int .i64 kd2, .int .i64 tl2, .int .i64 nu2, .slice r2.a r2.n r2.c] 24, sh (fun w => RowW.ok w r), sh (fun w => RowW.ok w r2), bs a n l]) (fun _ => True) ?_ ?_
        · refine SG.condB rfl (fun h2 => ?_) (fun h2 => ?_)
          · have hok := rightB_iff.1 h2
            refine SG.draw [1, 3] [0, 2, 1, 3, 4, 5] (by decide +kernel) rfl ?_
            refine SW.read rfl rfl rfl rfl (fun w9 F9 S9 s => R.ldBN rfl (s.cel (by repeat (first | exact SelB.blk | exact SelB.fz | apply SelB.there))) (by rfl)) ?_
            refine SW.read rfl rfl rfl rfl (fun w9 F9 S9 s => R.ldBN rfl (s.cel (by repeat (first | exact SelB.blk | exact SelB.fz | apply SelB.there))) (by rfl)) ?_
            refine SW.step rfl rfl rfl rfl (CS.callR rfl go15 (fun w9 F9 S9 s => refput7_ok kd tl nu r w9 (s.row (by repeat (first | exact Sel.keep | exact Sel.here | apply Sel.there))) hok)) ?_
            rintro _ _ ⟨rfl, rfl⟩
            refine ⟨⟨.inr (fun w9 F9 S9 s => R.ldBN rfl (s.cel (by repeat (first | exact SelB.blk | exact SelB.fz | apply SelB.there))) (by rfl)), ⟨.inl (by decide +kernel), trivial⟩⟩, ?_⟩
            refine SW.step rfl rfl rfl rfl (CS.callR rfl go16 (fun w9 F9 S9 s => refsectors7_ok kd tl nu r w9 (s.row (by repeat (first | exact Sel.keep | exact Sel.here | apply Sel.there))) hok)) ?_
            rintro _ _ ⟨rfl, rfl⟩
            refine ⟨⟨.inl (by decide +kernel), ⟨.inl (by decide +kernel), trivial⟩⟩, ?_⟩
            refine SW.pure rfl rfl rfl rfl (fun w9 => R.as rfl) ?_
            refine SW.pure rfl rfl rfl rfl (fun w9 => R.as rfl) ?_
            refine SW.nil ?_
            exact SN.handX () (Sub.cons rfl (Sub.cons rfl (Sub.cons rfl (Sub.cons (by rw [putR_yes hok]; rfl) (Sub.cons (by rw [secR_yes hok]; rfl) (Sub.nil _)))))) (Imp.sels (by repeat (first | exact Sels.nil | apply Sels.cons | exact Sel.keep | exact Sel.here | apply Sel.there))) trivial
          · have hno : ¬ okR kd tl nu (r.os.map wv) := fun h9 => by rw [rightB_iff.2 h9] at h2; cases h2
            refine SG.skip ?_
            exact SN.handX () (Sub.cons rfl (Sub.cons rfl (Sub.cons rfl (Sub.cons (by rw [putR_no hno]; rfl) (Sub.cons (by rw [secR_no hno]; rfl) (Sub.nil _)))))) (Imp.sels (by repeat (first | exact Sels.nil | apply Sels.cons | exact Sel.keep | exact Sel.here | apply Sel.there))) trivial
        · rintro _ _
          refine SN.seq ?_
          refine SG.seq ?_
          refine SG.region ?_
          refine SL.val rfl rfl (fun w9 F9 S9 s => R.mv rfl) ?_
          refine SL.step rfl rfl (CS.callP rfl go17 (fun w9 F9 S9 s => getP a n c l w9 (s.bs (by repeat (first | exact Sel.keep | exact Sel.here | apply Sel.there))) hnc (by omega))) ?_
          rintro _ _ ⟨_, ⟨rx, rfl, hrx, rfl, rfl⟩, rfl⟩
          refine SL.val rfl rfl (fun w9 F9 S9 s => R.mv rfl) ?_
          refine SL.val rfl rfl (fun w9 F9 S9 s => R.ext rfl rfl) ?_
          refine SL.val rfl rfl (fun w9 F9 S9 s => R.ext rfl rfl) ?_
          refine SL.step rfl rfl (CS.alloc [.int .i64 0, .int .i64 0, .int .i64 0, .slice none 0 0] rfl) ?_
          rintro _ _ ⟨b9, rfl, rfl⟩
          refine SL.step0 rfl (CS.stA rfl rfl (by repeat (first | exact Sel.keep | exact Sel.here | apply Sel.there)) (by rfl) (by rfl) (by intro u hu; simp only [List.mem_cons, List.not_mem_nil, or_false] at hu; rcases hu with rfl | rfl | rfl | rfl <;> rfl)) ?_
          rintro _ _ rfl
          refine SL.val rfl rfl (fun w9 F9 S9 s => R.as rfl) ?_
          refine SL.nil ?_
          refine SN.imp (Imp.fz (by repeat (first | exact Sel.keep | exact Sel.here | apply Sel.there))) ?_
          refine SN.seq ?_
          refine SG.seq ?_
          refine SG.region ?_
          refine SL.val rfl rfl (fun w9 F9 S9 s => R.mv rfl) ?_
          refine SL.step rfl rfl (CS.call rfl go18 (refget7_ok a n c l (by omega)) (by repeat (first | exact Sels.nil | apply Sels.cons | exact Sel.keep | exact Sel.here | apply Sel.there))) ?_
          rintro _ _ ⟨_, ⟨ry, rfl, hry, rfl⟩, rfl⟩
          refine SL.n1 ?_
          refine SL.val rfl rfl (fun w9 F9 S9 s => R.mv rfl) ?_
          refine SL.val rfl rfl (fun w9 F9 S9 s => R.ext rfl rfl) ?_
          refine SL.val rfl rfl (fun w9 F9 S9 s => R.ext rfl rfl) ?_
          refine SL.step rfl rfl (CS.alloc [.int .i64 0, .int .i64 0, .int .i64 0, .slice none 0 0] rfl) ?_
          rintro _ _ ⟨b11, rfl, rfl⟩
          refine SL.step0 rfl (CS.stA rfl rfl (by repeat (first | exact Sel.keep | exact Sel.here | apply Sel.there)) (by rfl) (by rfl) (by intro u hu; simp only [List.mem_cons, List.not_mem_nil, or_false] at hu; rcases hu with rfl | rfl | rfl | rfl <;> rfl)) ?_
          rintro _ _ rfl
          refine SL.val rfl rfl (fun w9 F9 S9 s => R.as rfl) ?_
          refine SL.nil ?_
          refine SN.imp (Imp.fz (by repeat (first | exact Sel.keep | exact Sel.here | apply Sel.there))) ?_
          refine SN.seq ?_
          refine SG.seq ?_
          refine SG.draw [1, 3, 7, 14, 21, 24, 30] [0, 2, 1, 3, 4, 5, 6, 9, 7, 8, 10, 11, 12, 13, 15, 14, 16, 17, 18, 19, 20, 22, 23, 21, 24, 25, 26, 27, 28, 29, 30, 31, 32, 33, 34, 35, 36, 37, 38, 39, 40, 41, 42, 43, 44, 45] (by decide +kernel) rfl ?_
          refine SW.read rfl rfl rfl rfl (fun w9 F9 S9 s => R.ldBN rfl (s.cel (by repeat (first | exact SelB.blk | exact SelB.fz | apply SelB.there))) (by rfl)) ?_
          refine SW.read rfl rfl rfl rfl (fun w9 F9 S9 s => R.ldBN rfl (s.cel (by repeat (first | exact SelB.blk | exact SelB.fz | apply SelB.there))) (by rfl)) ?_
          refine SW.step rfl rfl rfl rfl (CS.callR rfl go19 (fun w9 F9 S9 s => rightV kd tl nu r w9 (s.row (by repeat (first | exact Sel.keep | exact Sel.here | apply Sel.there))))) ?_
          rintro _ _ ⟨rfl, rfl⟩
          refine ⟨⟨.inr (fun w9 F9 S9 s => R.ldBN rfl (s.cel (by repeat (first | exact SelB.blk | exact SelB.fz | apply SelB.there))) (by rfl)), ⟨.inl (by decide +kernel), trivial⟩⟩, ?_⟩
          refine SW.step rfl rfl rfl rfl (CS.callR rfl go14 (fun w9 F9 S9 s => refrightV kd tl nu r w9 (s.row (by repeat (first | exact Sel.keep | exact Sel.here | apply Sel.there))))) ?_
          rintro _ _ ⟨rfl, rfl⟩
          refine ⟨⟨.inl (by decide +kernel), ⟨.inl (by decide +kernel), trivial⟩⟩, ?_⟩
          refine SW.pure rfl rfl rfl rfl (fun w9 => R.eqB rfl rfl) ?_
          refine SW.pure rfl rfl rfl rfl (fun w9 => R.mv rfl) ?_
          refine SW.isT 47 rfl (by simp) ?_
          refine SW.read rfl rfl rfl rfl (fun w9 F9 S9 s => R.ldBN rfl (s.cel (by repeat (first | exact SelB.blk | exact SelB.fz | apply SelB.there))) (by rfl)) ?_
          refine SW.pure rfl rfl rfl rfl (fun w9 => R.mv rfl) ?_
          refine SW.step rfl rfl rfl rfl (CS.callP rfl go20 (fun w9 F9 S9 s => putP kd tl nu r w9 (s.row (by repeat (first | exact Sel.keep | exact Sel.here | apply Sel.there))))) ?_
          rintro _ _ ⟨_, ⟨ap, cp, rfl, hcp, rfl, rfl⟩, rfl⟩
          refine ⟨⟨.inl (by decide +kernel), ⟨.inl (by decide +kernel), ⟨.inl (by decide +kernel), trivial⟩⟩⟩, ?_⟩
          refine SW.read rfl rfl rfl rfl (fun w9 F9 S9 s => R.strB rfl (s.sh (p := fun w => Bs w ap (putR kd tl nu (r.os.map wv)).length (putR kd tl nu (r.os.map wv))) (by repeat (first | exact Sel.keep | exact Sel.here | apply Sel.there)))) ?_
          refine SW.pure rfl rfl rfl rfl (fun w9 => R.eqStr rfl rfl) ?_
          first | refine SW.pure rfl rfl rfl rfl (fun w9 => R.pickT rfl rfl) ?_ | refine SW.pure rfl rfl rfl rfl (fun w9 => R.pickF rfl rfl) ?_
          refine SW.pure rfl rfl rfl rfl (fun w9 => R.mv rfl) ?_
          refine SW.isT 54 rfl (by simp) ?_
          refine SW.read rfl rfl rfl rfl (fun w9 F9 S9 s => R.ldBN rfl (s.cel (by repeat (first | exact SelB.blk | exact SelB.fz | apply SelB.there))) (by rfl)) ?_
          refine SW.pure rfl rfl rfl rfl (fun w9 => R.mv rfl) ?_
          refine SW.step rfl rfl rfl rfl (CS.callR rfl go21 (fun w9 F9 S9 s => sectorsV kd tl nu r w9 (s.row (by repeat (first | exact Sel.keep | exact Sel.here | apply Sel.there))))) ?_
          rintro _ _ ⟨rfl, rfl⟩
          refine ⟨⟨.inl (by decide +kernel), ⟨.inl (by decide +kernel), ⟨.inl (by decide +kernel), ⟨.inl (by decide +kernel), ⟨.inl (by decide +kernel), trivial⟩⟩⟩⟩⟩, ?_⟩
          refine SW.pure rfl rfl rfl rfl (fun w9 => R.eqI rfl rfl) ?_
          first | refine SW.pure rfl rfl rfl rfl (fun w9 => R.pickT rfl rfl) ?_ | refine SW.pure rfl rfl rfl rfl (fun w9 => R.pickF rfl rfl) ?_
          refine SW.pure rfl rfl rfl rfl (fun w9 => R.mv rfl) ?_
          refine SW.isT 60 rfl (by simp) ?_
          refine SW.read rfl rfl rfl rfl (fun w9 F9 S9 s => R.ldBN rfl (s.cel (by repeat (first | exact SelB.blk | exact SelB.fz | apply SelB.there))) (by rfl)) ?_
          refine SW.read rfl rfl rfl rfl (fun w9 F9 S9 s => R.ldBN rfl (s.cel (by repeat (first | exact SelB.blk | exact SelB.fz | apply SelB.there))) (by rfl)) ?_
          refine SW.read rfl rfl rfl rfl (fun w9 F9 S9 s => R.ldBN rfl (s.cel (by repeat (first | exact SelB.blk | exact SelB.fz | apply SelB.there))) (by rfl)) ?_
          refine SW.read rfl rfl rfl rfl (fun w9 F9 S9 s => R.ldBN rfl (s.cel (by repeat (first | exact SelB.blk | exact SelB.fz | apply SelB.there))) (by rfl)) ?_
          refine SW.step rfl rfl rfl rfl (CS.callR rfl go22 (fun w9 F9 S9 s => rsame_ok kd tl nu kd2 tl2 nu2 r r2 w9 (s.row (by repeat (first | exact Sel.keep | exact Sel.here | apply Sel.there))) (s.row (by repeat (first | exact Sel.keep | exact Sel.here | apply Sel.there))))) ?_
          rintro _ _ ⟨rfl, rfl⟩
          refine ⟨⟨.inr (fun w9 F9 S9 s => R.ldBN rfl (s.cel (by repeat (first | exact SelB.blk | exact SelB.fz | apply SelB.there))) (by rfl)), ⟨.inr (fun w9 F9 S9 s => R.ldBN rfl (s.cel (by repeat (first | exact SelB.blk | exact SelB.fz | apply SelB.there))) (by rfl)), ⟨.inl (by decide +kernel), ⟨.inl (by decide +kernel), ⟨.inl (by decide +kernel), ⟨.inl (by decide +kernel), ⟨.inl (by decide +kernel), ⟨.inl (by decide +kernel), ⟨.inl (by decide +kernel), trivial⟩⟩⟩⟩⟩⟩⟩⟩⟩, ?_⟩
          refine SW.step rfl rfl rfl rfl (CS.callR rfl go23 (fun w9 F9 S9 s => refsame_ok kd tl nu kd2 tl2 nu2 r r2 w9 (s.row (by repeat (first | exact Sel.keep | exact Sel.here | apply Sel.there))) (s.row (by repeat (first | exact Sel.keep | exact Sel.here | apply Sel.there))))) ?_
          rintro _ _ ⟨rfl, rfl⟩
          refine ⟨⟨.inl (by decide +kernel), ⟨.inl (by decide +kernel), ⟨.inl (by decide +kernel), ⟨.inl (by decide +kernel), ⟨.inl (by decide +kernel), ⟨.inl (by decide +kernel), ⟨.inl (by decide +kernel), ⟨.inl (by decide +kernel), ⟨.inl (by decide +kernel), trivial⟩⟩⟩⟩⟩⟩⟩⟩⟩, ?_⟩
          refine SW.pure rfl rfl rfl rfl (fun w9 => R.eqB rfl rfl) ?_
          first | refine SW.pure rfl rfl rfl rfl (fun w9 => R.pickT rfl rfl) ?_ | refine SW.pure rfl rfl rfl rfl (fun w9 => R.pickF rfl rfl) ?_
          refine SW.pure rfl rfl rfl rfl (fun w9 => R.mv rfl) ?_
          refine SW.isT 69 rfl (by simp) ?_
          refine SW.read rfl rfl rfl rfl (fun w9 F9 S9 s => R.ldBN rfl (s.cel (by repeat (first | exact SelB.blk | exact SelB.fz | apply SelB.there))) (by rfl)) ?_
          refine SW.read rfl rfl rfl rfl (fun w9 F9 S9 s => R.ldBN rfl (s.cel (by repeat (first | exact SelB.blk | exact SelB.fz | apply SelB.there))) (by rfl)) ?_
          refine SW.step rfl rfl rfl rfl (CS.callR rfl go23 (fun w9 F9 S9 s => refsame_ok _ _ _ _ _ _ rx ry w9 (s.row (by repeat (first | exact Sel.keep | exact Sel.here | apply Sel.there))) (s.row (by repeat (first | exact Sel.keep | exact Sel.here | apply Sel.there))))) ?_
          rintro _ _ ⟨rfl, rfl⟩
          refine ⟨⟨.inl (by decide +kernel), ⟨.inl (by decide +kernel), ⟨.inl (by decide +kernel), ⟨.inl (by decide +kernel), ⟨.inl (by decide +kernel), ⟨.inl (by decide +kernel), ⟨.inl (by decide +kernel), ⟨.inl (by decide +kernel), ⟨.inl (by decide +kernel), ⟨.inl (by decide +kernel), ⟨.inl (by decide +kernel), trivial⟩⟩⟩⟩⟩⟩⟩⟩⟩⟩⟩, ?_⟩
          first | refine SW.pure rfl rfl rfl rfl (fun w9 => R.pickT rfl rfl) ?_ | refine SW.pure rfl rfl rfl rfl (fun w9 => R.pickF rfl rfl) ?_
          refine SW.pure rfl rfl rfl rfl (fun w9 => R.mv rfl) ?_
          refine SW.isT 74 rfl (by simp [hrx, hry]) ?_
          refine SW.pure rfl rfl rfl rfl (fun w9 => R.mv rfl) ?_
          refine SW.pure rfl rfl rfl rfl (fun w9 => R.eqI rfl rfl) ?_
          refine SW.pure rfl rfl rfl rfl (fun w9 => R.mv rfl) ?_
          refine SW.pure rfl rfl rfl rfl (fun w9 => R.eqB rfl rfl) ?_
          first | refine SW.pure rfl rfl rfl rfl (fun w9 => R.pickT rfl rfl) ?_ | refine SW.pure rfl rfl rfl rfl (fun w9 => R.pickF rfl rfl) ?_
          refine SW.pure rfl rfl rfl rfl (fun w9 => R.mv rfl) ?_
          refine SW.isT 80 rfl (by cases (getR l).isSome <;> decide) ?_
          refine SW.pure rfl rfl rfl rfl (fun w9 => R.mv rfl) ?_
          refine SW.pure rfl rfl rfl rfl (fun w9 => R.mv rfl) ?_
          refine SW.caseB 82 rfl (fun hg10_40 => ?_) (fun hg10_40 => ?_)
          · refine SW.pass (hd := rfl) rfl rfl rfl ?_
            refine SW.pass (hd := rfl) rfl rfl rfl ?_
            first | refine SW.pure rfl rfl rfl rfl (fun w9 => R.pickT rfl rfl) ?_ | refine SW.pure rfl rfl rfl rfl (fun w9 => R.pickF rfl rfl) ?_
            first | refine SW.pure rfl rfl rfl rfl (fun w9 => R.pickT rfl rfl) ?_ | refine SW.pure rfl rfl rfl rfl (fun w9 => R.pickF rfl rfl) ?_
            refine SW.pure rfl rfl rfl rfl (fun w9 => R.as rfl) ?_
            refine SW.nil ?_
            refine SN.seq ?_
            exact SG.ret1 rfl rfl ((Imp.sels (by repeat (first | exact Sels.nil | apply Sels.cons | exact Sel.keep | exact Sel.here | apply Sel.there)))) (rfl)
          · refine SW.pure rfl rfl rfl rfl (fun w9 => R.mv rfl) ?_
            refine SW.pure rfl rfl rfl rfl (fun w9 => R.eqI rfl rfl) ?_
            first | refine SW.pure rfl rfl rfl rfl (fun w9 => R.pickT rfl rfl) ?_ | refine SW.pure rfl rfl rfl rfl (fun w9 => R.pickF rfl rfl) ?_
            first | refine SW.pure rfl rfl rfl rfl (fun w9 => R.pickT rfl rfl) ?_ | refine SW.pure rfl rfl rfl rfl (fun w9 => R.pickF rfl rfl) ?_
            refine SW.pure rfl rfl rfl rfl (fun w9 => R.as rfl) ?_
            refine SW.nil ?_
            refine SN.seq ?_
            exact SG.ret1 rfl rfl ((Imp.sels (by repeat (first | exact Sels.nil | apply Sels.cons | exact Sel.keep | exact Sel.here | apply Sel.there)))) (congrArg Value.bool (by rw [hg10_40]; decide))

end Go.Proofs.Ytiiiplhfgblamaa
/-
  Records among the arguments.
-/
set_option linter.unusedVariables false
namespace Go.Proofs.Ytiiiplhfgblamaa
open Go Brv
structure RecordV where
  mk ::
  (Kind' : Int)
  (Timeline' : Int)
  (Number' : Int)
  (Writes'a : Option Addr) (Writes'n Writes'c : Nat) (Writes' : List WriteV)
def RecordV.cells (o : RecordV) : List Value := [.int .i64 o.Kind', .int .i64 o.Timeline', .int .i64 o.Number', .slice o.Writes'a o.Writes'n o.Writes'c]
def RecordV.ok (w : World) (o : RecordV) : Prop := (Lit.int .i64 o.Kind').wf = true ∧ (Lit.int .i64 o.Timeline').wf = true ∧ (Lit.int .i64 o.Number').wf = true ∧ (o.Writes'n ≤ o.Writes'c ∧ o.Writes'c * 32 ≤ 140737488351232 ∧ Tab w o.Writes'a o.Writes'n 2 (o.Writes'.map WriteV.cells) ∧ ∀ x ∈ o.Writes', x.ok w)
theorem RecordV.ok.ext0 {w w' : World} {o : RecordV} (h : o.ok w) (he : Ext [] w w') : o.ok w' := by
  obtain ⟨h0, h1, h2, h3⟩ := h
  exact ⟨h0, h1, h2, ⟨h3.1, h3.2.1, h3.2.2.1.ext0 he, fun x hx => (h3.2.2.2 x hx).ext0 he⟩⟩
theorem RecordV.cells.length (o : RecordV) : o.cells.length = 4 := rfl
theorem RecordV.cells.one (o : RecordV) : ∀ u ∈ o.cells.toArray.toList, u.oneCell' = true := by
  intro u hu
  simp only [RecordV.cells, List.mem_cons, List.not_mem_nil, or_false] at hu
  rcases hu with rfl | rfl | rfl | rfl <;> rfl
set_option maxRecDepth 100000 in
theorem recordV_of {w : World} {f : Nat} {cs : List Value} (h : Rd Try.prog w f 24 cs) : ∃ o : RecordV, cs = o.cells ∧ o.ok w := by
  cases f with
  | zero => exact h.elim
  | succ f =>
    unfold Rd at h
    rw [Try.underlying24] at h
    obtain ⟨hl, hf⟩ := h
    rw [show Try.prog.cellsOf 24 = 4 from by kernel_rfl] at hl
    obtain ⟨v0, v1, v2, v3, rfl⟩ : ∃ v0 v1 v2 v3, cs = [v0, v1, v2, v3] := by
      match cs, hl with
      | [v0, v1, v2, v3], _ => exact ⟨v0, v1, v2, v3, rfl⟩
    have r0 : Rd Try.prog w f 3 (List.take (Try.prog.cellsOf 3) (List.drop 0 [v0, v1, v2, v3])) := hf 0 _ rfl
    rw [show Try.prog.cellsOf 3 = 1 from by kernel_rfl] at r0
    replace r0 : Rd Try.prog w f 3 [v0] := r0
    have r1 : Rd Try.prog w f 3 (List.take (Try.prog.cellsOf 3) (List.drop 1 [v0, v1, v2, v3])) := hf 1 _ rfl
    rw [show Try.prog.cellsOf 3 = 1 from by kernel_rfl] at r1
    replace r1 : Rd Try.prog w f 3 [v1] := r1
    have r2 : Rd Try.prog w f 3 (List.take (Try.prog.cellsOf 3) (List.drop 2 [v0, v1, v2, v3])) := hf 2 _ rfl
    rw [show Try.prog.cellsOf 3 = 1 from by kernel_rfl] at r2
    replace r2 : Rd Try.prog w f 3 [v2] := r2
    have r3 : Rd Try.prog w f 22 (List.take (Try.prog.cellsOf 22) (List.drop 3 [v0, v1, v2, v3])) := hf 3 _ rfl
    rw [show Try.prog.cellsOf 22 = 1 from by kernel_rfl] at r3
    replace r3 : Rd Try.prog w f 22 [v3] := r3
    obtain ⟨x0, e0, w0⟩ := r0.int
    cases e0
    obtain ⟨x1, e1, w1⟩ := r1.int
    cases e1
    obtain ⟨x2, e2, w2⟩ := r2.int
    cases e2
    obtain ⟨a3, n3, c3, l3, e3, z3, y3, b3, q3⟩ := writeV_rows22 r3
    cases e3
    exact ⟨⟨x0, x1, x2, a3, n3, c3, l3⟩, rfl, ⟨w0, w1, w2, ⟨z3, y3, b3, q3⟩⟩⟩

def RecordV.row (o : RecordV) : RowW := ⟨o.Writes'a, o.Writes'n, o.Writes'c, o.Writes'⟩
theorem RecordV.row_ok {w : World} {o : RecordV} (h : o.ok w) : o.row.ok w := by
  obtain ⟨_, _, _, h1, h2, h3, h4⟩ := h
  exact ⟨⟨h1, by show o.Writes'n ≤ _; omega⟩, h3, fun x hx => (h4 x hx).W⟩
end Go.Proofs.Ytiiiplhfgblamaa
