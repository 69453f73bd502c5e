/-
  The walks of package frame: Spread, Gather.
-/
import Derived.Test.YtjmlcodlnohgdaaFrame3
set_option linter.unusedVariables false
set_option linter.unusedSimpArgs false
namespace Go.Proofs.Ytjmlcodlnohgdaa
open Go Brv Brv.Crc Brv.Pack Brv.Frame
def gC (lsn at' f1 q1 f3 k1 : Int) (fa : Option Addr) (fn fc : Nat) (ab : Option Addr) (nb cb : Nat) : Array Value := #[.int .i64 lsn, .int .i64 at', .int .i64 f1, .int .i64 q1, .int .i64 f3, .int .i64 k1, .slice fa fn fc, .int .i64 0, .int .i64 0, .int .i64 0, .int .i64 0, .slice none 0 0, .slice ab nb cb]

theorem take_g_ok (x : Nat) (lsn : Int) (k : Nat) (f1 q1 f3 k1 : Int) (fa : Option Addr) (fn fc : Nat) (ab : Option Addr) (nb cb : Nat) (body : List UInt8) (MB : List Nat) (a : Option Addr) (n c : Nat) (l : List UInt8) (w : World) (hx : Blk w x (gC lsn k f1 q1 f3 k1 fa fn fc ab nb cb) 156 (0, 0)) (ho : Own w 5 1 ab nb cb (vbs body) MB) (hxM : x ∉ MB) (hb : Bs w a n l) (hc : n ≤ c) (hn : n ≤ 70368744177664) (hlsn : 0 ≤ lsn ∧ lsn ≤ 4611686018427387903) (hk : k ≤ 70000) (hbl : body.length ≤ 4000000) : Meets Try.prog 108 [.pointer (some ⟨x, 0, none⟩), .slice a n c] w (fun v w' => v = .int .i64 (takeE lsn k q1 k1 l) ∧ Ext (x :: MB) w w' ∧ (takeE lsn k q1 k1 l = 0 → ∃ f1 f3 fa fn fc ab nb cb MB', Blk w' x (gC lsn (((k + 1 : Nat) : Int)) f1 (qG k q1 (getF l).1) f3 (kG k k1 (getF l).1) fa fn fc ab nb cb) 156 (0, 0) ∧ Own w' 5 1 ab nb cb (vbs (body ++ (getF l).1.2.2.2.2)) MB' ∧ x ∉ MB' ∧ (∀ g ∈ MB', g ∈ MB ∨ w.heap.size ≤ g) ∧ nb = (body ++ (getF l).1.2.2.2.2).length)) := by
  refine Meets.enter Try.func108 rfl 109 rfl (Nat.le_of_ble_eq_true rfl) ?_
  have E := Ext.refl [] w
  replace E : Ext (x :: MB) w w := Ext.refl _ _
  have hl := hb.len
  have hxl := hx.lt
  refine G.seq ?_
  refine G.region ?_
  refine L.val rfl rfl (R.as rfl) ?_
  refine L.nil ?_
  refine N.seq ?_
  refine G.seq ?_
  refine G.region ?_
  refine L.val rfl rfl (R.mv rfl) ?_
  refine L.callF rfl rfl rfl go63 (fget_ok _ _ _ _ _ hb hc hn) ?_
  rintro _ w1 ⟨a1, c1, rfl, e1, hb1, hc1, hfr⟩
  obtain ⟨f, hf⟩ : ∃ f, f = (getF l).1 := ⟨_, rfl⟩
  obtain ⟨er, her⟩ : ∃ er, er = (getF l).2 := ⟨_, rfl⟩
  rw [← hf] at hb1 hc1 ⊢
  rw [← her]
  replace E := E.trans0 e1
  replace hx := hx.ext0 e1
  replace ho := ho.ext0 e1
  have hML : ∀ g ∈ MB, g < w1.heap.size := ho.lt
  have hx1 := hx.lt
  have hpx : ∀ p, a1 = some p → p.block ≠ x := fun p hp hh => by have := (hfr p hp).1; omega
  refine L.val rfl rfl (R.mv rfl) ?_
  refine L.val rfl rfl (R.ext rfl rfl) ?_
  refine L.val rfl rfl (R.ext rfl rfl) ?_
  refine L.do rfl rfl (R.alloc) ?_
  rintro _ w2 ⟨b5, rfl, hb5, hs5, e2, B5⟩
  have hE1 := E.size
  replace E := E.trans0 e2
  replace hb1 := hb1.ext0 e2
  replace hx := hx.ext0 e2
  replace ho := ho.ext0 e2
  have hp5 : ∀ p, a1 = some p → p.block ≠ b5 := fun p hp hh => by have := (hfr p hp).2; omega
  refine L.set rfl (R.stN rfl rfl B5 rfl (Nat.le_refl 5) (by intro u hu; simp only [frC, List.mem_cons, List.not_mem_nil, or_false] at hu; rcases hu with rfl | rfl | rfl | rfl | rfl <;> rfl)) ?_
  rintro w3 ⟨e3, hs3, B5⟩
  replace B5 : Blk w3 b5 (frC f a1 c1) 98 (0, 0) := B5
  have hgb : ∀ g ∈ MB, g ≠ b5 := fun g hg h => by have := hML g hg; omega
  replace hx := hx.ext e3 (by simp; omega)
  replace ho := ho.ext e3 (fun g hg hh => hgb g hg (List.mem_singleton.1 hh))
  replace E := E.transN e3 (by intro g hg; rw [List.mem_singleton.1 hg]; exact .inr (by omega))
  replace hb1 := hb1.ext e3 (by intro p hp hh; exact hp5 p hp (List.mem_singleton.1 hh))
  refine L.val rfl rfl (R.as rfl) ?_
  refine L.nil ?_
  refine N.seq ?_
  refine G.seq ?_
  refine G.seq ?_
  refine G.region ?_
  refine L.val rfl rfl (R.mv rfl) ?_
  refine L.val rfl rfl (R.neI rfl rfl) ?_
  refine L.nil ?_
  refine N.seq ?_
  refine G.condP rfl (fun h0 => ?_) (fun h0 => ?_)
  · have hne : (getF l).2 ≠ 0 := by rw [← her]; exact h0
    refine G.seq ?_
    refine G.region ?_
    refine L.val rfl rfl (R.mv rfl) ?_
    refine L.val rfl rfl (R.as rfl) ?_
    refine L.nil ?_
    refine N.seq ?_
    refine G.ret1 rfl rfl ?_
    first
      | (rw [takeE_err hne, her]; exact ⟨rfl, E, fun h => absurd h hne⟩)
      | (rw [takeE_bad he0 (by rw [← hf]; exact hbad)]; exact ⟨rfl, E, fun h => by cases h⟩)
      | (rw [takeE_ok he0 (by rw [← hf]; exact hgood)]; exact ⟨rfl, E, fun _ => ⟨f1, f3, fa, fn, fc, ab2, nb2, cb2, MB2, r1, r2, r3, r4, r5⟩⟩)
  · have he0 : (getF l).2 = 0 := by rw [← her]; exact Classical.not_not.1 h0
    have hov := (getF_ok he0).1
    rw [← hf] at hov
    obtain ⟨⟨v1, v2⟩, ⟨v3, v4⟩, ⟨v5, v6⟩, ⟨v7, v8⟩, v9⟩ := hov
    refine G.skip ?_
    refine N.seq ?_
    refine G.seq ?_
    refine G.seq ?_
    refine G.region ?_
    refine L.val rfl rfl (R.mv rfl) ?_
    refine L.val rfl rfl (R.nilChk rfl) ?_
    refine L.val rfl rfl (R.fld rfl) ?_
    refine L.val rfl rfl (R.ldB rfl hx rfl) ?_
    refine L.val rfl rfl (R.eqI rfl rfl) ?_
    refine L.nil ?_
    refine N.seq ?_
    refine G.cut (X := Int × Int × Option Addr × Nat × Nat) (fun y => [(0, .pointer (some ⟨x, 0, none⟩)), (5, .pointer (some ⟨b5, 0, none⟩))]) (fun y w' => Blk w' x (gC lsn ((k : Int)) y.1 (qG k q1 f) y.2.1 (kG k k1 f) y.2.2.1 y.2.2.2.1 y.2.2.2.2 ab nb cb) 156 (0, 0) ∧ Own w' 5 1 ab nb cb (vbs body) MB ∧ Blk w' b5 (frC f a1 c1) 98 (0, 0) ∧ Bs w' a1 f.2.2.2.2.length f.2.2.2.2 ∧ Ext (x :: MB) w w') ?_ ?_
    · refine G.condP rfl (fun h1 => ?_) (fun h1 => ?_)
      · have hk0 : k = 0 := by omega
        have hqg : qG k q1 f = f.2.1 := if_pos hk0
        have hkg : kG k k1 f = f.2.2.2.1 := if_pos hk0
        refine G.region ?_
        refine L.val rfl rfl (R.mv rfl) ?_
        refine L.val rfl rfl (R.ldBN rfl B5 rfl) ?_
        refine L.val rfl rfl (R.nilChk rfl) ?_
        refine L.val rfl rfl (R.fld rfl) ?_
        refine L.set rfl (R.stN rfl rfl hx rfl (by show 2 + 5 ≤ 13; decide) (by intro u hu; simp only [frC, List.mem_cons, List.not_mem_nil, or_false] at hu; rcases hu with rfl | rfl | rfl | rfl | rfl <;> rfl)) ?_
        rintro w4 ⟨e4, hs4, hx⟩
        replace hx : Blk w4 x (gC lsn ((k : Int)) f.1 (qG k q1 f) f.2.2.1 (kG k k1 f) a1 f.2.2.2.2.length c1 ab nb cb) 156 (0, 0) := by rw [hqg, hkg]; exact hx
        replace B5 := B5.ext e4 (by simp; omega)
        replace ho := ho.ext e4 (fun g hg hh => hxM (by rw [← List.mem_singleton.1 hh]; exact hg))
        replace hb1 := hb1.ext e4 (by intro p hp hh; exact hpx p hp (List.mem_singleton.1 hh))
        replace E := E.transN e4 (by intro g hg; rw [List.mem_singleton.1 hg]; exact .inl (by simp))
        refine L.nil ?_
        exact N.handX (X := Int × Int × Option Addr × Nat × Nat) (f.1, f.2.2.1, a1, f.2.2.2.2.length, c1) (Sub.cons rfl (Sub.cons rfl (Sub.nil _))) ⟨hx, ho, B5, hb1, E⟩
      · have hk0 : k ≠ 0 := by omega
        have hqg : qG k q1 f = q1 := if_neg hk0
        have hkg : kG k k1 f = k1 := if_neg hk0
        rw [← hqg, ← hkg] at hx
        refine G.skip ?_
        exact N.handX (X := Int × Int × Option Addr × Nat × Nat) (f1, f3, fa, fn, fc) (Sub.cons rfl (Sub.cons rfl (Sub.nil _))) ⟨hx, ho, B5, hb1, E⟩
    · rintro ⟨f1, f3, fa, fn, fc⟩ w5 ⟨hx, ho, B5, hb1, E⟩
      replace hx : Blk w5 x (gC lsn ((k : Int)) f1 (qG k q1 f) f3 (kG k k1 f) fa fn fc ab nb cb) 156 (0, 0) := hx
      have hx5 := hx.lt
      refine N.seq ?_
      refine G.seq ?_
      refine G.region ?_
      refine L.val rfl rfl (R.fld rfl) ?_
      refine L.val rfl rfl (R.ldB rfl B5 rfl) ?_
      refine L.val rfl rfl (R.add rfl rfl (by omega)) ?_
      refine L.val rfl rfl (R.fld rfl) ?_
      refine L.val rfl rfl (R.ldB rfl B5 rfl) ?_
      refine L.val rfl rfl (R.lss rfl rfl) ?_
      refine L.val rfl rfl (R.mv rfl) ?_
      refine L.caseP 31 rfl (fun hg6_6 => ?_) (fun hg6_6 => ?_)
      · refine L.val rfl rfl (R.fld rfl) ?_
        refine L.val rfl rfl (R.ldB rfl B5 rfl) ?_
        refine L.val rfl rfl (R.lenS rfl) ?_
        refine L.val rfl rfl (R.lss rfl rfl) ?_
        first | refine L.val rfl rfl (R.pickT rfl rfl) ?_ | refine L.val rfl rfl (R.pickF rfl rfl) ?_
        refine L.val rfl rfl (R.mv rfl) ?_
        refine L.caseP 37 rfl (fun hg6_12 => ?_) (fun hg6_12 => ?_)
        · refine L.pass rfl rfl ?_
          refine L.pass rfl rfl ?_
          refine L.pass rfl rfl ?_
          refine L.pass rfl rfl ?_
          refine L.pass rfl rfl ?_
          refine L.pass rfl rfl ?_
          refine L.pass rfl rfl ?_
          refine L.pass rfl rfl ?_
          refine L.pass rfl rfl ?_
          first | refine L.val rfl rfl (R.pickT rfl rfl) ?_ | refine L.val rfl rfl (R.pickF rfl rfl) ?_
          refine L.val rfl rfl (R.as rfl) ?_
          refine L.nil ?_
          refine N.seq ?_
          refine G.seq ?_
          refine G.seq ?_
          refine G.quiet (by decide +kernel) rfl ?_
          refine Q.val rfl rfl rfl rfl (fun w6 hE => R.mv rfl) ?_
          refine Q.val rfl rfl rfl rfl (fun w6 hE => R.mv rfl) ?_
          refine Q.pass rfl rfl rfl ?_
          refine Q.pass rfl rfl rfl ?_
          refine Q.pass rfl rfl rfl ?_
          refine Q.pass rfl rfl rfl ?_
          refine Q.pass rfl rfl rfl ?_
          refine Q.pass rfl rfl rfl ?_
          refine Q.pass rfl rfl rfl ?_
          refine Q.pass rfl rfl rfl ?_
          refine Q.pass rfl rfl rfl ?_
          refine Q.pass rfl rfl rfl ?_
          refine Q.pass rfl rfl rfl ?_
          refine Q.pass rfl rfl rfl ?_
          first | refine Q.val rfl rfl rfl rfl (fun w6 hE => R.pickT rfl rfl) ?_ | refine Q.val rfl rfl rfl rfl (fun w6 hE => R.pickF rfl rfl) ?_
          refine Q.val rfl rfl rfl rfl (fun w6 hE => R.mv rfl) ?_
          refine Q.pass rfl rfl rfl ?_
          refine Q.pass rfl rfl rfl ?_
          refine Q.pass rfl rfl rfl ?_
          refine Q.pass rfl rfl rfl ?_
          refine Q.pass rfl rfl rfl ?_
          refine Q.pass rfl rfl rfl ?_
          refine Q.pass rfl rfl rfl ?_
          first | refine Q.val rfl rfl rfl rfl (fun w6 hE => R.pickT rfl rfl) ?_ | refine Q.val rfl rfl rfl rfl (fun w6 hE => R.pickF rfl rfl) ?_
          refine Q.val rfl rfl rfl rfl (fun w6 hE => R.mv rfl) ?_
          refine Q.pass rfl rfl rfl ?_
          refine Q.pass rfl rfl rfl ?_
          refine Q.pass rfl rfl rfl ?_
          refine Q.pass rfl rfl rfl ?_
          refine Q.pass rfl rfl rfl ?_
          refine Q.pass rfl rfl rfl ?_
          refine Q.pass rfl rfl rfl ?_
          refine Q.pass rfl rfl rfl ?_
          first | refine Q.val rfl rfl rfl rfl (fun w6 hE => R.pickT rfl rfl) ?_ | refine Q.val rfl rfl rfl rfl (fun w6 hE => R.pickF rfl rfl) ?_
          refine Q.val rfl rfl rfl rfl (fun w6 hE => R.mv rfl) ?_
          refine Q.pass rfl rfl rfl ?_
          refine Q.pass rfl rfl rfl ?_
          refine Q.pass rfl rfl rfl ?_
          refine Q.pass rfl rfl rfl ?_
          refine Q.pass rfl rfl rfl ?_
          refine Q.pass rfl rfl rfl ?_
          refine Q.pass rfl rfl rfl ?_
          refine Q.pass rfl rfl rfl ?_
          first | refine Q.val rfl rfl rfl rfl (fun w6 hE => R.pickT rfl rfl) ?_ | refine Q.val rfl rfl rfl rfl (fun w6 hE => R.pickF rfl rfl) ?_
          refine Q.nil (fun w6 e6 => ?_)
          replace E := E.trans0 e6
          have hx := hx.ext0 e6
          have ho := ho.ext0 e6
          have B5 := B5.ext0 e6
          have hb1 := hb1.ext0 e6
          refine N.seq ?_
          refine G.condT rfl ?_
          have hbad : badG lsn k (qG k q1 f) (kG k k1 f) f := by unfold badG; omega
          refine G.seq ?_
          refine G.region ?_
          refine L.val rfl rfl (R.as rfl) ?_
          refine L.nil ?_
          refine N.seq ?_
          refine G.ret1 rfl rfl ?_
          first
            | (rw [takeE_err hne, her]; exact ⟨rfl, E, fun h => absurd h hne⟩)
            | (rw [takeE_bad he0 (by rw [← hf]; exact hbad)]; exact ⟨rfl, E, fun h => by cases h⟩)
            | (rw [takeE_ok he0 (by rw [← hf]; exact hgood)]; exact ⟨rfl, E, fun _ => ⟨f1, f3, fa, fn, fc, ab2, nb2, cb2, MB2, r1, r2, r3, r4, r5⟩⟩)
        · refine L.val rfl rfl (R.fld rfl) ?_
          refine L.val rfl rfl (R.ldB rfl B5 rfl) ?_
          refine L.val rfl rfl (R.gtr rfl rfl) ?_
          refine L.val rfl rfl (R.mv rfl) ?_
          refine L.caseP 41 rfl (fun hg6_16 => ?_) (fun hg6_16 => ?_)
          · refine L.val rfl rfl (R.fld rfl) ?_
            refine L.val rfl rfl (R.ldB rfl B5 rfl) ?_
            refine L.val rfl rfl (R.lenS rfl) ?_
            refine L.val rfl rfl (R.eqI rfl rfl) ?_
            first | refine L.val rfl rfl (R.pickT rfl rfl) ?_ | refine L.val rfl rfl (R.pickF rfl rfl) ?_
            first | refine L.val rfl rfl (R.pickT rfl rfl) ?_ | refine L.val rfl rfl (R.pickF rfl rfl) ?_
            refine L.val rfl rfl (R.as rfl) ?_
            refine L.nil ?_
            refine N.seq ?_
            refine G.seq ?_
            refine G.seq ?_
            refine G.quiet (by decide +kernel) rfl ?_
            refine Q.val rfl rfl rfl rfl (fun w6 hE => R.mv rfl) ?_
            refine Q.val rfl rfl rfl rfl (fun w6 hE => R.mv rfl) ?_
            refine Q.caseP 49 rfl (fun hg7_1 => ?_) (fun hg7_1 => ?_)
            · refine Q.pass rfl rfl rfl ?_
              refine Q.pass rfl rfl rfl ?_
              refine Q.pass rfl rfl rfl ?_
              refine Q.pass rfl rfl rfl ?_
              refine Q.pass rfl rfl rfl ?_
              refine Q.pass rfl rfl rfl ?_
              refine Q.pass rfl rfl rfl ?_
              refine Q.pass rfl rfl rfl ?_
              refine Q.pass rfl rfl rfl ?_
              refine Q.pass rfl rfl rfl ?_
              refine Q.pass rfl rfl rfl ?_
              refine Q.pass rfl rfl rfl ?_
              first | refine Q.val rfl rfl rfl rfl (fun w6 hE => R.pickT rfl rfl) ?_ | refine Q.val rfl rfl rfl rfl (fun w6 hE => R.pickF rfl rfl) ?_
              refine Q.val rfl rfl rfl rfl (fun w6 hE => R.mv rfl) ?_
              refine Q.pass rfl rfl rfl ?_
              refine Q.pass rfl rfl rfl ?_
              refine Q.pass rfl rfl rfl ?_
              refine Q.pass rfl rfl rfl ?_
              refine Q.pass rfl rfl rfl ?_
              refine Q.pass rfl rfl rfl ?_
              refine Q.pass rfl rfl rfl ?_
              first | refine Q.val rfl rfl rfl rfl (fun w6 hE => R.pickT rfl rfl) ?_ | refine Q.val rfl rfl rfl rfl (fun w6 hE => R.pickF rfl rfl) ?_
              refine Q.val rfl rfl rfl rfl (fun w6 hE => R.mv rfl) ?_
              refine Q.pass rfl rfl rfl ?_
              refine Q.pass rfl rfl rfl ?_
              refine Q.pass rfl rfl rfl ?_
              refine Q.pass rfl rfl rfl ?_
              refine Q.pass rfl rfl rfl ?_
              refine Q.pass rfl rfl rfl ?_
              refine Q.pass rfl rfl rfl ?_
              refine Q.pass rfl rfl rfl ?_
              first | refine Q.val rfl rfl rfl rfl (fun w6 hE => R.pickT rfl rfl) ?_ | refine Q.val rfl rfl rfl rfl (fun w6 hE => R.pickF rfl rfl) ?_
              refine Q.val rfl rfl rfl rfl (fun w6 hE => R.mv rfl) ?_
              refine Q.pass rfl rfl rfl ?_
              refine Q.pass rfl rfl rfl ?_
              refine Q.pass rfl rfl rfl ?_
              refine Q.pass rfl rfl rfl ?_
              refine Q.pass rfl rfl rfl ?_
              refine Q.pass rfl rfl rfl ?_
              refine Q.pass rfl rfl rfl ?_
              refine Q.pass rfl rfl rfl ?_
              first | refine Q.val rfl rfl rfl rfl (fun w6 hE => R.pickT rfl rfl) ?_ | refine Q.val rfl rfl rfl rfl (fun w6 hE => R.pickF rfl rfl) ?_
              refine Q.nil (fun w6 e6 => ?_)
              replace E := E.trans0 e6
              have hx := hx.ext0 e6
              have ho := ho.ext0 e6
              have B5 := B5.ext0 e6
              have hb1 := hb1.ext0 e6
              refine N.seq ?_
              refine G.condT rfl ?_
              have hbad : badG lsn k (qG k q1 f) (kG k k1 f) f := by unfold badG; omega
              refine G.seq ?_
              refine G.region ?_
              refine L.val rfl rfl (R.as rfl) ?_
              refine L.nil ?_
              refine N.seq ?_
              refine G.ret1 rfl rfl ?_
              first
                | (rw [takeE_err hne, her]; exact ⟨rfl, E, fun h => absurd h hne⟩)
                | (rw [takeE_bad he0 (by rw [← hf]; exact hbad)]; exact ⟨rfl, E, fun h => by cases h⟩)
                | (rw [takeE_ok he0 (by rw [← hf]; exact hgood)]; exact ⟨rfl, E, fun _ => ⟨f1, f3, fa, fn, fc, ab2, nb2, cb2, MB2, r1, r2, r3, r4, r5⟩⟩)
            · refine Q.val rfl rfl rfl rfl (fun w6 hE => R.fld rfl) ?_
              refine Q.val rfl rfl rfl rfl (fun w6 hE => R.ldB rfl (B5.ext0 hE) rfl) ?_
              refine Q.val rfl rfl rfl rfl (fun w6 hE => R.mv rfl) ?_
              refine Q.val rfl rfl rfl rfl (fun w6 hE => R.nilChk rfl) ?_
              refine Q.val rfl rfl rfl rfl (fun w6 hE => R.fld rfl) ?_
              refine Q.val rfl rfl rfl rfl (fun w6 hE => R.ldB rfl (hx.ext0 hE) rfl) ?_
              refine Q.val rfl rfl rfl rfl (fun w6 hE => R.mv rfl) ?_
              refine Q.val rfl rfl rfl rfl (fun w6 hE => R.nilChk rfl) ?_
              refine Q.val rfl rfl rfl rfl (fun w6 hE => R.fld rfl) ?_
              refine Q.val rfl rfl rfl rfl (fun w6 hE => R.ldB rfl (hx.ext0 hE) rfl) ?_
              refine Q.val rfl rfl rfl rfl (fun w6 hE => R.add rfl rfl (by omega)) ?_
              refine Q.val rfl rfl rfl rfl (fun w6 hE => R.neI rfl rfl) ?_
              first | refine Q.val rfl rfl rfl rfl (fun w6 hE => R.pickT rfl rfl) ?_ | refine Q.val rfl rfl rfl rfl (fun w6 hE => R.pickF rfl rfl) ?_
              refine Q.val rfl rfl rfl rfl (fun w6 hE => R.mv rfl) ?_
              refine Q.caseP 63 rfl (fun hg7_15 => ?_) (fun hg7_15 => ?_)
              · refine Q.pass rfl rfl rfl ?_
                refine Q.pass rfl rfl rfl ?_
                refine Q.pass rfl rfl rfl ?_
                refine Q.pass rfl rfl rfl ?_
                refine Q.pass rfl rfl rfl ?_
                refine Q.pass rfl rfl rfl ?_
                refine Q.pass rfl rfl rfl ?_
                first | refine Q.val rfl rfl rfl rfl (fun w6 hE => R.pickT rfl rfl) ?_ | refine Q.val rfl rfl rfl rfl (fun w6 hE => R.pickF rfl rfl) ?_
                refine Q.val rfl rfl rfl rfl (fun w6 hE => R.mv rfl) ?_
                refine Q.pass rfl rfl rfl ?_
                refine Q.pass rfl rfl rfl ?_
                refine Q.pass rfl rfl rfl ?_
                refine Q.pass rfl rfl rfl ?_
                refine Q.pass rfl rfl rfl ?_
                refine Q.pass rfl rfl rfl ?_
                refine Q.pass rfl rfl rfl ?_
                refine Q.pass rfl rfl rfl ?_
                first | refine Q.val rfl rfl rfl rfl (fun w6 hE => R.pickT rfl rfl) ?_ | refine Q.val rfl rfl rfl rfl (fun w6 hE => R.pickF rfl rfl) ?_
                refine Q.val rfl rfl rfl rfl (fun w6 hE => R.mv rfl) ?_
                refine Q.pass rfl rfl rfl ?_
                refine Q.pass rfl rfl rfl ?_
                refine Q.pass rfl rfl rfl ?_
                refine Q.pass rfl rfl rfl ?_
                refine Q.pass rfl rfl rfl ?_
                refine Q.pass rfl rfl rfl ?_
                refine Q.pass rfl rfl rfl ?_
                refine Q.pass rfl rfl rfl ?_
                first | refine Q.val rfl rfl rfl rfl (fun w6 hE => R.pickT rfl rfl) ?_ | refine Q.val rfl rfl rfl rfl (fun w6 hE => R.pickF rfl rfl) ?_
                refine Q.nil (fun w6 e6 => ?_)
                replace E := E.trans0 e6
                have hx := hx.ext0 e6
                have ho := ho.ext0 e6
                have B5 := B5.ext0 e6
                have hb1 := hb1.ext0 e6
                refine N.seq ?_
                refine G.condT rfl ?_
                have hbad : badG lsn k (qG k q1 f) (kG k k1 f) f := by unfold badG; omega
                refine G.seq ?_
                refine G.region ?_
                refine L.val rfl rfl (R.as rfl) ?_
                refine L.nil ?_
                refine N.seq ?_
                refine G.ret1 rfl rfl ?_
                first
                  | (rw [takeE_err hne, her]; exact ⟨rfl, E, fun h => absurd h hne⟩)
                  | (rw [takeE_bad he0 (by rw [← hf]; exact hbad)]; exact ⟨rfl, E, fun h => by cases h⟩)
                  | (rw [takeE_ok he0 (by rw [← hf]; exact hgood)]; exact ⟨rfl, E, fun _ => ⟨f1, f3, fa, fn, fc, ab2, nb2, cb2, MB2, r1, r2, r3, r4, r5⟩⟩)
              · refine Q.val rfl rfl rfl rfl (fun w6 hE => R.fld rfl) ?_
                refine Q.val rfl rfl rfl rfl (fun w6 hE => R.ldB rfl (B5.ext0 hE) rfl) ?_
                refine Q.val rfl rfl rfl rfl (fun w6 hE => R.mv rfl) ?_
                refine Q.val rfl rfl rfl rfl (fun w6 hE => R.nilChk rfl) ?_
                refine Q.val rfl rfl rfl rfl (fun w6 hE => R.fld rfl) ?_
                refine Q.val rfl rfl rfl rfl (fun w6 hE => R.ldB rfl (hx.ext0 hE) rfl) ?_
                refine Q.val rfl rfl rfl rfl (fun w6 hE => R.neI rfl rfl) ?_
                first | refine Q.val rfl rfl rfl rfl (fun w6 hE => R.pickT rfl rfl) ?_ | refine Q.val rfl rfl rfl rfl (fun w6 hE => R.pickF rfl rfl) ?_
                refine Q.val rfl rfl rfl rfl (fun w6 hE => R.mv rfl) ?_
                refine Q.caseP 72 rfl (fun hg7_24 => ?_) (fun hg7_24 => ?_)
                · refine Q.pass rfl rfl rfl ?_
                  refine Q.pass rfl rfl rfl ?_
                  refine Q.pass rfl rfl rfl ?_
                  refine Q.pass rfl rfl rfl ?_
                  refine Q.pass rfl rfl rfl ?_
                  refine Q.pass rfl rfl rfl ?_
                  refine Q.pass rfl rfl rfl ?_
                  refine Q.pass rfl rfl rfl ?_
                  first | refine Q.val rfl rfl rfl rfl (fun w6 hE => R.pickT rfl rfl) ?_ | refine Q.val rfl rfl rfl rfl (fun w6 hE => R.pickF rfl rfl) ?_
                  refine Q.val rfl rfl rfl rfl (fun w6 hE => R.mv rfl) ?_
                  refine Q.pass rfl rfl rfl ?_
                  refine Q.pass rfl rfl rfl ?_
                  refine Q.pass rfl rfl rfl ?_
                  refine Q.pass rfl rfl rfl ?_
                  refine Q.pass rfl rfl rfl ?_
                  refine Q.pass rfl rfl rfl ?_
                  refine Q.pass rfl rfl rfl ?_
                  refine Q.pass rfl rfl rfl ?_
                  first | refine Q.val rfl rfl rfl rfl (fun w6 hE => R.pickT rfl rfl) ?_ | refine Q.val rfl rfl rfl rfl (fun w6 hE => R.pickF rfl rfl) ?_
                  refine Q.nil (fun w6 e6 => ?_)
                  replace E := E.trans0 e6
                  have hx := hx.ext0 e6
                  have ho := ho.ext0 e6
                  have B5 := B5.ext0 e6
                  have hb1 := hb1.ext0 e6
                  refine N.seq ?_
                  refine G.condT rfl ?_
                  have hbad : badG lsn k (qG k q1 f) (kG k k1 f) f := by unfold badG; omega
                  refine G.seq ?_
                  refine G.region ?_
                  refine L.val rfl rfl (R.as rfl) ?_
                  refine L.nil ?_
                  refine N.seq ?_
                  refine G.ret1 rfl rfl ?_
                  first
                    | (rw [takeE_err hne, her]; exact ⟨rfl, E, fun h => absurd h hne⟩)
                    | (rw [takeE_bad he0 (by rw [← hf]; exact hbad)]; exact ⟨rfl, E, fun h => by cases h⟩)
                    | (rw [takeE_ok he0 (by rw [← hf]; exact hgood)]; exact ⟨rfl, E, fun _ => ⟨f1, f3, fa, fn, fc, ab2, nb2, cb2, MB2, r1, r2, r3, r4, r5⟩⟩)
                · refine Q.val rfl rfl rfl rfl (fun w6 hE => R.fld rfl) ?_
                  refine Q.val rfl rfl rfl rfl (fun w6 hE => R.ldB rfl (B5.ext0 hE) rfl) ?_
                  refine Q.val rfl rfl rfl rfl (fun w6 hE => R.mv rfl) ?_
                  refine Q.val rfl rfl rfl rfl (fun w6 hE => R.nilChk rfl) ?_
                  refine Q.val rfl rfl rfl rfl (fun w6 hE => R.fld rfl) ?_
                  refine Q.val rfl rfl rfl rfl (fun w6 hE => R.fld rfl) ?_
                  refine Q.val rfl rfl rfl rfl (fun w6 hE => R.ldB rfl (hx.ext0 hE) rfl) ?_
                  refine Q.val rfl rfl rfl rfl (fun w6 hE => R.neI rfl rfl) ?_
                  first | refine Q.val rfl rfl rfl rfl (fun w6 hE => R.pickT rfl rfl) ?_ | refine Q.val rfl rfl rfl rfl (fun w6 hE => R.pickF rfl rfl) ?_
                  refine Q.val rfl rfl rfl rfl (fun w6 hE => R.mv rfl) ?_
                  refine Q.caseP 82 rfl (fun hg7_34 => ?_) (fun hg7_34 => ?_)
                  · refine Q.pass rfl rfl rfl ?_
                    refine Q.pass rfl rfl rfl ?_
                    refine Q.pass rfl rfl rfl ?_
                    refine Q.pass rfl rfl rfl ?_
                    refine Q.pass rfl rfl rfl ?_
                    refine Q.pass rfl rfl rfl ?_
                    refine Q.pass rfl rfl rfl ?_
                    refine Q.pass rfl rfl rfl ?_
                    first | refine Q.val rfl rfl rfl rfl (fun w6 hE => R.pickT rfl rfl) ?_ | refine Q.val rfl rfl rfl rfl (fun w6 hE => R.pickF rfl rfl) ?_
                    refine Q.nil (fun w6 e6 => ?_)
                    replace E := E.trans0 e6
                    have hx := hx.ext0 e6
                    have ho := ho.ext0 e6
                    have B5 := B5.ext0 e6
                    have hb1 := hb1.ext0 e6
                    refine N.seq ?_
                    refine G.condT rfl ?_
                    have hbad : badG lsn k (qG k q1 f) (kG k k1 f) f := by unfold badG; omega
                    refine G.seq ?_
                    refine G.region ?_
                    refine L.val rfl rfl (R.as rfl) ?_
                    refine L.nil ?_
                    refine N.seq ?_
                    refine G.ret1 rfl rfl ?_
                    first
                      | (rw [takeE_err hne, her]; exact ⟨rfl, E, fun h => absurd h hne⟩)
                      | (rw [takeE_bad he0 (by rw [← hf]; exact hbad)]; exact ⟨rfl, E, fun h => by cases h⟩)
                      | (rw [takeE_ok he0 (by rw [← hf]; exact hgood)]; exact ⟨rfl, E, fun _ => ⟨f1, f3, fa, fn, fc, ab2, nb2, cb2, MB2, r1, r2, r3, r4, r5⟩⟩)
                  · refine Q.val rfl rfl rfl rfl (fun w6 hE => R.fld rfl) ?_
                    refine Q.val rfl rfl rfl rfl (fun w6 hE => R.ldB rfl (B5.ext0 hE) rfl) ?_
                    refine Q.val rfl rfl rfl rfl (fun w6 hE => R.mv rfl) ?_
                    refine Q.val rfl rfl rfl rfl (fun w6 hE => R.nilChk rfl) ?_
                    refine Q.val rfl rfl rfl rfl (fun w6 hE => R.fld rfl) ?_
                    refine Q.val rfl rfl rfl rfl (fun w6 hE => R.fld rfl) ?_
                    refine Q.val rfl rfl rfl rfl (fun w6 hE => R.ldB rfl (hx.ext0 hE) rfl) ?_
                    refine Q.val rfl rfl rfl rfl (fun w6 hE => R.neI rfl rfl) ?_
                    first | refine Q.val rfl rfl rfl rfl (fun w6 hE => R.pickT rfl rfl) ?_ | refine Q.val rfl rfl rfl rfl (fun w6 hE => R.pickF rfl rfl) ?_
                    refine Q.nil (fun w6 e6 => ?_)
                    replace E := E.trans0 e6
                    have hx := hx.ext0 e6
                    have ho := ho.ext0 e6
                    have B5 := B5.ext0 e6
                    have hb1 := hb1.ext0 e6
                    refine N.seq ?_
                    refine G.condP rfl (fun h2 => ?_) (fun h2 => ?_)
                    · have hbad : badG lsn k (qG k q1 f) (kG k k1 f) f := by unfold badG; omega
                      refine G.seq ?_
                      refine G.region ?_
                      refine L.val rfl rfl (R.as rfl) ?_
                      refine L.nil ?_
                      refine N.seq ?_
                      refine G.ret1 rfl rfl ?_
                      first
                        | (rw [takeE_err hne, her]; exact ⟨rfl, E, fun h => absurd h hne⟩)
                        | (rw [takeE_bad he0 (by rw [← hf]; exact hbad)]; exact ⟨rfl, E, fun h => by cases h⟩)
                        | (rw [takeE_ok he0 (by rw [← hf]; exact hgood)]; exact ⟨rfl, E, fun _ => ⟨f1, f3, fa, fn, fc, ab2, nb2, cb2, MB2, r1, r2, r3, r4, r5⟩⟩)
                    · have hgood : ¬ badG lsn k (qG k q1 f) (kG k k1 f) f := by unfold badG; omega
                      have hE6 := E.size
                      refine G.skip ?_
                      refine N.seq ?_
                      refine G.seq ?_
                      refine G.region ?_
                      refine L.val rfl rfl (R.mv rfl) ?_
                      refine L.val rfl rfl (R.nilChk rfl) ?_
                      refine L.val rfl rfl (R.fld rfl) ?_
                      refine L.val rfl rfl (R.ldB rfl hx rfl) ?_
                      refine L.val rfl rfl (R.add rfl rfl (by omega)) ?_
                      refine L.val rfl rfl (R.nilChk rfl) ?_
                      refine L.val rfl rfl (R.fld rfl) ?_
                      refine L.set rfl (R.st rfl rfl hx (by show 1 < 13; decide) rfl) ?_
                      rintro w8 ⟨e8, hs8, hx⟩
                      replace hx : Blk w8 x (gC lsn (((k + 1 : Nat) : Int)) f1 (qG k q1 f) f3 (kG k k1 f) fa fn fc ab nb cb) 156 (0, 0) := hx
                      replace B5 := B5.ext e8 (by simp; omega)
                      replace ho := ho.ext e8 (fun g hg hh => hxM (by rw [← List.mem_singleton.1 hh]; exact hg))
                      replace hb1 := hb1.ext e8 (by intro p hp hh; exact hpx p hp (List.mem_singleton.1 hh))
                      replace E := E.transN e8 (by intro g hg; rw [List.mem_singleton.1 hg]; exact .inl (by simp))
                      have hxl8 := hx.lt
                      have hE8 := E.size
                      have hlb := hb1.len
                      have ho8 := ho.len
                      rw [vbs_length, Nat.mul_one] at ho8
                      refine L.nil ?_
                      refine N.seq ?_
                      refine G.seq ?_
                      refine G.staged [7, 10] [.blocks (MB), .blocks ([x])] [Ext [] w8, Ext MB w8, fun w' => (∃ ab nb cb MB', Blk w' x (gC lsn (((k + 1 : Nat) : Int)) f1 (qG k q1 f) f3 (kG k k1 f) fa fn fc ab nb cb) 156 (0, 0) ∧ Own w' 5 1 ab nb cb (vbs (body ++ f.2.2.2.2)) MB' ∧ x ∉ MB' ∧ (∀ g ∈ MB', g ∈ MB ∨ w.heap.size ≤ g) ∧ nb = (body ++ f.2.2.2.2).length) ∧ Ext (x :: MB) w8 w'] [(10, 106)] (by decide +kernel) (by decide +kernel) rfl rfl rfl (fun _ h => h) ?_
                      refine Z.val rfl rfl rfl rfl rfl (fun w9 => R.mv rfl) ?_
                      refine Z.val rfl rfl rfl rfl rfl (fun w9 => R.mv rfl) ?_
                      refine Z.val rfl rfl rfl rfl rfl (fun w9 => R.nilChk rfl) ?_
                      refine Z.val rfl rfl rfl rfl rfl (fun w9 => R.fld rfl) ?_
                      refine Z.read 0 (by decide +kernel) rfl rfl rfl rfl rfl rfl (fun w9 hJ => R.ldB rfl (hx.ext0 hJ) rfl) ?_
                      refine Z.val rfl rfl rfl rfl rfl (fun w9 => R.fld rfl) ?_
                      refine Z.read 0 (by decide +kernel) rfl rfl rfl rfl rfl rfl (fun w9 hJ => R.ldB rfl (B5.ext0 hJ) rfl) ?_
                      refine Z.put (A := Held MB w8.heap.size 5 1 (nb + f.2.2.2.2.length) (vbs (body ++ f.2.2.2.2))) (Lasts.kill (Held.keep _ _ _ _ _ _) (by decide +kernel)) 0 (by decide +kernel) rfl rfl rfl rfl rfl rfl rfl (fun w9 hJ => (R.app rfl rfl (ho.ext0 hJ) (hb1.ext0 hJ).cells (by rw [vbs_length, Nat.mul_one]) (vbs_one _) (by simp [maxLen]; omega) (by omega)).mono (fun _ _ h => Held.app h hJ rfl (by simp [vbs]))) ?_
                      refine Z.val rfl rfl rfl rfl rfl (fun w9 => R.nilChk rfl) ?_
                      refine Z.val rfl rfl rfl rfl rfl (fun w9 => R.fld rfl) ?_
                      refine Z.set 1 (by decide +kernel) rfl rfl rfl rfl rfl rfl (fun w9 hJ => fun v hv => (R.st rfl rfl (hx.ext hJ hxM) (by show 12 < 13; decide) (by obtain ⟨_, _, _, rfl, _⟩ := hv; rfl)).mono (fun w' h => ⟨h.1, by obtain ⟨a9, c9, M9, rfl, o9, hM9⟩ := hv; exact ⟨⟨a9, _, c9, M9, h.2.2, o9.ext h.1 (fun g hg hh => (hM9 g hg).elim (fun h' => hxM (by rw [← List.mem_singleton.1 hh]; exact h')) (fun h' => by rw [List.mem_singleton.1 hh] at h'; omega)), fun h' => (hM9 x h').elim hxM (fun h'' => by omega), fun g hg => (hM9 g hg).imp id (Nat.le_trans hE8), by rw [List.length_append, ho8]⟩, (hJ.mono (fun g hg => .inl (by simp [hg]))).transN h.1 (fun g hg => .inl (by simp at hg ⊢; exact .inl hg))⟩⟩)) ?_
                      refine Z.nil rfl rfl (fun w9 hJ => ?_)
                      obtain ⟨⟨ab2, nb2, cb2, MB2, r1, r2, r3, r4, r5⟩, e9⟩ := hJ
                      replace E := E.transN e9 (fun g hg => .inl hg)
                      refine N.seq ?_
                      refine G.seq ?_
                      refine G.region ?_
                      refine L.val rfl rfl (R.as rfl) ?_
                      refine L.nil ?_
                      refine N.seq ?_
                      refine G.ret1 rfl rfl ?_
                      first
                        | (rw [takeE_err hne, her]; exact ⟨rfl, E, fun h => absurd h hne⟩)
                        | (rw [takeE_bad he0 (by rw [← hf]; exact hbad)]; exact ⟨rfl, E, fun h => by cases h⟩)
                        | (rw [takeE_ok he0 (by rw [← hf]; exact hgood)]; exact ⟨rfl, E, fun _ => ⟨f1, f3, fa, fn, fc, ab2, nb2, cb2, MB2, r1, r2, r3, r4, r5⟩⟩)
          · refine L.pass rfl rfl ?_
            refine L.pass rfl rfl ?_
            refine L.pass rfl rfl ?_
            refine L.pass rfl rfl ?_
            first | refine L.val rfl rfl (R.pickT rfl rfl) ?_ | refine L.val rfl rfl (R.pickF rfl rfl) ?_
            first | refine L.val rfl rfl (R.pickT rfl rfl) ?_ | refine L.val rfl rfl (R.pickF rfl rfl) ?_
            refine L.val rfl rfl (R.as rfl) ?_
            refine L.nil ?_
            refine N.seq ?_
            refine G.seq ?_
            refine G.seq ?_
            refine G.quiet (by decide +kernel) rfl ?_
            refine Q.val rfl rfl rfl rfl (fun w6 hE => R.mv rfl) ?_
            refine Q.val rfl rfl rfl rfl (fun w6 hE => R.mv rfl) ?_
            refine Q.val rfl rfl rfl rfl (fun w6 hE => R.fld rfl) ?_
            refine Q.val rfl rfl rfl rfl (fun w6 hE => R.ldB rfl (B5.ext0 hE) rfl) ?_
            refine Q.val rfl rfl rfl rfl (fun w6 hE => R.mv rfl) ?_
            refine Q.val rfl rfl rfl rfl (fun w6 hE => R.nilChk rfl) ?_
            refine Q.val rfl rfl rfl rfl (fun w6 hE => R.fld rfl) ?_
            refine Q.val rfl rfl rfl rfl (fun w6 hE => R.ldB rfl (hx.ext0 hE) rfl) ?_
            refine Q.val rfl rfl rfl rfl (fun w6 hE => R.mv rfl) ?_
            refine Q.val rfl rfl rfl rfl (fun w6 hE => R.nilChk rfl) ?_
            refine Q.val rfl rfl rfl rfl (fun w6 hE => R.fld rfl) ?_
            refine Q.val rfl rfl rfl rfl (fun w6 hE => R.ldB rfl (hx.ext0 hE) rfl) ?_
            refine Q.val rfl rfl rfl rfl (fun w6 hE => R.add rfl rfl (by omega)) ?_
            refine Q.val rfl rfl rfl rfl (fun w6 hE => R.neI rfl rfl) ?_
            first | refine Q.val rfl rfl rfl rfl (fun w6 hE => R.pickT rfl rfl) ?_ | refine Q.val rfl rfl rfl rfl (fun w6 hE => R.pickF rfl rfl) ?_
            refine Q.val rfl rfl rfl rfl (fun w6 hE => R.mv rfl) ?_
            refine Q.caseP 63 rfl (fun hg7_15 => ?_) (fun hg7_15 => ?_)
            · refine Q.pass rfl rfl rfl ?_
              refine Q.pass rfl rfl rfl ?_
              refine Q.pass rfl rfl rfl ?_
              refine Q.pass rfl rfl rfl ?_
              refine Q.pass rfl rfl rfl ?_
              refine Q.pass rfl rfl rfl ?_
              refine Q.pass rfl rfl rfl ?_
              first | refine Q.val rfl rfl rfl rfl (fun w6 hE => R.pickT rfl rfl) ?_ | refine Q.val rfl rfl rfl rfl (fun w6 hE => R.pickF rfl rfl) ?_
              refine Q.val rfl rfl rfl rfl (fun w6 hE => R.mv rfl) ?_
              refine Q.pass rfl rfl rfl ?_
              refine Q.pass rfl rfl rfl ?_
              refine Q.pass rfl rfl rfl ?_
              refine Q.pass rfl rfl rfl ?_
              refine Q.pass rfl rfl rfl ?_
              refine Q.pass rfl rfl rfl ?_
              refine Q.pass rfl rfl rfl ?_
              refine Q.pass rfl rfl rfl ?_
              first | refine Q.val rfl rfl rfl rfl (fun w6 hE => R.pickT rfl rfl) ?_ | refine Q.val rfl rfl rfl rfl (fun w6 hE => R.pickF rfl rfl) ?_
              refine Q.val rfl rfl rfl rfl (fun w6 hE => R.mv rfl) ?_
              refine Q.pass rfl rfl rfl ?_
              refine Q.pass rfl rfl rfl ?_
              refine Q.pass rfl rfl rfl ?_
              refine Q.pass rfl rfl rfl ?_
              refine Q.pass rfl rfl rfl ?_
              refine Q.pass rfl rfl rfl ?_
              refine Q.pass rfl rfl rfl ?_
              refine Q.pass rfl rfl rfl ?_
              first | refine Q.val rfl rfl rfl rfl (fun w6 hE => R.pickT rfl rfl) ?_ | refine Q.val rfl rfl rfl rfl (fun w6 hE => R.pickF rfl rfl) ?_
              refine Q.nil (fun w6 e6 => ?_)
              replace E := E.trans0 e6
              have hx := hx.ext0 e6
              have ho := ho.ext0 e6
              have B5 := B5.ext0 e6
              have hb1 := hb1.ext0 e6
              refine N.seq ?_
              refine G.condT rfl ?_
              have hbad : badG lsn k (qG k q1 f) (kG k k1 f) f := by unfold badG; omega
              refine G.seq ?_
              refine G.region ?_
              refine L.val rfl rfl (R.as rfl) ?_
              refine L.nil ?_
              refine N.seq ?_
              refine G.ret1 rfl rfl ?_
              first
                | (rw [takeE_err hne, her]; exact ⟨rfl, E, fun h => absurd h hne⟩)
                | (rw [takeE_bad he0 (by rw [← hf]; exact hbad)]; exact ⟨rfl, E, fun h => by cases h⟩)
                | (rw [takeE_ok he0 (by rw [← hf]; exact hgood)]; exact ⟨rfl, E, fun _ => ⟨f1, f3, fa, fn, fc, ab2, nb2, cb2, MB2, r1, r2, r3, r4, r5⟩⟩)
            · refine Q.val rfl rfl rfl rfl (fun w6 hE => R.fld rfl) ?_
              refine Q.val rfl rfl rfl rfl (fun w6 hE => R.ldB rfl (B5.ext0 hE) rfl) ?_
              refine Q.val rfl rfl rfl rfl (fun w6 hE => R.mv rfl) ?_
              refine Q.val rfl rfl rfl rfl (fun w6 hE => R.nilChk rfl) ?_
              refine Q.val rfl rfl rfl rfl (fun w6 hE => R.fld rfl) ?_
              refine Q.val rfl rfl rfl rfl (fun w6 hE => R.ldB rfl (hx.ext0 hE) rfl) ?_
              refine Q.val rfl rfl rfl rfl (fun w6 hE => R.neI rfl rfl) ?_
              first | refine Q.val rfl rfl rfl rfl (fun w6 hE => R.pickT rfl rfl) ?_ | refine Q.val rfl rfl rfl rfl (fun w6 hE => R.pickF rfl rfl) ?_
              refine Q.val rfl rfl rfl rfl (fun w6 hE => R.mv rfl) ?_
              refine Q.caseP 72 rfl (fun hg7_24 => ?_) (fun hg7_24 => ?_)
              · refine Q.pass rfl rfl rfl ?_
                refine Q.pass rfl rfl rfl ?_
                refine Q.pass rfl rfl rfl ?_
                refine Q.pass rfl rfl rfl ?_
                refine Q.pass rfl rfl rfl ?_
                refine Q.pass rfl rfl rfl ?_
                refine Q.pass rfl rfl rfl ?_
                refine Q.pass rfl rfl rfl ?_
                first | refine Q.val rfl rfl rfl rfl (fun w6 hE => R.pickT rfl rfl) ?_ | refine Q.val rfl rfl rfl rfl (fun w6 hE => R.pickF rfl rfl) ?_
                refine Q.val rfl rfl rfl rfl (fun w6 hE => R.mv rfl) ?_
                refine Q.pass rfl rfl rfl ?_
                refine Q.pass rfl rfl rfl ?_
                refine Q.pass rfl rfl rfl ?_
                refine Q.pass rfl rfl rfl ?_
                refine Q.pass rfl rfl rfl ?_
                refine Q.pass rfl rfl rfl ?_
                refine Q.pass rfl rfl rfl ?_
                refine Q.pass rfl rfl rfl ?_
                first | refine Q.val rfl rfl rfl rfl (fun w6 hE => R.pickT rfl rfl) ?_ | refine Q.val rfl rfl rfl rfl (fun w6 hE => R.pickF rfl rfl) ?_
                refine Q.nil (fun w6 e6 => ?_)
                replace E := E.trans0 e6
                have hx := hx.ext0 e6
                have ho := ho.ext0 e6
                have B5 := B5.ext0 e6
                have hb1 := hb1.ext0 e6
                refine N.seq ?_
                refine G.condT rfl ?_
                have hbad : badG lsn k (qG k q1 f) (kG k k1 f) f := by unfold badG; omega
                refine G.seq ?_
                refine G.region ?_
                refine L.val rfl rfl (R.as rfl) ?_
                refine L.nil ?_
                refine N.seq ?_
                refine G.ret1 rfl rfl ?_
                first
                  | (rw [takeE_err hne, her]; exact ⟨rfl, E, fun h => absurd h hne⟩)
                  | (rw [takeE_bad he0 (by rw [← hf]; exact hbad)]; exact ⟨rfl, E, fun h => by cases h⟩)
                  | (rw [takeE_ok he0 (by rw [← hf]; exact hgood)]; exact ⟨rfl, E, fun _ => ⟨f1, f3, fa, fn, fc, ab2, nb2, cb2, MB2, r1, r2, r3, r4, r5⟩⟩)
              · refine Q.val rfl rfl rfl rfl (fun w6 hE => R.fld rfl) ?_
                refine Q.val rfl rfl rfl rfl (fun w6 hE => R.ldB rfl (B5.ext0 hE) rfl) ?_
                refine Q.val rfl rfl rfl rfl (fun w6 hE => R.mv rfl) ?_
                refine Q.val rfl rfl rfl rfl (fun w6 hE => R.nilChk rfl) ?_
                refine Q.val rfl rfl rfl rfl (fun w6 hE => R.fld rfl) ?_
                refine Q.val rfl rfl rfl rfl (fun w6 hE => R.fld rfl) ?_
                refine Q.val rfl rfl rfl rfl (fun w6 hE => R.ldB rfl (hx.ext0 hE) rfl) ?_
                refine Q.val rfl rfl rfl rfl (fun w6 hE => R.neI rfl rfl) ?_
                first | refine Q.val rfl rfl rfl rfl (fun w6 hE => R.pickT rfl rfl) ?_ | refine Q.val rfl rfl rfl rfl (fun w6 hE => R.pickF rfl rfl) ?_
                refine Q.val rfl rfl rfl rfl (fun w6 hE => R.mv rfl) ?_
                refine Q.caseP 82 rfl (fun hg7_34 => ?_) (fun hg7_34 => ?_)
                · refine Q.pass rfl rfl rfl ?_
                  refine Q.pass rfl rfl rfl ?_
                  refine Q.pass rfl rfl rfl ?_
                  refine Q.pass rfl rfl rfl ?_
                  refine Q.pass rfl rfl rfl ?_
                  refine Q.pass rfl rfl rfl ?_
                  refine Q.pass rfl rfl rfl ?_
                  refine Q.pass rfl rfl rfl ?_
                  first | refine Q.val rfl rfl rfl rfl (fun w6 hE => R.pickT rfl rfl) ?_ | refine Q.val rfl rfl rfl rfl (fun w6 hE => R.pickF rfl rfl) ?_
                  refine Q.nil (fun w6 e6 => ?_)
                  replace E := E.trans0 e6
                  have hx := hx.ext0 e6
                  have ho := ho.ext0 e6
                  have B5 := B5.ext0 e6
                  have hb1 := hb1.ext0 e6
                  refine N.seq ?_
                  refine G.condT rfl ?_
                  have hbad : badG lsn k (qG k q1 f) (kG k k1 f) f := by unfold badG; omega
                  refine G.seq ?_
                  refine G.region ?_
                  refine L.val rfl rfl (R.as rfl) ?_
                  refine L.nil ?_
                  refine N.seq ?_
                  refine G.ret1 rfl rfl ?_
                  first
                    | (rw [takeE_err hne, her]; exact ⟨rfl, E, fun h => absurd h hne⟩)
                    | (rw [takeE_bad he0 (by rw [← hf]; exact hbad)]; exact ⟨rfl, E, fun h => by cases h⟩)
                    | (rw [takeE_ok he0 (by rw [← hf]; exact hgood)]; exact ⟨rfl, E, fun _ => ⟨f1, f3, fa, fn, fc, ab2, nb2, cb2, MB2, r1, r2, r3, r4, r5⟩⟩)
                · refine Q.val rfl rfl rfl rfl (fun w6 hE => R.fld rfl) ?_
                  refine Q.val rfl rfl rfl rfl (fun w6 hE => R.ldB rfl (B5.ext0 hE) rfl) ?_
                  refine Q.val rfl rfl rfl rfl (fun w6 hE => R.mv rfl) ?_
                  refine Q.val rfl rfl rfl rfl (fun w6 hE => R.nilChk rfl) ?_
                  refine Q.val rfl rfl rfl rfl (fun w6 hE => R.fld rfl) ?_
                  refine Q.val rfl rfl rfl rfl (fun w6 hE => R.fld rfl) ?_
                  refine Q.val rfl rfl rfl rfl (fun w6 hE => R.ldB rfl (hx.ext0 hE) rfl) ?_
                  refine Q.val rfl rfl rfl rfl (fun w6 hE => R.neI rfl rfl) ?_
                  first | refine Q.val rfl rfl rfl rfl (fun w6 hE => R.pickT rfl rfl) ?_ | refine Q.val rfl rfl rfl rfl (fun w6 hE => R.pickF rfl rfl) ?_
                  refine Q.nil (fun w6 e6 => ?_)
                  replace E := E.trans0 e6
                  have hx := hx.ext0 e6
                  have ho := ho.ext0 e6
                  have B5 := B5.ext0 e6
                  have hb1 := hb1.ext0 e6
                  refine N.seq ?_
                  refine G.condP rfl (fun h2 => ?_) (fun h2 => ?_)
                  · have hbad : badG lsn k (qG k q1 f) (kG k k1 f) f := by unfold badG; omega
                    refine G.seq ?_
                    refine G.region ?_
                    refine L.val rfl rfl (R.as rfl) ?_
                    refine L.nil ?_
                    refine N.seq ?_
                    refine G.ret1 rfl rfl ?_
                    first
                      | (rw [takeE_err hne, her]; exact ⟨rfl, E, fun h => absurd h hne⟩)
                      | (rw [takeE_bad he0 (by rw [← hf]; exact hbad)]; exact ⟨rfl, E, fun h => by cases h⟩)
                      | (rw [takeE_ok he0 (by rw [← hf]; exact hgood)]; exact ⟨rfl, E, fun _ => ⟨f1, f3, fa, fn, fc, ab2, nb2, cb2, MB2, r1, r2, r3, r4, r5⟩⟩)
                  · have hgood : ¬ badG lsn k (qG k q1 f) (kG k k1 f) f := by unfold badG; omega
                    have hE6 := E.size
                    refine G.skip ?_
                    refine N.seq ?_
                    refine G.seq ?_
                    refine G.region ?_
                    refine L.val rfl rfl (R.mv rfl) ?_
                    refine L.val rfl rfl (R.nilChk rfl) ?_
                    refine L.val rfl rfl (R.fld rfl) ?_
                    refine L.val rfl rfl (R.ldB rfl hx rfl) ?_
                    refine L.val rfl rfl (R.add rfl rfl (by omega)) ?_
                    refine L.val rfl rfl (R.nilChk rfl) ?_
                    refine L.val rfl rfl (R.fld rfl) ?_
                    refine L.set rfl (R.st rfl rfl hx (by show 1 < 13; decide) rfl) ?_
                    rintro w8 ⟨e8, hs8, hx⟩
                    replace hx : Blk w8 x (gC lsn (((k + 1 : Nat) : Int)) f1 (qG k q1 f) f3 (kG k k1 f) fa fn fc ab nb cb) 156 (0, 0) := hx
                    replace B5 := B5.ext e8 (by simp; omega)
                    replace ho := ho.ext e8 (fun g hg hh => hxM (by rw [← List.mem_singleton.1 hh]; exact hg))
                    replace hb1 := hb1.ext e8 (by intro p hp hh; exact hpx p hp (List.mem_singleton.1 hh))
                    replace E := E.transN e8 (by intro g hg; rw [List.mem_singleton.1 hg]; exact .inl (by simp))
                    have hxl8 := hx.lt
                    have hE8 := E.size
                    have hlb := hb1.len
                    have ho8 := ho.len
                    rw [vbs_length, Nat.mul_one] at ho8
                    refine L.nil ?_
                    refine N.seq ?_
                    refine G.seq ?_
                    refine G.staged [7, 10] [.blocks (MB), .blocks ([x])] [Ext [] w8, Ext MB w8, fun w' => (∃ ab nb cb MB', Blk w' x (gC lsn (((k + 1 : Nat) : Int)) f1 (qG k q1 f) f3 (kG k k1 f) fa fn fc ab nb cb) 156 (0, 0) ∧ Own w' 5 1 ab nb cb (vbs (body ++ f.2.2.2.2)) MB' ∧ x ∉ MB' ∧ (∀ g ∈ MB', g ∈ MB ∨ w.heap.size ≤ g) ∧ nb = (body ++ f.2.2.2.2).length) ∧ Ext (x :: MB) w8 w'] [(10, 106)] (by decide +kernel) (by decide +kernel) rfl rfl rfl (fun _ h => h) ?_
                    refine Z.val rfl rfl rfl rfl rfl (fun w9 => R.mv rfl) ?_
                    refine Z.val rfl rfl rfl rfl rfl (fun w9 => R.mv rfl) ?_
                    refine Z.val rfl rfl rfl rfl rfl (fun w9 => R.nilChk rfl) ?_
                    refine Z.val rfl rfl rfl rfl rfl (fun w9 => R.fld rfl) ?_
                    refine Z.read 0 (by decide +kernel) rfl rfl rfl rfl rfl rfl (fun w9 hJ => R.ldB rfl (hx.ext0 hJ) rfl) ?_
                    refine Z.val rfl rfl rfl rfl rfl (fun w9 => R.fld rfl) ?_
                    refine Z.read 0 (by decide +kernel) rfl rfl rfl rfl rfl rfl (fun w9 hJ => R.ldB rfl (B5.ext0 hJ) rfl) ?_
                    refine Z.put (A := Held MB w8.heap.size 5 1 (nb + f.2.2.2.2.length) (vbs (body ++ f.2.2.2.2))) (Lasts.kill (Held.keep _ _ _ _ _ _) (by decide +kernel)) 0 (by decide +kernel) rfl rfl rfl rfl rfl rfl rfl (fun w9 hJ => (R.app rfl rfl (ho.ext0 hJ) (hb1.ext0 hJ).cells (by rw [vbs_length, Nat.mul_one]) (vbs_one _) (by simp [maxLen]; omega) (by omega)).mono (fun _ _ h => Held.app h hJ rfl (by simp [vbs]))) ?_
                    refine Z.val rfl rfl rfl rfl rfl (fun w9 => R.nilChk rfl) ?_
                    refine Z.val rfl rfl rfl rfl rfl (fun w9 => R.fld rfl) ?_
                    refine Z.set 1 (by decide +kernel) rfl rfl rfl rfl rfl rfl (fun w9 hJ => fun v hv => (R.st rfl rfl (hx.ext hJ hxM) (by show 12 < 13; decide) (by obtain ⟨_, _, _, rfl, _⟩ := hv; rfl)).mono (fun w' h => ⟨h.1, by obtain ⟨a9, c9, M9, rfl, o9, hM9⟩ := hv; exact ⟨⟨a9, _, c9, M9, h.2.2, o9.ext h.1 (fun g hg hh => (hM9 g hg).elim (fun h' => hxM (by rw [← List.mem_singleton.1 hh]; exact h')) (fun h' => by rw [List.mem_singleton.1 hh] at h'; omega)), fun h' => (hM9 x h').elim hxM (fun h'' => by omega), fun g hg => (hM9 g hg).imp id (Nat.le_trans hE8), by rw [List.length_append, ho8]⟩, (hJ.mono (fun g hg => .inl (by simp [hg]))).transN h.1 (fun g hg => .inl (by simp at hg ⊢; exact .inl hg))⟩⟩)) ?_
                    refine Z.nil rfl rfl (fun w9 hJ => ?_)
                    obtain ⟨⟨ab2, nb2, cb2, MB2, r1, r2, r3, r4, r5⟩, e9⟩ := hJ
                    replace E := E.transN e9 (fun g hg => .inl hg)
                    refine N.seq ?_
                    refine G.seq ?_
                    refine G.region ?_
                    refine L.val rfl rfl (R.as rfl) ?_
                    refine L.nil ?_
                    refine N.seq ?_
                    refine G.ret1 rfl rfl ?_
                    first
                      | (rw [takeE_err hne, her]; exact ⟨rfl, E, fun h => absurd h hne⟩)
                      | (rw [takeE_bad he0 (by rw [← hf]; exact hbad)]; exact ⟨rfl, E, fun h => by cases h⟩)
                      | (rw [takeE_ok he0 (by rw [← hf]; exact hgood)]; exact ⟨rfl, E, fun _ => ⟨f1, f3, fa, fn, fc, ab2, nb2, cb2, MB2, r1, r2, r3, r4, r5⟩⟩)
      · refine L.pass rfl rfl ?_
        refine L.pass rfl rfl ?_
        refine L.pass rfl rfl ?_
        refine L.pass rfl rfl ?_
        first | refine L.val rfl rfl (R.pickT rfl rfl) ?_ | refine L.val rfl rfl (R.pickF rfl rfl) ?_
        refine L.val rfl rfl (R.mv rfl) ?_
        refine L.val rfl rfl (R.fld rfl) ?_
        refine L.val rfl rfl (R.ldB rfl B5 rfl) ?_
        refine L.val rfl rfl (R.gtr rfl rfl) ?_
        refine L.val rfl rfl (R.mv rfl) ?_
        refine L.caseP 41 rfl (fun hg6_16 => ?_) (fun hg6_16 => ?_)
        · refine L.val rfl rfl (R.fld rfl) ?_
          refine L.val rfl rfl (R.ldB rfl B5 rfl) ?_
          refine L.val rfl rfl (R.lenS rfl) ?_
          refine L.val rfl rfl (R.eqI rfl rfl) ?_
          first | refine L.val rfl rfl (R.pickT rfl rfl) ?_ | refine L.val rfl rfl (R.pickF rfl rfl) ?_
          first | refine L.val rfl rfl (R.pickT rfl rfl) ?_ | refine L.val rfl rfl (R.pickF rfl rfl) ?_
          refine L.val rfl rfl (R.as rfl) ?_
          refine L.nil ?_
          refine N.seq ?_
          refine G.seq ?_
          refine G.seq ?_
          refine G.quiet (by decide +kernel) rfl ?_
          refine Q.val rfl rfl rfl rfl (fun w6 hE => R.mv rfl) ?_
          refine Q.val rfl rfl rfl rfl (fun w6 hE => R.mv rfl) ?_
          refine Q.caseP 49 rfl (fun hg7_1 => ?_) (fun hg7_1 => ?_)
          · refine Q.pass rfl rfl rfl ?_
            refine Q.pass rfl rfl rfl ?_
            refine Q.pass rfl rfl rfl ?_
            refine Q.pass rfl rfl rfl ?_
            refine Q.pass rfl rfl rfl ?_
            refine Q.pass rfl rfl rfl ?_
            refine Q.pass rfl rfl rfl ?_
            refine Q.pass rfl rfl rfl ?_
            refine Q.pass rfl rfl rfl ?_
            refine Q.pass rfl rfl rfl ?_
            refine Q.pass rfl rfl rfl ?_
            refine Q.pass rfl rfl rfl ?_
            first | refine Q.val rfl rfl rfl rfl (fun w6 hE => R.pickT rfl rfl) ?_ | refine Q.val rfl rfl rfl rfl (fun w6 hE => R.pickF rfl rfl) ?_
            refine Q.val rfl rfl rfl rfl (fun w6 hE => R.mv rfl) ?_
            refine Q.pass rfl rfl rfl ?_
            refine Q.pass rfl rfl rfl ?_
            refine Q.pass rfl rfl rfl ?_
            refine Q.pass rfl rfl rfl ?_
            refine Q.pass rfl rfl rfl ?_
            refine Q.pass rfl rfl rfl ?_
            refine Q.pass rfl rfl rfl ?_
            first | refine Q.val rfl rfl rfl rfl (fun w6 hE => R.pickT rfl rfl) ?_ | refine Q.val rfl rfl rfl rfl (fun w6 hE => R.pickF rfl rfl) ?_
            refine Q.val rfl rfl rfl rfl (fun w6 hE => R.mv rfl) ?_
            refine Q.pass rfl rfl rfl ?_
            refine Q.pass rfl rfl rfl ?_
            refine Q.pass rfl rfl rfl ?_
            refine Q.pass rfl rfl rfl ?_
            refine Q.pass rfl rfl rfl ?_
            refine Q.pass rfl rfl rfl ?_
            refine Q.pass rfl rfl rfl ?_
            refine Q.pass rfl rfl rfl ?_
            first | refine Q.val rfl rfl rfl rfl (fun w6 hE => R.pickT rfl rfl) ?_ | refine Q.val rfl rfl rfl rfl (fun w6 hE => R.pickF rfl rfl) ?_
            refine Q.val rfl rfl rfl rfl (fun w6 hE => R.mv rfl) ?_
            refine Q.pass rfl rfl rfl ?_
            refine Q.pass rfl rfl rfl ?_
            refine Q.pass rfl rfl rfl ?_
            refine Q.pass rfl rfl rfl ?_
            refine Q.pass rfl rfl rfl ?_
            refine Q.pass rfl rfl rfl ?_
            refine Q.pass rfl rfl rfl ?_
            refine Q.pass rfl rfl rfl ?_
            first | refine Q.val rfl rfl rfl rfl (fun w6 hE => R.pickT rfl rfl) ?_ | refine Q.val rfl rfl rfl rfl (fun w6 hE => R.pickF rfl rfl) ?_
            refine Q.nil (fun w6 e6 => ?_)
            replace E := E.trans0 e6
            have hx := hx.ext0 e6
            have ho := ho.ext0 e6
            have B5 := B5.ext0 e6
            have hb1 := hb1.ext0 e6
            refine N.seq ?_
            refine G.condT rfl ?_
            have hbad : badG lsn k (qG k q1 f) (kG k k1 f) f := by unfold badG; omega
            refine G.seq ?_
            refine G.region ?_
            refine L.val rfl rfl (R.as rfl) ?_
            refine L.nil ?_
            refine N.seq ?_
            refine G.ret1 rfl rfl ?_
            first
              | (rw [takeE_err hne, her]; exact ⟨rfl, E, fun h => absurd h hne⟩)
              | (rw [takeE_bad he0 (by rw [← hf]; exact hbad)]; exact ⟨rfl, E, fun h => by cases h⟩)
              | (rw [takeE_ok he0 (by rw [← hf]; exact hgood)]; exact ⟨rfl, E, fun _ => ⟨f1, f3, fa, fn, fc, ab2, nb2, cb2, MB2, r1, r2, r3, r4, r5⟩⟩)
          · refine Q.val rfl rfl rfl rfl (fun w6 hE => R.fld rfl) ?_
            refine Q.val rfl rfl rfl rfl (fun w6 hE => R.ldB rfl (B5.ext0 hE) rfl) ?_
            refine Q.val rfl rfl rfl rfl (fun w6 hE => R.mv rfl) ?_
            refine Q.val rfl rfl rfl rfl (fun w6 hE => R.nilChk rfl) ?_
            refine Q.val rfl rfl rfl rfl (fun w6 hE => R.fld rfl) ?_
            refine Q.val rfl rfl rfl rfl (fun w6 hE => R.ldB rfl (hx.ext0 hE) rfl) ?_
            refine Q.val rfl rfl rfl rfl (fun w6 hE => R.mv rfl) ?_
            refine Q.val rfl rfl rfl rfl (fun w6 hE => R.nilChk rfl) ?_
            refine Q.val rfl rfl rfl rfl (fun w6 hE => R.fld rfl) ?_
            refine Q.val rfl rfl rfl rfl (fun w6 hE => R.ldB rfl (hx.ext0 hE) rfl) ?_
            refine Q.val rfl rfl rfl rfl (fun w6 hE => R.add rfl rfl (by omega)) ?_
            refine Q.val rfl rfl rfl rfl (fun w6 hE => R.neI rfl rfl) ?_
            first | refine Q.val rfl rfl rfl rfl (fun w6 hE => R.pickT rfl rfl) ?_ | refine Q.val rfl rfl rfl rfl (fun w6 hE => R.pickF rfl rfl) ?_
            refine Q.val rfl rfl rfl rfl (fun w6 hE => R.mv rfl) ?_
            refine Q.caseP 63 rfl (fun hg7_15 => ?_) (fun hg7_15 => ?_)
            · refine Q.pass rfl rfl rfl ?_
              refine Q.pass rfl rfl rfl ?_
              refine Q.pass rfl rfl rfl ?_
              refine Q.pass rfl rfl rfl ?_
              refine Q.pass rfl rfl rfl ?_
              refine Q.pass rfl rfl rfl ?_
              refine Q.pass rfl rfl rfl ?_
              first | refine Q.val rfl rfl rfl rfl (fun w6 hE => R.pickT rfl rfl) ?_ | refine Q.val rfl rfl rfl rfl (fun w6 hE => R.pickF rfl rfl) ?_
              refine Q.val rfl rfl rfl rfl (fun w6 hE => R.mv rfl) ?_
              refine Q.pass rfl rfl rfl ?_
              refine Q.pass rfl rfl rfl ?_
              refine Q.pass rfl rfl rfl ?_
              refine Q.pass rfl rfl rfl ?_
              refine Q.pass rfl rfl rfl ?_
              refine Q.pass rfl rfl rfl ?_
              refine Q.pass rfl rfl rfl ?_
              refine Q.pass rfl rfl rfl ?_
              first | refine Q.val rfl rfl rfl rfl (fun w6 hE => R.pickT rfl rfl) ?_ | refine Q.val rfl rfl rfl rfl (fun w6 hE => R.pickF rfl rfl) ?_
              refine Q.val rfl rfl rfl rfl (fun w6 hE => R.mv rfl) ?_
              refine Q.pass rfl rfl rfl ?_
              refine Q.pass rfl rfl rfl ?_
              refine Q.pass rfl rfl rfl ?_
              refine Q.pass rfl rfl rfl ?_
              refine Q.pass rfl rfl rfl ?_
              refine Q.pass rfl rfl rfl ?_
              refine Q.pass rfl rfl rfl ?_
              refine Q.pass rfl rfl rfl ?_
              first | refine Q.val rfl rfl rfl rfl (fun w6 hE => R.pickT rfl rfl) ?_ | refine Q.val rfl rfl rfl rfl (fun w6 hE => R.pickF rfl rfl) ?_
              refine Q.nil (fun w6 e6 => ?_)
              replace E := E.trans0 e6
              have hx := hx.ext0 e6
              have ho := ho.ext0 e6
              have B5 := B5.ext0 e6
              have hb1 := hb1.ext0 e6
              refine N.seq ?_
              refine G.condT rfl ?_
              have hbad : badG lsn k (qG k q1 f) (kG k k1 f) f := by unfold badG; omega
              refine G.seq ?_
              refine G.region ?_
              refine L.val rfl rfl (R.as rfl) ?_
              refine L.nil ?_
              refine N.seq ?_
              refine G.ret1 rfl rfl ?_
              first
                | (rw [takeE_err hne, her]; exact ⟨rfl, E, fun h => absurd h hne⟩)
                | (rw [takeE_bad he0 (by rw [← hf]; exact hbad)]; exact ⟨rfl, E, fun h => by cases h⟩)
                | (rw [takeE_ok he0 (by rw [← hf]; exact hgood)]; exact ⟨rfl, E, fun _ => ⟨f1, f3, fa, fn, fc, ab2, nb2, cb2, MB2, r1, r2, r3, r4, r5⟩⟩)
            · refine Q.val rfl rfl rfl rfl (fun w6 hE => R.fld rfl) ?_
              refine Q.val rfl rfl rfl rfl (fun w6 hE => R.ldB rfl (B5.ext0 hE) rfl) ?_
              refine Q.val rfl rfl rfl rfl (fun w6 hE => R.mv rfl) ?_
              refine Q.val rfl rfl rfl rfl (fun w6 hE => R.nilChk rfl) ?_
              refine Q.val rfl rfl rfl rfl (fun w6 hE => R.fld rfl) ?_
              refine Q.val rfl rfl rfl rfl (fun w6 hE => R.ldB rfl (hx.ext0 hE) rfl) ?_
              refine Q.val rfl rfl rfl rfl (fun w6 hE => R.neI rfl rfl) ?_
              first | refine Q.val rfl rfl rfl rfl (fun w6 hE => R.pickT rfl rfl) ?_ | refine Q.val rfl rfl rfl rfl (fun w6 hE => R.pickF rfl rfl) ?_
              refine Q.val rfl rfl rfl rfl (fun w6 hE => R.mv rfl) ?_
              refine Q.caseP 72 rfl (fun hg7_24 => ?_) (fun hg7_24 => ?_)
              · refine Q.pass rfl rfl rfl ?_
                refine Q.pass rfl rfl rfl ?_
                refine Q.pass rfl rfl rfl ?_
                refine Q.pass rfl rfl rfl ?_
                refine Q.pass rfl rfl rfl ?_
                refine Q.pass rfl rfl rfl ?_
                refine Q.pass rfl rfl rfl ?_
                refine Q.pass rfl rfl rfl ?_
                first | refine Q.val rfl rfl rfl rfl (fun w6 hE => R.pickT rfl rfl) ?_ | refine Q.val rfl rfl rfl rfl (fun w6 hE => R.pickF rfl rfl) ?_
                refine Q.val rfl rfl rfl rfl (fun w6 hE => R.mv rfl) ?_
                refine Q.pass rfl rfl rfl ?_
                refine Q.pass rfl rfl rfl ?_
                refine Q.pass rfl rfl rfl ?_
                refine Q.pass rfl rfl rfl ?_
                refine Q.pass rfl rfl rfl ?_
                refine Q.pass rfl rfl rfl ?_
                refine Q.pass rfl rfl rfl ?_
                refine Q.pass rfl rfl rfl ?_
                first | refine Q.val rfl rfl rfl rfl (fun w6 hE => R.pickT rfl rfl) ?_ | refine Q.val rfl rfl rfl rfl (fun w6 hE => R.pickF rfl rfl) ?_
                refine Q.nil (fun w6 e6 => ?_)
                replace E := E.trans0 e6
                have hx := hx.ext0 e6
                have ho := ho.ext0 e6
                have B5 := B5.ext0 e6
                have hb1 := hb1.ext0 e6
                refine N.seq ?_
                refine G.condT rfl ?_
                have hbad : badG lsn k (qG k q1 f) (kG k k1 f) f := by unfold badG; omega
                refine G.seq ?_
                refine G.region ?_
                refine L.val rfl rfl (R.as rfl) ?_
                refine L.nil ?_
                refine N.seq ?_
                refine G.ret1 rfl rfl ?_
                first
                  | (rw [takeE_err hne, her]; exact ⟨rfl, E, fun h => absurd h hne⟩)
                  | (rw [takeE_bad he0 (by rw [← hf]; exact hbad)]; exact ⟨rfl, E, fun h => by cases h⟩)
                  | (rw [takeE_ok he0 (by rw [← hf]; exact hgood)]; exact ⟨rfl, E, fun _ => ⟨f1, f3, fa, fn, fc, ab2, nb2, cb2, MB2, r1, r2, r3, r4, r5⟩⟩)
              · refine Q.val rfl rfl rfl rfl (fun w6 hE => R.fld rfl) ?_
                refine Q.val rfl rfl rfl rfl (fun w6 hE => R.ldB rfl (B5.ext0 hE) rfl) ?_
                refine Q.val rfl rfl rfl rfl (fun w6 hE => R.mv rfl) ?_
                refine Q.val rfl rfl rfl rfl (fun w6 hE => R.nilChk rfl) ?_
                refine Q.val rfl rfl rfl rfl (fun w6 hE => R.fld rfl) ?_
                refine Q.val rfl rfl rfl rfl (fun w6 hE => R.fld rfl) ?_
                refine Q.val rfl rfl rfl rfl (fun w6 hE => R.ldB rfl (hx.ext0 hE) rfl) ?_
                refine Q.val rfl rfl rfl rfl (fun w6 hE => R.neI rfl rfl) ?_
                first | refine Q.val rfl rfl rfl rfl (fun w6 hE => R.pickT rfl rfl) ?_ | refine Q.val rfl rfl rfl rfl (fun w6 hE => R.pickF rfl rfl) ?_
                refine Q.val rfl rfl rfl rfl (fun w6 hE => R.mv rfl) ?_
                refine Q.caseP 82 rfl (fun hg7_34 => ?_) (fun hg7_34 => ?_)
                · refine Q.pass rfl rfl rfl ?_
                  refine Q.pass rfl rfl rfl ?_
                  refine Q.pass rfl rfl rfl ?_
                  refine Q.pass rfl rfl rfl ?_
                  refine Q.pass rfl rfl rfl ?_
                  refine Q.pass rfl rfl rfl ?_
                  refine Q.pass rfl rfl rfl ?_
                  refine Q.pass rfl rfl rfl ?_
                  first | refine Q.val rfl rfl rfl rfl (fun w6 hE => R.pickT rfl rfl) ?_ | refine Q.val rfl rfl rfl rfl (fun w6 hE => R.pickF rfl rfl) ?_
                  refine Q.nil (fun w6 e6 => ?_)
                  replace E := E.trans0 e6
                  have hx := hx.ext0 e6
                  have ho := ho.ext0 e6
                  have B5 := B5.ext0 e6
                  have hb1 := hb1.ext0 e6
                  refine N.seq ?_
                  refine G.condT rfl ?_
                  have hbad : badG lsn k (qG k q1 f) (kG k k1 f) f := by unfold badG; omega
                  refine G.seq ?_
                  refine G.region ?_
                  refine L.val rfl rfl (R.as rfl) ?_
                  refine L.nil ?_
                  refine N.seq ?_
                  refine G.ret1 rfl rfl ?_
                  first
                    | (rw [takeE_err hne, her]; exact ⟨rfl, E, fun h => absurd h hne⟩)
                    | (rw [takeE_bad he0 (by rw [← hf]; exact hbad)]; exact ⟨rfl, E, fun h => by cases h⟩)
                    | (rw [takeE_ok he0 (by rw [← hf]; exact hgood)]; exact ⟨rfl, E, fun _ => ⟨f1, f3, fa, fn, fc, ab2, nb2, cb2, MB2, r1, r2, r3, r4, r5⟩⟩)
                · refine Q.val rfl rfl rfl rfl (fun w6 hE => R.fld rfl) ?_
                  refine Q.val rfl rfl rfl rfl (fun w6 hE => R.ldB rfl (B5.ext0 hE) rfl) ?_
                  refine Q.val rfl rfl rfl rfl (fun w6 hE => R.mv rfl) ?_
                  refine Q.val rfl rfl rfl rfl (fun w6 hE => R.nilChk rfl) ?_
                  refine Q.val rfl rfl rfl rfl (fun w6 hE => R.fld rfl) ?_
                  refine Q.val rfl rfl rfl rfl (fun w6 hE => R.fld rfl) ?_
                  refine Q.val rfl rfl rfl rfl (fun w6 hE => R.ldB rfl (hx.ext0 hE) rfl) ?_
                  refine Q.val rfl rfl rfl rfl (fun w6 hE => R.neI rfl rfl) ?_
                  first | refine Q.val rfl rfl rfl rfl (fun w6 hE => R.pickT rfl rfl) ?_ | refine Q.val rfl rfl rfl rfl (fun w6 hE => R.pickF rfl rfl) ?_
                  refine Q.nil (fun w6 e6 => ?_)
                  replace E := E.trans0 e6
                  have hx := hx.ext0 e6
                  have ho := ho.ext0 e6
                  have B5 := B5.ext0 e6
                  have hb1 := hb1.ext0 e6
                  refine N.seq ?_
                  refine G.condP rfl (fun h2 => ?_) (fun h2 => ?_)
                  · have hbad : badG lsn k (qG k q1 f) (kG k k1 f) f := by unfold badG; omega
                    refine G.seq ?_
                    refine G.region ?_
                    refine L.val rfl rfl (R.as rfl) ?_
                    refine L.nil ?_
                    refine N.seq ?_
                    refine G.ret1 rfl rfl ?_
                    first
                      | (rw [takeE_err hne, her]; exact ⟨rfl, E, fun h => absurd h hne⟩)
                      | (rw [takeE_bad he0 (by rw [← hf]; exact hbad)]; exact ⟨rfl, E, fun h => by cases h⟩)
                      | (rw [takeE_ok he0 (by rw [← hf]; exact hgood)]; exact ⟨rfl, E, fun _ => ⟨f1, f3, fa, fn, fc, ab2, nb2, cb2, MB2, r1, r2, r3, r4, r5⟩⟩)
                  · have hgood : ¬ badG lsn k (qG k q1 f) (kG k k1 f) f := by unfold badG; omega
                    have hE6 := E.size
                    refine G.skip ?_
                    refine N.seq ?_
                    refine G.seq ?_
                    refine G.region ?_
                    refine L.val rfl rfl (R.mv rfl) ?_
                    refine L.val rfl rfl (R.nilChk rfl) ?_
                    refine L.val rfl rfl (R.fld rfl) ?_
                    refine L.val rfl rfl (R.ldB rfl hx rfl) ?_
                    refine L.val rfl rfl (R.add rfl rfl (by omega)) ?_
                    refine L.val rfl rfl (R.nilChk rfl) ?_
                    refine L.val rfl rfl (R.fld rfl) ?_
                    refine L.set rfl (R.st rfl rfl hx (by show 1 < 13; decide) rfl) ?_
                    rintro w8 ⟨e8, hs8, hx⟩
                    replace hx : Blk w8 x (gC lsn (((k + 1 : Nat) : Int)) f1 (qG k q1 f) f3 (kG k k1 f) fa fn fc ab nb cb) 156 (0, 0) := hx
                    replace B5 := B5.ext e8 (by simp; omega)
                    replace ho := ho.ext e8 (fun g hg hh => hxM (by rw [← List.mem_singleton.1 hh]; exact hg))
                    replace hb1 := hb1.ext e8 (by intro p hp hh; exact hpx p hp (List.mem_singleton.1 hh))
                    replace E := E.transN e8 (by intro g hg; rw [List.mem_singleton.1 hg]; exact .inl (by simp))
                    have hxl8 := hx.lt
                    have hE8 := E.size
                    have hlb := hb1.len
                    have ho8 := ho.len
                    rw [vbs_length, Nat.mul_one] at ho8
                    refine L.nil ?_
                    refine N.seq ?_
                    refine G.seq ?_
                    refine G.staged [7, 10] [.blocks (MB), .blocks ([x])] [Ext [] w8, Ext MB w8, fun w' => (∃ ab nb cb MB', Blk w' x (gC lsn (((k + 1 : Nat) : Int)) f1 (qG k q1 f) f3 (kG k k1 f) fa fn fc ab nb cb) 156 (0, 0) ∧ Own w' 5 1 ab nb cb (vbs (body ++ f.2.2.2.2)) MB' ∧ x ∉ MB' ∧ (∀ g ∈ MB', g ∈ MB ∨ w.heap.size ≤ g) ∧ nb = (body ++ f.2.2.2.2).length) ∧ Ext (x :: MB) w8 w'] [(10, 106)] (by decide +kernel) (by decide +kernel) rfl rfl rfl (fun _ h => h) ?_
                    refine Z.val rfl rfl rfl rfl rfl (fun w9 => R.mv rfl) ?_
                    refine Z.val rfl rfl rfl rfl rfl (fun w9 => R.mv rfl) ?_
                    refine Z.val rfl rfl rfl rfl rfl (fun w9 => R.nilChk rfl) ?_
                    refine Z.val rfl rfl rfl rfl rfl (fun w9 => R.fld rfl) ?_
                    refine Z.read 0 (by decide +kernel) rfl rfl rfl rfl rfl rfl (fun w9 hJ => R.ldB rfl (hx.ext0 hJ) rfl) ?_
                    refine Z.val rfl rfl rfl rfl rfl (fun w9 => R.fld rfl) ?_
                    refine Z.read 0 (by decide +kernel) rfl rfl rfl rfl rfl rfl (fun w9 hJ => R.ldB rfl (B5.ext0 hJ) rfl) ?_
                    refine Z.put (A := Held MB w8.heap.size 5 1 (nb + f.2.2.2.2.length) (vbs (body ++ f.2.2.2.2))) (Lasts.kill (Held.keep _ _ _ _ _ _) (by decide +kernel)) 0 (by decide +kernel) rfl rfl rfl rfl rfl rfl rfl (fun w9 hJ => (R.app rfl rfl (ho.ext0 hJ) (hb1.ext0 hJ).cells (by rw [vbs_length, Nat.mul_one]) (vbs_one _) (by simp [maxLen]; omega) (by omega)).mono (fun _ _ h => Held.app h hJ rfl (by simp [vbs]))) ?_
                    refine Z.val rfl rfl rfl rfl rfl (fun w9 => R.nilChk rfl) ?_
                    refine Z.val rfl rfl rfl rfl rfl (fun w9 => R.fld rfl) ?_
                    refine Z.set 1 (by decide +kernel) rfl rfl rfl rfl rfl rfl (fun w9 hJ => fun v hv => (R.st rfl rfl (hx.ext hJ hxM) (by show 12 < 13; decide) (by obtain ⟨_, _, _, rfl, _⟩ := hv; rfl)).mono (fun w' h => ⟨h.1, by obtain ⟨a9, c9, M9, rfl, o9, hM9⟩ := hv; exact ⟨⟨a9, _, c9, M9, h.2.2, o9.ext h.1 (fun g hg hh => (hM9 g hg).elim (fun h' => hxM (by rw [← List.mem_singleton.1 hh]; exact h')) (fun h' => by rw [List.mem_singleton.1 hh] at h'; omega)), fun h' => (hM9 x h').elim hxM (fun h'' => by omega), fun g hg => (hM9 g hg).imp id (Nat.le_trans hE8), by rw [List.length_append, ho8]⟩, (hJ.mono (fun g hg => .inl (by simp [hg]))).transN h.1 (fun g hg => .inl (by simp at hg ⊢; exact .inl hg))⟩⟩)) ?_
                    refine Z.nil rfl rfl (fun w9 hJ => ?_)
                    obtain ⟨⟨ab2, nb2, cb2, MB2, r1, r2, r3, r4, r5⟩, e9⟩ := hJ
                    replace E := E.transN e9 (fun g hg => .inl hg)
                    refine N.seq ?_
                    refine G.seq ?_
                    refine G.region ?_
                    refine L.val rfl rfl (R.as rfl) ?_
                    refine L.nil ?_
                    refine N.seq ?_
                    refine G.ret1 rfl rfl ?_
                    first
                      | (rw [takeE_err hne, her]; exact ⟨rfl, E, fun h => absurd h hne⟩)
                      | (rw [takeE_bad he0 (by rw [← hf]; exact hbad)]; exact ⟨rfl, E, fun h => by cases h⟩)
                      | (rw [takeE_ok he0 (by rw [← hf]; exact hgood)]; exact ⟨rfl, E, fun _ => ⟨f1, f3, fa, fn, fc, ab2, nb2, cb2, MB2, r1, r2, r3, r4, r5⟩⟩)
        · refine L.pass rfl rfl ?_
          refine L.pass rfl rfl ?_
          refine L.pass rfl rfl ?_
          refine L.pass rfl rfl ?_
          first | refine L.val rfl rfl (R.pickT rfl rfl) ?_ | refine L.val rfl rfl (R.pickF rfl rfl) ?_
          first | refine L.val rfl rfl (R.pickT rfl rfl) ?_ | refine L.val rfl rfl (R.pickF rfl rfl) ?_
          refine L.val rfl rfl (R.as rfl) ?_
          refine L.nil ?_
          refine N.seq ?_
          refine G.seq ?_
          refine G.seq ?_
          refine G.quiet (by decide +kernel) rfl ?_
          refine Q.val rfl rfl rfl rfl (fun w6 hE => R.mv rfl) ?_
          refine Q.val rfl rfl rfl rfl (fun w6 hE => R.mv rfl) ?_
          refine Q.val rfl rfl rfl rfl (fun w6 hE => R.fld rfl) ?_
          refine Q.val rfl rfl rfl rfl (fun w6 hE => R.ldB rfl (B5.ext0 hE) rfl) ?_
          refine Q.val rfl rfl rfl rfl (fun w6 hE => R.mv rfl) ?_
          refine Q.val rfl rfl rfl rfl (fun w6 hE => R.nilChk rfl) ?_
          refine Q.val rfl rfl rfl rfl (fun w6 hE => R.fld rfl) ?_
          refine Q.val rfl rfl rfl rfl (fun w6 hE => R.ldB rfl (hx.ext0 hE) rfl) ?_
          refine Q.val rfl rfl rfl rfl (fun w6 hE => R.mv rfl) ?_
          refine Q.val rfl rfl rfl rfl (fun w6 hE => R.nilChk rfl) ?_
          refine Q.val rfl rfl rfl rfl (fun w6 hE => R.fld rfl) ?_
          refine Q.val rfl rfl rfl rfl (fun w6 hE => R.ldB rfl (hx.ext0 hE) rfl) ?_
          refine Q.val rfl rfl rfl rfl (fun w6 hE => R.add rfl rfl (by omega)) ?_
          refine Q.val rfl rfl rfl rfl (fun w6 hE => R.neI rfl rfl) ?_
          first | refine Q.val rfl rfl rfl rfl (fun w6 hE => R.pickT rfl rfl) ?_ | refine Q.val rfl rfl rfl rfl (fun w6 hE => R.pickF rfl rfl) ?_
          refine Q.val rfl rfl rfl rfl (fun w6 hE => R.mv rfl) ?_
          refine Q.caseP 63 rfl (fun hg7_15 => ?_) (fun hg7_15 => ?_)
          · refine Q.pass rfl rfl rfl ?_
            refine Q.pass rfl rfl rfl ?_
            refine Q.pass rfl rfl rfl ?_
            refine Q.pass rfl rfl rfl ?_
            refine Q.pass rfl rfl rfl ?_
            refine Q.pass rfl rfl rfl ?_
            refine Q.pass rfl rfl rfl ?_
            first | refine Q.val rfl rfl rfl rfl (fun w6 hE => R.pickT rfl rfl) ?_ | refine Q.val rfl rfl rfl rfl (fun w6 hE => R.pickF rfl rfl) ?_
            refine Q.val rfl rfl rfl rfl (fun w6 hE => R.mv rfl) ?_
            refine Q.pass rfl rfl rfl ?_
            refine Q.pass rfl rfl rfl ?_
            refine Q.pass rfl rfl rfl ?_
            refine Q.pass rfl rfl rfl ?_
            refine Q.pass rfl rfl rfl ?_
            refine Q.pass rfl rfl rfl ?_
            refine Q.pass rfl rfl rfl ?_
            refine Q.pass rfl rfl rfl ?_
            first | refine Q.val rfl rfl rfl rfl (fun w6 hE => R.pickT rfl rfl) ?_ | refine Q.val rfl rfl rfl rfl (fun w6 hE => R.pickF rfl rfl) ?_
            refine Q.val rfl rfl rfl rfl (fun w6 hE => R.mv rfl) ?_
            refine Q.pass rfl rfl rfl ?_
            refine Q.pass rfl rfl rfl ?_
            refine Q.pass rfl rfl rfl ?_
            refine Q.pass rfl rfl rfl ?_
            refine Q.pass rfl rfl rfl ?_
            refine Q.pass rfl rfl rfl ?_
            refine Q.pass rfl rfl rfl ?_
            refine Q.pass rfl rfl rfl ?_
            first | refine Q.val rfl rfl rfl rfl (fun w6 hE => R.pickT rfl rfl) ?_ | refine Q.val rfl rfl rfl rfl (fun w6 hE => R.pickF rfl rfl) ?_
            refine Q.nil (fun w6 e6 => ?_)
            replace E := E.trans0 e6
            have hx := hx.ext0 e6
            have ho := ho.ext0 e6
            have B5 := B5.ext0 e6
            have hb1 := hb1.ext0 e6
            refine N.seq ?_
            refine G.condT rfl ?_
            have hbad : badG lsn k (qG k q1 f) (kG k k1 f) f := by unfold badG; omega
            refine G.seq ?_
            refine G.region ?_
            refine L.val rfl rfl (R.as rfl) ?_
            refine L.nil ?_
            refine N.seq ?_
            refine G.ret1 rfl rfl ?_
            first
              | (rw [takeE_err hne, her]; exact ⟨rfl, E, fun h => absurd h hne⟩)
              | (rw [takeE_bad he0 (by rw [← hf]; exact hbad)]; exact ⟨rfl, E, fun h => by cases h⟩)
              | (rw [takeE_ok he0 (by rw [← hf]; exact hgood)]; exact ⟨rfl, E, fun _ => ⟨f1, f3, fa, fn, fc, ab2, nb2, cb2, MB2, r1, r2, r3, r4, r5⟩⟩)
          · refine Q.val rfl rfl rfl rfl (fun w6 hE => R.fld rfl) ?_
            refine Q.val rfl rfl rfl rfl (fun w6 hE => R.ldB rfl (B5.ext0 hE) rfl) ?_
            refine Q.val rfl rfl rfl rfl (fun w6 hE => R.mv rfl) ?_
            refine Q.val rfl rfl rfl rfl (fun w6 hE => R.nilChk rfl) ?_
            refine Q.val rfl rfl rfl rfl (fun w6 hE => R.fld rfl) ?_
            refine Q.val rfl rfl rfl rfl (fun w6 hE => R.ldB rfl (hx.ext0 hE) rfl) ?_
            refine Q.val rfl rfl rfl rfl (fun w6 hE => R.neI rfl rfl) ?_
            first | refine Q.val rfl rfl rfl rfl (fun w6 hE => R.pickT rfl rfl) ?_ | refine Q.val rfl rfl rfl rfl (fun w6 hE => R.pickF rfl rfl) ?_
            refine Q.val rfl rfl rfl rfl (fun w6 hE => R.mv rfl) ?_
            refine Q.caseP 72 rfl (fun hg7_24 => ?_) (fun hg7_24 => ?_)
            · refine Q.pass rfl rfl rfl ?_
              refine Q.pass rfl rfl rfl ?_
              refine Q.pass rfl rfl rfl ?_
              refine Q.pass rfl rfl rfl ?_
              refine Q.pass rfl rfl rfl ?_
              refine Q.pass rfl rfl rfl ?_
              refine Q.pass rfl rfl rfl ?_
              refine Q.pass rfl rfl rfl ?_
              first | refine Q.val rfl rfl rfl rfl (fun w6 hE => R.pickT rfl rfl) ?_ | refine Q.val rfl rfl rfl rfl (fun w6 hE => R.pickF rfl rfl) ?_
              refine Q.val rfl rfl rfl rfl (fun w6 hE => R.mv rfl) ?_
              refine Q.pass rfl rfl rfl ?_
              refine Q.pass rfl rfl rfl ?_
              refine Q.pass rfl rfl rfl ?_
              refine Q.pass rfl rfl rfl ?_
              refine Q.pass rfl rfl rfl ?_
              refine Q.pass rfl rfl rfl ?_
              refine Q.pass rfl rfl rfl ?_
              refine Q.pass rfl rfl rfl ?_
              first | refine Q.val rfl rfl rfl rfl (fun w6 hE => R.pickT rfl rfl) ?_ | refine Q.val rfl rfl rfl rfl (fun w6 hE => R.pickF rfl rfl) ?_
              refine Q.nil (fun w6 e6 => ?_)
              replace E := E.trans0 e6
              have hx := hx.ext0 e6
              have ho := ho.ext0 e6
              have B5 := B5.ext0 e6
              have hb1 := hb1.ext0 e6
              refine N.seq ?_
              refine G.condT rfl ?_
              have hbad : badG lsn k (qG k q1 f) (kG k k1 f) f := by unfold badG; omega
              refine G.seq ?_
              refine G.region ?_
              refine L.val rfl rfl (R.as rfl) ?_
              refine L.nil ?_
              refine N.seq ?_
              refine G.ret1 rfl rfl ?_
              first
                | (rw [takeE_err hne, her]; exact ⟨rfl, E, fun h => absurd h hne⟩)
                | (rw [takeE_bad he0 (by rw [← hf]; exact hbad)]; exact ⟨rfl, E, fun h => by cases h⟩)
                | (rw [takeE_ok he0 (by rw [← hf]; exact hgood)]; exact ⟨rfl, E, fun _ => ⟨f1, f3, fa, fn, fc, ab2, nb2, cb2, MB2, r1, r2, r3, r4, r5⟩⟩)
            · refine Q.val rfl rfl rfl rfl (fun w6 hE => R.fld rfl) ?_
              refine Q.val rfl rfl rfl rfl (fun w6 hE => R.ldB rfl (B5.ext0 hE) rfl) ?_
              refine Q.val rfl rfl rfl rfl (fun w6 hE => R.mv rfl) ?_
              refine Q.val rfl rfl rfl rfl (fun w6 hE => R.nilChk rfl) ?_
              refine Q.val rfl rfl rfl rfl (fun w6 hE => R.fld rfl) ?_
              refine Q.val rfl rfl rfl rfl (fun w6 hE => R.fld rfl) ?_
              refine Q.val rfl rfl rfl rfl (fun w6 hE => R.ldB rfl (hx.ext0 hE) rfl) ?_
              refine Q.val rfl rfl rfl rfl (fun w6 hE => R.neI rfl rfl) ?_
              first | refine Q.val rfl rfl rfl rfl (fun w6 hE => R.pickT rfl rfl) ?_ | refine Q.val rfl rfl rfl rfl (fun w6 hE => R.pickF rfl rfl) ?_
              refine Q.val rfl rfl rfl rfl (fun w6 hE => R.mv rfl) ?_
              refine Q.caseP 82 rfl (fun hg7_34 => ?_) (fun hg7_34 => ?_)
              · refine Q.pass rfl rfl rfl ?_
                refine Q.pass rfl rfl rfl ?_
                refine Q.pass rfl rfl rfl ?_
                refine Q.pass rfl rfl rfl ?_
                refine Q.pass rfl rfl rfl ?_
                refine Q.pass rfl rfl rfl ?_
                refine Q.pass rfl rfl rfl ?_
                refine Q.pass rfl rfl rfl ?_
                first | refine Q.val rfl rfl rfl rfl (fun w6 hE => R.pickT rfl rfl) ?_ | refine Q.val rfl rfl rfl rfl (fun w6 hE => R.pickF rfl rfl) ?_
                refine Q.nil (fun w6 e6 => ?_)
                replace E := E.trans0 e6
                have hx := hx.ext0 e6
                have ho := ho.ext0 e6
                have B5 := B5.ext0 e6
                have hb1 := hb1.ext0 e6
                refine N.seq ?_
                refine G.condT rfl ?_
                have hbad : badG lsn k (qG k q1 f) (kG k k1 f) f := by unfold badG; omega
                refine G.seq ?_
                refine G.region ?_
                refine L.val rfl rfl (R.as rfl) ?_
                refine L.nil ?_
                refine N.seq ?_
                refine G.ret1 rfl rfl ?_
                first
                  | (rw [takeE_err hne, her]; exact ⟨rfl, E, fun h => absurd h hne⟩)
                  | (rw [takeE_bad he0 (by rw [← hf]; exact hbad)]; exact ⟨rfl, E, fun h => by cases h⟩)
                  | (rw [takeE_ok he0 (by rw [← hf]; exact hgood)]; exact ⟨rfl, E, fun _ => ⟨f1, f3, fa, fn, fc, ab2, nb2, cb2, MB2, r1, r2, r3, r4, r5⟩⟩)
              · refine Q.val rfl rfl rfl rfl (fun w6 hE => R.fld rfl) ?_
                refine Q.val rfl rfl rfl rfl (fun w6 hE => R.ldB rfl (B5.ext0 hE) rfl) ?_
                refine Q.val rfl rfl rfl rfl (fun w6 hE => R.mv rfl) ?_
                refine Q.val rfl rfl rfl rfl (fun w6 hE => R.nilChk rfl) ?_
                refine Q.val rfl rfl rfl rfl (fun w6 hE => R.fld rfl) ?_
                refine Q.val rfl rfl rfl rfl (fun w6 hE => R.fld rfl) ?_
                refine Q.val rfl rfl rfl rfl (fun w6 hE => R.ldB rfl (hx.ext0 hE) rfl) ?_
                refine Q.val rfl rfl rfl rfl (fun w6 hE => R.neI rfl rfl) ?_
                first | refine Q.val rfl rfl rfl rfl (fun w6 hE => R.pickT rfl rfl) ?_ | refine Q.val rfl rfl rfl rfl (fun w6 hE => R.pickF rfl rfl) ?_
                refine Q.nil (fun w6 e6 => ?_)
                replace E := E.trans0 e6
                have hx := hx.ext0 e6
                have ho := ho.ext0 e6
                have B5 := B5.ext0 e6
                have hb1 := hb1.ext0 e6
                refine N.seq ?_
                refine G.condP rfl (fun h2 => ?_) (fun h2 => ?_)
                · have hbad : badG lsn k (qG k q1 f) (kG k k1 f) f := by unfold badG; omega
                  refine G.seq ?_
                  refine G.region ?_
                  refine L.val rfl rfl (R.as rfl) ?_
                  refine L.nil ?_
                  refine N.seq ?_
                  refine G.ret1 rfl rfl ?_
                  first
                    | (rw [takeE_err hne, her]; exact ⟨rfl, E, fun h => absurd h hne⟩)
                    | (rw [takeE_bad he0 (by rw [← hf]; exact hbad)]; exact ⟨rfl, E, fun h => by cases h⟩)
                    | (rw [takeE_ok he0 (by rw [← hf]; exact hgood)]; exact ⟨rfl, E, fun _ => ⟨f1, f3, fa, fn, fc, ab2, nb2, cb2, MB2, r1, r2, r3, r4, r5⟩⟩)
                · have hgood : ¬ badG lsn k (qG k q1 f) (kG k k1 f) f := by unfold badG; omega
                  have hE6 := E.size
                  refine G.skip ?_
                  refine N.seq ?_
                  refine G.seq ?_
                  refine G.region ?_
                  refine L.val rfl rfl (R.mv rfl) ?_
                  refine L.val rfl rfl (R.nilChk rfl) ?_
                  refine L.val rfl rfl (R.fld rfl) ?_
                  refine L.val rfl rfl (R.ldB rfl hx rfl) ?_
                  refine L.val rfl rfl (R.add rfl rfl (by omega)) ?_
                  refine L.val rfl rfl (R.nilChk rfl) ?_
                  refine L.val rfl rfl (R.fld rfl) ?_
                  refine L.set rfl (R.st rfl rfl hx (by show 1 < 13; decide) rfl) ?_
                  rintro w8 ⟨e8, hs8, hx⟩
                  replace hx : Blk w8 x (gC lsn (((k + 1 : Nat) : Int)) f1 (qG k q1 f) f3 (kG k k1 f) fa fn fc ab nb cb) 156 (0, 0) := hx
                  replace B5 := B5.ext e8 (by simp; omega)
                  replace ho := ho.ext e8 (fun g hg hh => hxM (by rw [← List.mem_singleton.1 hh]; exact hg))
                  replace hb1 := hb1.ext e8 (by intro p hp hh; exact hpx p hp (List.mem_singleton.1 hh))
                  replace E := E.transN e8 (by intro g hg; rw [List.mem_singleton.1 hg]; exact .inl (by simp))
                  have hxl8 := hx.lt
                  have hE8 := E.size
                  have hlb := hb1.len
                  have ho8 := ho.len
                  rw [vbs_length, Nat.mul_one] at ho8
                  refine L.nil ?_
                  refine N.seq ?_
                  refine G.seq ?_
                  refine G.staged [7, 10] [.blocks (MB), .blocks ([x])] [Ext [] w8, Ext MB w8, fun w' => (∃ ab nb cb MB', Blk w' x (gC lsn (((k + 1 : Nat) : Int)) f1 (qG k q1 f) f3 (kG k k1 f) fa fn fc ab nb cb) 156 (0, 0) ∧ Own w' 5 1 ab nb cb (vbs (body ++ f.2.2.2.2)) MB' ∧ x ∉ MB' ∧ (∀ g ∈ MB', g ∈ MB ∨ w.heap.size ≤ g) ∧ nb = (body ++ f.2.2.2.2).length) ∧ Ext (x :: MB) w8 w'] [(10, 106)] (by decide +kernel) (by decide +kernel) rfl rfl rfl (fun _ h => h) ?_
                  refine Z.val rfl rfl rfl rfl rfl (fun w9 => R.mv rfl) ?_
                  refine Z.val rfl rfl rfl rfl rfl (fun w9 => R.mv rfl) ?_
                  refine Z.val rfl rfl rfl rfl rfl (fun w9 => R.nilChk rfl) ?_
                  refine Z.val rfl rfl rfl rfl rfl (fun w9 => R.fld rfl) ?_
                  refine Z.read 0 (by decide +kernel) rfl rfl rfl rfl rfl rfl (fun w9 hJ => R.ldB rfl (hx.ext0 hJ) rfl) ?_
                  refine Z.val rfl rfl rfl rfl rfl (fun w9 => R.fld rfl) ?_
                  refine Z.read 0 (by decide +kernel) rfl rfl rfl rfl rfl rfl (fun w9 hJ => R.ldB rfl (B5.ext0 hJ) rfl) ?_
                  refine Z.put (A := Held MB w8.heap.size 5 1 (nb + f.2.2.2.2.length) (vbs (body ++ f.2.2.2.2))) (Lasts.kill (Held.keep _ _ _ _ _ _) (by decide +kernel)) 0 (by decide +kernel) rfl rfl rfl rfl rfl rfl rfl (fun w9 hJ => (R.app rfl rfl (ho.ext0 hJ) (hb1.ext0 hJ).cells (by rw [vbs_length, Nat.mul_one]) (vbs_one _) (by simp [maxLen]; omega) (by omega)).mono (fun _ _ h => Held.app h hJ rfl (by simp [vbs]))) ?_
                  refine Z.val rfl rfl rfl rfl rfl (fun w9 => R.nilChk rfl) ?_
                  refine Z.val rfl rfl rfl rfl rfl (fun w9 => R.fld rfl) ?_
                  refine Z.set 1 (by decide +kernel) rfl rfl rfl rfl rfl rfl (fun w9 hJ => fun v hv => (R.st rfl rfl (hx.ext hJ hxM) (by show 12 < 13; decide) (by obtain ⟨_, _, _, rfl, _⟩ := hv; rfl)).mono (fun w' h => ⟨h.1, by obtain ⟨a9, c9, M9, rfl, o9, hM9⟩ := hv; exact ⟨⟨a9, _, c9, M9, h.2.2, o9.ext h.1 (fun g hg hh => (hM9 g hg).elim (fun h' => hxM (by rw [← List.mem_singleton.1 hh]; exact h')) (fun h' => by rw [List.mem_singleton.1 hh] at h'; omega)), fun h' => (hM9 x h').elim hxM (fun h'' => by omega), fun g hg => (hM9 g hg).imp id (Nat.le_trans hE8), by rw [List.length_append, ho8]⟩, (hJ.mono (fun g hg => .inl (by simp [hg]))).transN h.1 (fun g hg => .inl (by simp at hg ⊢; exact .inl hg))⟩⟩)) ?_
                  refine Z.nil rfl rfl (fun w9 hJ => ?_)
                  obtain ⟨⟨ab2, nb2, cb2, MB2, r1, r2, r3, r4, r5⟩, e9⟩ := hJ
                  replace E := E.transN e9 (fun g hg => .inl hg)
                  refine N.seq ?_
                  refine G.seq ?_
                  refine G.region ?_
                  refine L.val rfl rfl (R.as rfl) ?_
                  refine L.nil ?_
                  refine N.seq ?_
                  refine G.ret1 rfl rfl ?_
                  first
                    | (rw [takeE_err hne, her]; exact ⟨rfl, E, fun h => absurd h hne⟩)
                    | (rw [takeE_bad he0 (by rw [← hf]; exact hbad)]; exact ⟨rfl, E, fun h => by cases h⟩)
                    | (rw [takeE_ok he0 (by rw [← hf]; exact hgood)]; exact ⟨rfl, E, fun _ => ⟨f1, f3, fa, fn, fc, ab2, nb2, cb2, MB2, r1, r2, r3, r4, r5⟩⟩)

end Go.Proofs.Ytjmlcodlnohgdaa
