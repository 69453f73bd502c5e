/-
  Texts of this claim, put together.
-/
import Derived.Test.YtmbppidafnakhaaPoolPLz2
/-
  The walks of package order.
-/
set_option linter.unusedVariables false
set_option linter.unusedSimpArgs false
set_option maxRecDepth 4000
namespace Go.Proofs.Ytmbppidafnakhaa
open Go Brv
theorem find1Poolheld_ok (p : Pr (Int)) (k : Int) (w : World) : Meets Try.prog 65 [.agg (pcell p).toArray, .int .i64 k] w (fun v w' => v = .int .i64 (cmpF p.1 k) ∧ Ext [] w w') := by
  refine Meets.enter Try.func65 rfl 9 rfl (Nat.le_of_ble_eq_true rfl) ?_
  have E := Ext.refl [] w
  refine G.seq ?_
  refine G.region ?_
  refine L.do rfl rfl (R.box rfl) ?_
  rintro _ w1 ⟨b2, rfl, hb2, hs2, e1, B2⟩
  replace B2 : Blk w1 b2 (pcell p).toArray 114 (0, 0) := B2
  replace E := E.trans0 e1
  refine L.val rfl rfl (R.as rfl) ?_
  refine L.nil ?_
  refine N.seq ?_
  refine G.seq ?_
  refine G.region ?_
  refine L.val rfl rfl (R.fld rfl) ?_
  refine L.val rfl rfl (R.ldB (v := .int .i64 p.1) rfl B2 rfl) ?_
  refine L.val rfl rfl (R.mv rfl) ?_
  refine L.callF rfl rfl rfl go66 (cmpI_ok _ _ _) ?_
  rintro _ _ ⟨rfl, hw⟩
  obtain rfl := hw.symm
  refine L.val rfl rfl (R.as rfl) ?_
  refine L.nil ?_
  refine N.seq ?_
  refine G.ret1 rfl rfl ?_
  exact ⟨rfl, E⟩

theorem bsPoolheld_ok (a : Option Addr) (n c : Nat) (ps : List (Pr (Int))) (k : Int) (w : World) (hc : Cells w a (pcells ps)) (hn : n = ps.length) (hok : OkP 2 ps) (hs : Sorted ps) (hnl : n ≤ 1000000) : Meets Try.prog 64 [.slice a n c, .int .i64 k, .func (.func 65) #[] #[]] w (fun v w' => v = .tuple #[.int .i64 (low ps k : Int), .bool (hasK ps k)] ∧ Ext [] w w') := by
  refine Meets.enter Try.func64 rfl 49 rfl (Nat.le_of_ble_eq_true rfl) ?_
  have E := Ext.refl [] w
  have hT := Tab.pairs hc hn hok
  have hlo := low_le ps k
  refine G.seq ?_
  refine G.region ?_
  refine L.val rfl rfl (R.as rfl) ?_
  refine L.val rfl rfl (R.as rfl) ?_
  refine L.nil ?_
  refine N.seq ?_
  refine G.seq ?_
  refine G.region ?_
  refine L.val rfl rfl (R.mv rfl) ?_
  refine L.val rfl rfl (R.lenS rfl) ?_
  refine L.val rfl rfl (R.as rfl) ?_
  refine L.nil ?_
  refine N.seq ?_
  refine G.seq ?_
  refine G.region ?_
  refine L.val rfl rfl (R.mv rfl) ?_
  refine L.val rfl rfl (R.as rfl) ?_
  refine L.val rfl rfl (R.as rfl) ?_
  refine L.nil ?_
  refine N.seq ?_
  refine G.seq ?_
  refine G.block ?_
  refine G.loop (X := Nat × Nat) (fun s => [(0, .slice a n c), (1, .int .i64 k), (2, .func (.func 65) #[] #[]), (8, .int .i64 (n : Int)), (9, .int .i64 (s.1 : Int)), (10, .int .i64 (s.2 : Int))]) (fun s w' => s.1 ≤ s.2 ∧ s.2 ≤ n ∧ s.1 ≤ low ps k ∧ low ps k ≤ s.2 ∧ Ext [] w w') (fun s => s.2 - s.1) ((0, n)) (Sub.cons rfl (Sub.cons rfl (Sub.cons rfl (Sub.cons rfl (Sub.cons rfl (Sub.cons rfl (Sub.nil _))))))) ⟨Nat.zero_le _, Nat.le_refl _, Nat.zero_le _, by show low ps k ≤ n; omega, E⟩ ?_
  rintro ⟨i, j⟩ w1 ⟨hi1, hi2, hi3, hi4, E⟩
  dsimp only at hi1 hi2 hi3 hi4
  refine G.sub [(0, .slice a n c), (1, .int .i64 k), (2, .func (.func 65) #[] #[]), (8, .int .i64 (n : Int)), (9, .int .i64 (i : Int)), (10, .int .i64 (j : Int))] (Sub.cons rfl (Sub.cons rfl (Sub.cons rfl (Sub.cons rfl (Sub.cons rfl (Sub.cons rfl (Sub.nil _))))))) ?_
  refine G.seq ?_
  refine G.seq ?_
  refine G.region ?_
  refine L.val rfl rfl (R.mv rfl) ?_
  refine L.val rfl rfl (R.mv rfl) ?_
  refine L.val rfl rfl (R.lss rfl rfl) ?_
  refine L.nil ?_
  refine N.seq ?_
  refine G.condP rfl (fun h0 => ?_) (fun h0 => ?_)
  · have hij : i < j := by omega
    obtain ⟨hm, hhm⟩ : ∃ hm, hm = (i + j) / 2 := ⟨_, rfl⟩
    have hm1 : i ≤ hm := by omega
    have hm2 : hm < j := by omega
    refine G.skip ?_
    refine N.seq ?_
    refine G.block ?_
    refine G.seq ?_
    refine G.region ?_
    refine L.val rfl rfl (R.mv rfl) ?_
    refine L.val rfl rfl (R.mv rfl) ?_
    refine L.val rfl rfl (R.add rfl rfl (by omega)) ?_
    refine L.val rfl rfl (R.conv rfl ((i + j : Nat) : Int) (by rw [wrap_u64 (by omega)]; omega)) ?_
    refine L.val rfl rfl (R.shrW rfl rfl (by decide) (hm : Int) (by rw [shr1]; omega)) ?_
    refine L.val rfl rfl (R.conv rfl (hm : Int) (wrap_i64 (by omega))) ?_
    refine L.val rfl rfl (R.as rfl) ?_
    refine L.nil ?_
    refine N.seq ?_
    refine G.seq ?_
    refine G.region ?_
    refine L.val rfl rfl (R.mv rfl) ?_
    refine L.val rfl rfl (R.mv rfl) ?_
    refine L.val rfl rfl (R.mv rfl) ?_
    obtain ⟨p1, hp1⟩ : ∃ p, ps[hm]? = some p := ⟨_, List.getElem?_eq_getElem (by omega)⟩
    obtain ⟨qp1, hqp1, hclp1⟩ := hT.at (by decide) hm (by rw [List.length_map]; omega)
    have hep1 : (ps.map pcell)[hm]'(by rw [List.length_map]; omega) = pcell p1 := by rw [List.getElem_map]; exact congrArg pcell (List.getElem?_eq_some_iff.1 hp1).2
    rw [hep1] at hclp1
    have hszp1 : (pcell p1).length = 3 := by show p1.2.length + 1 = _; rw [(hok p1 (List.mem_of_getElem? hp1)).1]
    refine L.val rfl rfl (R.idx rfl rfl (by omega) (by omega) qp1 hqp1) ?_
    refine L.val rfl rfl (R.ldN (vs := pcell p1) rfl (hclp1.ext0 E) hszp1) ?_
    refine L.val rfl rfl (R.mv rfl) ?_
    refine L.callV rfl rfl rfl rfl rfl go65 (find1Poolheld_ok p1 k _) ?_
    rintro _ w2 ⟨rfl, e2⟩
    replace E := E.trans0 e2
    refine L.val rfl rfl (R.lss rfl rfl) ?_
    refine L.nil ?_
    refine N.seq ?_
    refine G.condP rfl (fun h1 => ?_) (fun h1 => ?_)
    · have hcmp : cmpF p1.1 k < 0 := h1
      refine G.region ?_
      refine L.val rfl rfl (R.mv rfl) ?_
      refine L.val rfl rfl (R.add rfl rfl (by omega)) ?_
      refine L.val rfl rfl (R.as rfl) ?_
      refine L.nil ?_
      refine N.block ?_
      first
        | exact N.again (hm + 1, j) (by show j - (hm + 1) < j - i; omega) (Sub.cons rfl (Sub.cons rfl (Sub.cons rfl (Sub.cons rfl (Sub.cons rfl (Sub.cons rfl (Sub.nil _))))))) ⟨by show hm + 1 ≤ j; omega, hi2, by show hm + 1 ≤ low ps k; have := (lt_low hs hp1).1 hcmp; omega, hi4, E⟩
        | exact N.again (i, hm) (by show hm - i < j - i; omega) (Sub.cons rfl (Sub.cons rfl (Sub.cons rfl (Sub.cons rfl (Sub.cons rfl (Sub.cons rfl (Sub.nil _))))))) ⟨by show i ≤ hm; omega, by show hm ≤ n; omega, hi3, by show low ps k ≤ hm; have : ¬ hm < low ps k := fun h9 => hcmp ((lt_low hs hp1).2 h9); omega, E⟩
    · have hcmp : ¬ cmpF p1.1 k < 0 := h1
      refine G.region ?_
      refine L.val rfl rfl (R.mv rfl) ?_
      refine L.val rfl rfl (R.as rfl) ?_
      refine L.nil ?_
      refine N.block ?_
      first
        | exact N.again (hm + 1, j) (by show j - (hm + 1) < j - i; omega) (Sub.cons rfl (Sub.cons rfl (Sub.cons rfl (Sub.cons rfl (Sub.cons rfl (Sub.cons rfl (Sub.nil _))))))) ⟨by show hm + 1 ≤ j; omega, hi2, by show hm + 1 ≤ low ps k; have := (lt_low hs hp1).1 hcmp; omega, hi4, E⟩
        | exact N.again (i, hm) (by show hm - i < j - i; omega) (Sub.cons rfl (Sub.cons rfl (Sub.cons rfl (Sub.cons rfl (Sub.cons rfl (Sub.cons rfl (Sub.nil _))))))) ⟨by show i ≤ hm; omega, by show hm ≤ n; omega, hi3, by show low ps k ≤ hm; have : ¬ hm < low ps k := fun h9 => hcmp ((lt_low hs hp1).2 h9); omega, E⟩
  · have hij : i = low ps k := by omega
    refine G.exit _ rfl ?_
    refine N.seq ?_
    refine G.seq ?_
    refine G.region ?_
    refine L.val rfl rfl (R.mv rfl) ?_
    refine L.val rfl rfl (R.mv rfl) ?_
    refine L.val rfl rfl (R.mv rfl) ?_
    refine L.val rfl rfl (R.lss rfl rfl) ?_
    refine L.val rfl rfl (R.mv rfl) ?_
    refine L.caseP 39 rfl (fun hg8_4 => ?_) (fun hg8_4 => ?_)
    · refine L.val rfl rfl (R.mv rfl) ?_
      refine L.val rfl rfl (R.mv rfl) ?_
      refine L.val rfl rfl (R.mv rfl) ?_
      obtain ⟨p2, hp2⟩ : ∃ p, ps[i]? = some p := ⟨_, List.getElem?_eq_getElem (by omega)⟩
      obtain ⟨qp2, hqp2, hclp2⟩ := hT.at (by decide) i (by rw [List.length_map]; omega)
      have hep2 : (ps.map pcell)[i]'(by rw [List.length_map]; omega) = pcell p2 := by rw [List.getElem_map]; exact congrArg pcell (List.getElem?_eq_some_iff.1 hp2).2
      rw [hep2] at hclp2
      have hszp2 : (pcell p2).length = 3 := by show p2.2.length + 1 = _; rw [(hok p2 (List.mem_of_getElem? hp2)).1]
      refine L.val rfl rfl (R.idx rfl rfl (by omega) (by omega) qp2 hqp2) ?_
      refine L.val rfl rfl (R.ldN (vs := pcell p2) rfl (hclp2.ext0 E) hszp2) ?_
      refine L.val rfl rfl (R.mv rfl) ?_
      refine L.callV rfl rfl rfl rfl rfl go65 (find1Poolheld_ok p2 k _) ?_
      rintro _ w3 ⟨rfl, e3⟩
      replace E := E.trans0 e3
      refine L.val rfl rfl (R.eqI rfl rfl) ?_
      first | refine L.val rfl rfl (R.pickT rfl rfl) ?_ | refine L.val rfl rfl (R.pickF rfl rfl) ?_
      refine L.val rfl rfl (R.as rfl) ?_
      refine L.val rfl rfl (R.as rfl) ?_
      refine L.nil ?_
      refine N.seq ?_
      refine G.ret2 rfl rfl rfl ?_
      first
        | exact ⟨by rw [hfound, ← hij], E⟩
        | exact ⟨by rw [hasK_at hs (by rw [← hij]; exact hp2), ← hij], E⟩
    · have hfound : hasK ps k = false := hasK_end (by omega)
      refine L.pass rfl rfl ?_
      refine L.pass rfl rfl ?_
      refine L.pass rfl rfl ?_
      refine L.pass rfl rfl ?_
      refine L.pass rfl rfl ?_
      refine L.pass rfl rfl ?_
      refine L.pass rfl rfl ?_
      refine L.pass rfl rfl ?_
      first | refine L.val rfl rfl (R.pickT rfl rfl) ?_ | refine L.val rfl rfl (R.pickF rfl rfl) ?_
      refine L.val rfl rfl (R.as rfl) ?_
      refine L.val rfl rfl (R.as rfl) ?_
      refine L.nil ?_
      refine N.seq ?_
      refine G.ret2 rfl rfl rfl ?_
      first
        | exact ⟨by rw [hfound, ← hij], E⟩
        | exact ⟨by rw [hasK_at hs (by rw [← hij]; exact hp2), ← hij], E⟩

theorem findPoolheld_ok (m : Nat) (ps : List (Pr (Int))) (S : List Nat) (k : Int) (w : World) (hd : MapAt (κ := Int) 110 114 2 w m ps S) (hl : ps.length ≤ 100000) : Meets Try.prog 48 [.pointer (some ⟨m, 0, none⟩), .int .i64 k] w (fun v w' => v = .tuple #[.int .i64 (low ps k : Int), .bool (hasK ps k)] ∧ Ext [] w w') := by
  refine Meets.enter Try.func48 rfl 14 rfl (Nat.le_of_ble_eq_true rfl) ?_
  have E := Ext.refl [] w
  obtain ⟨a, c, M, rfl, hm0, Bm, om, hok, hs⟩ := hd
  refine G.seq ?_
  refine G.region ?_
  refine L.val rfl rfl (R.as rfl) ?_
  refine L.val rfl rfl (R.as rfl) ?_
  refine L.nil ?_
  refine N.seq ?_
  refine G.seq ?_
  refine G.region ?_
  refine L.val rfl rfl (R.mv rfl) ?_
  refine L.val rfl rfl (R.nilChk rfl) ?_
  refine L.val rfl rfl (R.fld rfl) ?_
  refine L.val rfl rfl (R.ldB rfl Bm rfl) ?_
  refine L.val rfl rfl (R.mv rfl) ?_
  refine L.callF rfl rfl rfl go64 (bsPoolheld_ok _ _ _ ps k _ om.cells rfl hok hs (by omega)) ?_
  rintro _ w1 ⟨rfl, e1⟩
  replace E := E.trans0 e1
  refine L.val rfl rfl (R.ext rfl rfl) ?_
  refine L.val rfl rfl (R.ext rfl rfl) ?_
  refine L.val rfl rfl (R.as rfl) ?_
  refine L.val rfl rfl (R.as rfl) ?_
  refine L.nil ?_
  refine N.seq ?_
  refine G.ret2 rfl rfl rfl ?_
  exact ⟨rfl, E⟩

theorem insPoolheld_ok (a : Option Addr) (n c : Nat) (ps : List (Pr (Int))) (M : List Nat) (i : Nat) (p : Pr (Int)) (vb : Nat) (w : World) (ho : Own w 114 (1 + 2) a n c (pcells ps) M) (hn : n = ps.length) (hok : OkP 2 ps) (hi : i ≤ n) (hp : p.2.length = 2 ∧ ∀ u ∈ p.2, u.oneCell' = true) (Bv : Blk w vb (pcell p).toArray 114 (0, 0)) (hvM : vb ∉ M) (hnl : n ≤ 100000) : Meets Try.prog 49 [.slice a n c, .int .i64 (i : Int), .slice (some ⟨vb, 0, none⟩) 1 1] w (fun v w' => ∃ a' c' M', v = .slice a' (n + 1) c' ∧ Ext M w w' ∧ (∀ g ∈ M', g ∈ M ∨ w.heap.size ≤ g) ∧ Own w' 114 (1 + 2) a' (n + 1) c' (pcells (ps.take i ++ p :: ps.drop i)) M') := by
  refine Meets.enter Try.func49 rfl 95 rfl (Nat.le_of_ble_eq_true rfl) ?_
  have hl2 : (pcell p).length = 3 := by show p.2.length + 1 = _; rw [hp.1]
  have hp1 : ∀ u ∈ pcell p, u.oneCell' = true := pcell1 hp.2
  have hoc := ho.le
  have hps := (pcells_take (sv := 2) hok.len i (by omega))
  rw [show 1 + 2 = 3 from rfl] at hps
  have hcd : (pcells (ps.drop i)).length = (n - i) * 3 := by rw [pcells_len (sv := 2) (fun q hq => (hok q (List.mem_of_mem_drop hq)).1), List.length_drop, hn]
  have hci : (pcells (ps.take i)).length = i * 3 := by rw [pcells_len (sv := 2) (fun q hq => (hok q (List.mem_of_mem_take hq)).1), List.length_take, Nat.min_eq_left (by omega)]
  have hone := pcell_one hok
  have hone2 : ∀ u ∈ pcells (ps.drop i), u.oneCell' = true := fun u hu => hone u (by have h9 := hps.2; rw [← h9] at hu; exact List.mem_of_mem_drop hu)
  have Cv : Cells w (some ⟨vb, 0, none⟩) (pcell p) := Cells.of_blk Bv 0 _ (fun j v hj => by simpa using hj)
  refine G.seq ?_
  refine G.region ?_
  refine L.val rfl rfl (R.as rfl) ?_
  refine L.nil ?_
  refine N.seq ?_
  refine G.seq ?_
  refine G.region ?_
  refine L.val rfl rfl (R.mv rfl) ?_
  refine L.val rfl rfl (R.mv rfl) ?_
  refine L.val rfl rfl (R.slL rfl rfl (by omega) (by omega)) ?_
  refine L.nil ?_
  refine N.seq ?_
  refine G.seq ?_
  refine G.region ?_
  refine L.val rfl rfl (R.mv rfl) ?_
  refine L.val rfl rfl (R.lenS rfl) ?_
  refine L.val rfl rfl (R.as rfl) ?_
  refine L.nil ?_
  refine N.seq ?_
  refine G.seq ?_
  refine G.seq ?_
  refine G.region ?_
  refine L.val rfl rfl (R.mv rfl) ?_
  refine L.val rfl rfl (R.eqI rfl rfl) ?_
  refine L.nil ?_
  refine N.seq ?_
  refine G.condP rfl (fun h0 => ?_) (fun h0 => ?_)
  · exfalso; omega
  · refine G.skip ?_
    refine N.seq ?_
    refine G.seq ?_
    refine G.region ?_
    refine L.val rfl rfl (R.mv rfl) ?_
    refine L.val rfl rfl (R.lenS rfl) ?_
    refine L.val rfl rfl (R.as rfl) ?_
    refine L.nil ?_
    refine N.seq ?_
    refine G.seq ?_
    refine G.seq ?_
    refine G.region ?_
    refine L.val rfl rfl (R.mv rfl) ?_
    refine L.val rfl rfl (R.mv rfl) ?_
    refine L.val rfl rfl (R.eqI rfl rfl) ?_
    refine L.nil ?_
    refine N.seq ?_
    refine G.condP rfl (fun h1 => ?_) (fun h1 => ?_)
    · obtain rfl : i = n := by omega
      refine G.seq ?_
      refine G.region ?_
      refine L.val rfl rfl (R.mv rfl) ?_
      refine L.val rfl rfl (R.mv rfl) ?_
      refine L.do rfl rfl (R.app rfl rfl ho Cv (by rw [hl2]) hp1 (by simp [maxLen]; omega) (by omega)) ?_
      rintro _ w1 ⟨a1, c1, M1, rfl, e1, hM1, o1⟩
      refine L.val rfl rfl (R.as rfl) ?_
      refine L.nil ?_
      refine N.seq ?_
      refine G.ret1 rfl rfl ?_
      first
        | (have e9 : pcells ps ++ pcell p = pcells (ps.take i ++ p :: ps.drop i) := by rw [← pcells_ins, List.take_of_length_le (by omega), List.drop_of_length_le (by omega)]; simp [pcells]
           rw [e9] at o1; exact ⟨a1, c1, M1, rfl, e1, hM1, o1⟩)
        | (refine ⟨_, c1, [g1], rfl, n3.mono (by simp), fun x hx => .inr (by rw [List.mem_singleton.1 hx]; exact hg1), ?_⟩
           have hfin := hog.1; rw [pcells_ins, ← Nat.add_one_mul, ← Nat.add_mul, show i + 1 + (n - i) = n + 1 by omega] at hfin
           refine ⟨by rw [pcells_len (sv := 2) (fun q hq => (okIns hok hp q hq).1), List.length_append, List.length_cons, List.length_take, List.length_drop]; congr 1; omega, .inr ⟨g1, _, rfl, rfl, B3, by omega, hx1, ?_, hfin⟩⟩
           rw [← Nat.add_one_mul] at hog; rw [hog.2.2]; exact hz1)
        | (refine ⟨_, c, [g0], rfl, hE5, fun x hx => .inl hx, ?_⟩
           have hfin := hoi.1; rw [pcells_ins, ← Nat.add_one_mul] at hfin
           refine ⟨by rw [pcells_len (sv := 2) (fun q hq => (okIns hok hp q hq).1), List.length_append, List.length_cons, List.length_take, List.length_drop]; congr 1; omega, .inr ⟨g0, _, rfl, rfl, B5, by omega, hx0, ?_, hfin⟩⟩
           rw [hoi.2.2]; exact hz0)
    · have hin : i < n := by omega
      refine G.skip ?_
      refine N.seq ?_
      refine G.seq ?_
      refine G.seq ?_
      refine G.region ?_
      refine L.val rfl rfl (R.mv rfl) ?_
      refine L.val rfl rfl (R.mv rfl) ?_
      refine L.val rfl rfl (R.add rfl rfl (by omega)) ?_
      refine L.val rfl rfl (R.mv rfl) ?_
      refine L.val rfl rfl (R.capS rfl) ?_
      refine L.val rfl rfl (R.gtr rfl rfl) ?_
      refine L.nil ?_
      refine N.seq ?_
      refine G.condP rfl (fun h2 => ?_) (fun h2 => ?_)
      · have hgc : c < n + 1 := by omega
        refine G.seq ?_
        refine G.region ?_
        refine L.val rfl rfl (R.mv rfl) ?_
        refine L.val rfl rfl (R.mv rfl) ?_
        refine L.val rfl rfl (R.slH rfl rfl (by omega) (by omega)) ?_
        refine L.be 34 rfl (show _ = Value.slice a i c by rw [subA_zero, Int.toNat_natCast]) ?_
        refine L.val rfl rfl (R.mv rfl) ?_
        refine L.val rfl rfl (R.mv rfl) ?_
        refine L.val rfl rfl (R.add rfl rfl (by omega)) ?_
        refine L.val rfl rfl (R.mv rfl) ?_
        refine L.val rfl rfl (R.sub' rfl rfl (by omega)) ?_
        refine L.be 39 rfl (show _ = Value.int .i64 ((n + 1 - i : Nat) : Int) by congr 1; omega) ?_
        refine L.do rfl rfl (R.appZN (m := n + 1 - i) rfl rfl (ho.pre (i := i) (by omega)) (by intro u hu; simp [Value.cells] at hu; first | (rcases hu with rfl | rfl <;> rfl) | (rcases hu with rfl | rfl | rfl <;> rfl) | (rcases hu with rfl | rfl | rfl | rfl <;> rfl) | (rcases hu with rfl | rfl | rfl | rfl | rfl <;> rfl)) (by simp [maxLen]; omega) (by omega) (by decide) (by decide) (by omega)) ?_
        rintro _ w1 ⟨a1, c1, M1, rfl, e1, o1, hM1⟩
        rw [show i + (n + 1 - i) = n + 1 by omega] at o1 ⊢
        obtain ⟨g1, cur1, rfl, rfl, B1, hc1, hx1, hz1, ht1⟩ := o1.some (by omega)
        have hg1 := hM1 g1 (by simp)
        have hcu : (cur1.toList.take (i * 3)) = pcells (ps.take i) := by
          have h9 := congrArg (List.take (i * 3)) ht1
          rw [List.take_take, Nat.min_eq_left (Nat.mul_le_mul_right _ (by omega))] at h9
          refine h9.trans ?_
          show List.take (i * 3) (List.take (i * 3) (pcells ps) ++ _) = _
          rw [List.take_append_of_le_length (by rw [hps.1, hci]; exact Nat.le_refl _), List.take_take, Nat.min_self]
          exact hps.1
        have hzz : (n + 1) * 3 ≤ cur1.size := Nat.le_trans (Nat.mul_le_mul_right _ hc1) hz1
        have hog := over_grow (c1 := pcell p) (c2 := pcells (ps.drop i)) (s := 3) (K := (n - i) * 3) hcu (by omega) hl2 hcd (by omega)
        refine L.val rfl rfl (R.as rfl) ?_
        refine L.nil ?_
        refine N.seq ?_
        refine G.seq ?_
        refine G.region ?_
        refine L.val rfl rfl (R.mv rfl) ?_
        refine L.val rfl rfl (R.mv rfl) ?_
        refine L.val rfl rfl (R.slL rfl rfl (by omega) (by omega)) ?_
        refine L.be 43 rfl (show _ = Value.slice (some ⟨g1, i * 3, none⟩) (n + 1 - i) (c1 - i) by rw [Int.toNat_natCast, subA_lit (by omega), Nat.zero_add]) ?_
        refine L.val rfl rfl (R.mv rfl) ?_
        refine L.do rfl rfl (R.copyN (m := 1) rfl rfl B1 (Cv.ext0 e1) (Nat.min_eq_left (by omega)) (by rw [hl2]) (by rw [hl2]; omega) hp1) ?_
        rintro _ w2 ⟨rfl, P2⟩
        obtain ⟨e2, hs2, B2⟩ := P2
        have n2 := e1.news2 e2 hg1
        have Cd : Cells w2 (subA a i c 3) (pcells (ps.drop i)) := by
          have h9 := (ho.cells.ext0 n2).sub i c 3 ((n - i) * 3) (by rw [ho.1, show 1 + 2 = 3 from rfl, ← Nat.add_mul]; exact Nat.mul_le_mul_right _ (by omega)) (by omega)
          rw [hps.2, List.take_of_length_le (by omega)] at h9
          exact h9
        refine L.nil ?_
        refine N.seq ?_
        refine G.seq ?_
        refine G.staged [8] [.blocks ([g1])] [fun w' => Ext [] w2 w', fun w' => Ext [g1] w2 w' ∧ Blk w' g1 (Over (Over cur1 (i * 3) (pcell p)) ((i + 1) * 3) (pcells (ps.drop i))) 114 (0, 0)] [] (by decide +kernel) (by decide +kernel) rfl rfl rfl (fun _ h => h) ?_
        refine Z.val rfl rfl rfl rfl rfl (fun w3 => R.mv rfl) ?_
        refine Z.val rfl rfl rfl rfl rfl (fun w3 => R.mv rfl) ?_
        refine Z.val rfl rfl rfl rfl rfl (fun w3 => R.mv rfl) ?_
        refine Z.val rfl rfl rfl rfl rfl (fun w3 => R.add rfl rfl (by omega)) ?_
        refine Z.val rfl rfl rfl rfl rfl (fun w3 => R.slL rfl rfl (by omega) (by omega)) ?_
        refine Z.be 50 rfl (show _ = Value.slice (some ⟨g1, (i + 1) * 3, none⟩) (n - i) (c1 - (i + 1)) by rw [show ((i : Int) + ((1 : Nat) : Int)).toNat = i + 1 by omega, subA_lit (by omega), Nat.zero_add, show n + 1 - (i + 1) = n - i by omega]) ?_
        refine Z.val rfl rfl rfl rfl rfl (fun w3 => R.mv rfl) ?_
        refine Z.val rfl rfl rfl rfl rfl (fun w3 => R.mv rfl) ?_
        refine Z.val rfl rfl rfl rfl rfl (fun w3 => R.slL rfl rfl (by omega) (by omega)) ?_
        refine Z.be 53 rfl (show _ = Value.slice (subA a i c 3) (n - i) (c - i) by rw [Int.toNat_natCast]) ?_
        refine Z.put (A := fun v _ => True) (Lasts.kill (fun _ _ _ _ h => h) (by decide +kernel)) 0 (by decide +kernel) rfl rfl rfl rfl rfl rfl rfl (fun w3 hJ => (R.copyN (m := n - i) rfl rfl (B2.ext0 hJ) (Cd.ext0 hJ) (Nat.min_self _) hcd (by rw [hcd, hog.2.1]; omega) hone2).mono (fun v w9 h => by obtain ⟨_, h1, h2, h3⟩ := h; exact ⟨trivial, h1, h1.after hJ, h3⟩)) ?_
        refine Z.nil rfl rfl (fun w3 hJ => ?_)
        obtain ⟨e3, B3⟩ := hJ
        intro v54 _
        have n3 := n2.news2 e3 hg1
        refine N.seq ?_
        refine G.seq ?_
        refine G.region ?_
        refine L.val rfl rfl (R.mv rfl) ?_
        refine L.val rfl rfl (R.as rfl) ?_
        refine L.nil ?_
        refine N.seq ?_
        refine G.ret1 rfl rfl ?_
        first
          | (have e9 : pcells ps ++ pcell p = pcells (ps.take i ++ p :: ps.drop i) := by rw [← pcells_ins, List.take_of_length_le (by omega), List.drop_of_length_le (by omega)]; simp [pcells]
             rw [e9] at o1; exact ⟨a1, c1, M1, rfl, e1, hM1, o1⟩)
          | (refine ⟨_, c1, [g1], rfl, n3.mono (by simp), fun x hx => .inr (by rw [List.mem_singleton.1 hx]; exact hg1), ?_⟩
             have hfin := hog.1; rw [pcells_ins, ← Nat.add_one_mul, ← Nat.add_mul, show i + 1 + (n - i) = n + 1 by omega] at hfin
             refine ⟨by rw [pcells_len (sv := 2) (fun q hq => (okIns hok hp q hq).1), List.length_append, List.length_cons, List.length_take, List.length_drop]; congr 1; omega, .inr ⟨g1, _, rfl, rfl, B3, by omega, hx1, ?_, hfin⟩⟩
             rw [← Nat.add_one_mul] at hog; rw [hog.2.2]; exact hz1)
          | (refine ⟨_, c, [g0], rfl, hE5, fun x hx => .inl hx, ?_⟩
             have hfin := hoi.1; rw [pcells_ins, ← Nat.add_one_mul] at hfin
             refine ⟨by rw [pcells_len (sv := 2) (fun q hq => (okIns hok hp q hq).1), List.length_append, List.length_cons, List.length_take, List.length_drop]; congr 1; omega, .inr ⟨g0, _, rfl, rfl, B5, by omega, hx0, ?_, hfin⟩⟩
             rw [hoi.2.2]; exact hz0)
      · have hroom : n + 1 ≤ c := by omega
        obtain ⟨g0, cur0, rfl, rfl, B0, hc0, hx0, hz0, ht0⟩ := ho.some (by omega)
        have hzz : (n + 1) * 3 ≤ cur0.size := Nat.le_trans (Nat.mul_le_mul_right _ hroom) hz0
        have hxl : (pcells ps).length = n * 3 := ho.1
        have hoi := over_insert (s := 3) (A := i * 3) (L := n * 3) ht0 hxl (Nat.mul_le_mul_right _ (by omega)) hl2 (by omega)
        rw [hps.1, hps.2] at hoi
        have hro : i * 3 + 3 + (n - i) * 3 ≤ cur0.size := by
          have h9 : (i + 1 + (n - i)) * 3 ≤ cur0.size := by rw [show i + 1 + (n - i) = n + 1 by omega]; exact hzz
          rwa [Nat.add_mul, Nat.add_mul, Nat.one_mul] at h9
        have Cd : Cells w (some ⟨g0, i * 3, none⟩) (pcells (ps.drop i)) := Cells.of_blk B0 (i * 3) (pcells (ps.drop i)) (fun j v hj => by
          rw [← hps.2, ← ht0, List.drop_take, List.getElem?_take] at hj
          split at hj
          · simpa [List.getElem?_drop] using hj
          · cases hj)
        refine G.skip ?_
        refine N.seq ?_
        refine G.seq ?_
        refine G.region ?_
        refine L.val rfl rfl (R.mv rfl) ?_
        refine L.val rfl rfl (R.mv rfl) ?_
        refine L.val rfl rfl (R.mv rfl) ?_
        refine L.val rfl rfl (R.add rfl rfl (by omega)) ?_
        refine L.val rfl rfl (R.slH rfl rfl (by omega) (by omega)) ?_
        refine L.be 60 rfl (show _ = Value.slice (some ⟨g0, 0, none⟩) (n + 1) c by rw [subA_zero, show ((n : Int) + ((1 : Nat) : Int)).toNat = n + 1 by omega]) ?_
        refine L.val rfl rfl (R.as rfl) ?_
        refine L.nil ?_
        refine N.seq ?_
        refine G.seq ?_
        refine G.seq ?_
        refine G.region ?_
        refine L.val rfl rfl (R.mv rfl) ?_
        refine L.val rfl rfl (R.mv rfl) ?_
        refine L.val rfl rfl (R.mv rfl) ?_
        refine L.val rfl rfl (R.mv rfl) ?_
        refine L.val rfl rfl (R.add rfl rfl (by omega)) ?_
        refine L.val rfl rfl (R.slL rfl rfl (by omega) (by omega)) ?_
        refine L.be 66 rfl (show _ = Value.slice (subA (some ⟨g0, 0, none⟩) (i + 1) c 3) (n + 1 - (i + 1)) (c - (i + 1)) by rw [show ((i : Int) + ((1 : Nat) : Int)).toNat = i + 1 by omega]) ?_
        refine L.be 66 rfl (show _ = Value.slice (some ⟨g0, (i + 1) * 3, none⟩) (n - i) (c - (i + 1)) by rw [subA_lit (by omega), Nat.zero_add, show n + 1 - (i + 1) = n - i by omega]) ?_
        refine L.val rfl rfl (R.overlaps (A := (pcell p).toArray) (B := cur0) Try.func67 (by decide) rfl rfl rfl rfl rfl Bv B0 (by simpa using hvM) (by omega)) ?_
        refine L.val rfl rfl (R.not rfl) ?_
        refine L.nil ?_
        refine N.seq ?_
        refine G.condT rfl ?_
        refine G.seq ?_
        refine G.staged [8] [.blocks ([g0])] [fun w' => Ext [] w w', fun w' => Ext [g0] w w' ∧ Blk w' g0 (Over cur0 (i * 3 + 3) (pcells (ps.drop i))) 114 (0, 0)] [] (by decide +kernel) (by decide +kernel) rfl rfl rfl (fun _ h => h) ?_
        refine Z.val rfl rfl rfl rfl rfl (fun w1 => R.mv rfl) ?_
        refine Z.val rfl rfl rfl rfl rfl (fun w1 => R.mv rfl) ?_
        refine Z.val rfl rfl rfl rfl rfl (fun w1 => R.mv rfl) ?_
        refine Z.val rfl rfl rfl rfl rfl (fun w1 => R.add rfl rfl (by omega)) ?_
        refine Z.val rfl rfl rfl rfl rfl (fun w1 => R.slL rfl rfl (by omega) (by omega)) ?_
        refine Z.be 73 rfl (show _ = Value.slice (some ⟨g0, i * 3 + 3, none⟩) (n - i) (c - (i + 1)) by rw [show ((i : Int) + ((1 : Nat) : Int)).toNat = i + 1 by omega, subA_lit (by omega), Nat.zero_add, show n + 1 - (i + 1) = n - i by omega, Nat.add_mul]) ?_
        refine Z.val rfl rfl rfl rfl rfl (fun w1 => R.mv rfl) ?_
        refine Z.val rfl rfl rfl rfl rfl (fun w1 => R.mv rfl) ?_
        refine Z.val rfl rfl rfl rfl rfl (fun w1 => R.slL rfl rfl (by omega) (by omega)) ?_
        refine Z.be 76 rfl (show _ = Value.slice (some ⟨g0, i * 3, none⟩) (n + 1 - i) (c - i) by rw [Int.toNat_natCast, subA_lit (by omega), Nat.zero_add]) ?_
        refine Z.put (A := fun v _ => True) (Lasts.kill (fun _ _ _ _ h => h) (by decide +kernel)) 0 (by decide +kernel) rfl rfl rfl rfl rfl rfl rfl (fun w1 hJ => (R.copyN (m := n - i) rfl rfl (B0.ext0 hJ) (Cd.ext0 hJ) (Nat.min_eq_right (by omega)) hcd (by rw [hcd]; omega) hone2).mono (fun v w9 h => by obtain ⟨_, h1, h2, h3⟩ := h; exact ⟨trivial, h1, h1.after hJ, h3⟩)) ?_
        refine Z.nil rfl rfl (fun w1 hJ => ?_)
        obtain ⟨e3, B3⟩ := hJ
        intro v77 _
        have hvg : vb ≠ g0 := fun h => hvM (by rw [h]; simp)
        refine N.seq ?_
        refine G.seq ?_
        refine G.region ?_
        refine L.val rfl rfl (R.mv rfl) ?_
        refine L.val rfl rfl (R.mv rfl) ?_
        refine L.val rfl rfl (R.slL rfl rfl (by omega) (by omega)) ?_
        refine L.be 80 rfl (show _ = Value.slice (some ⟨g0, i * 3, none⟩) (n + 1 - i) (c - i) by rw [Int.toNat_natCast, subA_lit (by omega), Nat.zero_add]) ?_
        refine L.val rfl rfl (R.mv rfl) ?_
        refine L.do rfl rfl (R.copyN (m := 1) rfl rfl B3 (Cv.ext e3 (by intro q hq; cases hq; simpa using hvg)) (Nat.min_eq_left (by omega)) (by rw [hl2]) (by rw [hl2, hoi.2.1]; omega) hp1) ?_
        rintro _ w5 ⟨rfl, P5⟩
        obtain ⟨e5, hs5, B5⟩ := P5
        have hE5 := e3.transN e5 (fun x hx => .inl hx)
        refine L.nil ?_
        refine N.seq ?_
        refine G.seq ?_
        refine G.region ?_
        refine L.val rfl rfl (R.mv rfl) ?_
        refine L.val rfl rfl (R.as rfl) ?_
        refine L.nil ?_
        refine N.seq ?_
        refine G.ret1 rfl rfl ?_
        first
          | (have e9 : pcells ps ++ pcell p = pcells (ps.take i ++ p :: ps.drop i) := by rw [← pcells_ins, List.take_of_length_le (by omega), List.drop_of_length_le (by omega)]; simp [pcells]
             rw [e9] at o1; exact ⟨a1, c1, M1, rfl, e1, hM1, o1⟩)
          | (refine ⟨_, c1, [g1], rfl, n3.mono (by simp), fun x hx => .inr (by rw [List.mem_singleton.1 hx]; exact hg1), ?_⟩
             have hfin := hog.1; rw [pcells_ins, ← Nat.add_one_mul, ← Nat.add_mul, show i + 1 + (n - i) = n + 1 by omega] at hfin
             refine ⟨by rw [pcells_len (sv := 2) (fun q hq => (okIns hok hp q hq).1), List.length_append, List.length_cons, List.length_take, List.length_drop]; congr 1; omega, .inr ⟨g1, _, rfl, rfl, B3, by omega, hx1, ?_, hfin⟩⟩
             rw [← Nat.add_one_mul] at hog; rw [hog.2.2]; exact hz1)
          | (refine ⟨_, c, [g0], rfl, hE5, fun x hx => .inl hx, ?_⟩
             have hfin := hoi.1; rw [pcells_ins, ← Nat.add_one_mul] at hfin
             refine ⟨by rw [pcells_len (sv := 2) (fun q hq => (okIns hok hp q hq).1), List.length_append, List.length_cons, List.length_take, List.length_drop]; congr 1; omega, .inr ⟨g0, _, rfl, rfl, B5, by omega, hx0, ?_, hfin⟩⟩
             rw [hoi.2.2]; exact hz0)

end Go.Proofs.Ytmbppidafnakhaa
/-
  The walks of package order.
-/
set_option linter.unusedVariables false
set_option linter.unusedSimpArgs false
set_option maxRecDepth 4000
namespace Go.Proofs.Ytmbppidafnakhaa
open Go Brv
theorem scPoolheld_ok (a : Option Addr) (n c : Nat) (xs : List Value) (w : World) (hb : Cells w a xs) (hl : n * (1 + 2) = xs.length) (hone : ∀ u ∈ xs, u.oneCell' = true) (hn : n ≤ 1000000) : Meets Try.prog 60 [.slice a n c] w (Cloned w 114 (1 + 2) n xs) := by
  refine Meets.enter Try.func60 rfl 8 rfl (Nat.le_of_ble_eq_true rfl) ?_
  refine G.seq ?_
  refine G.region ?_
  refine L.val rfl rfl (R.as rfl) ?_
  refine L.nil ?_
  refine N.seq ?_
  refine G.seq ?_
  refine G.seq ?_
  refine G.region ?_
  refine L.val rfl rfl (R.mv rfl) ?_
  refine L.val rfl rfl (R.eqNilS rfl rfl) ?_
  refine L.nil ?_
  refine N.seq ?_
  refine G.condB rfl (fun h0 => ?_) (fun h0 => ?_)
  · obtain rfl : a = none := by simpa using h0
    obtain rfl := cells_none hb
    obtain rfl : n = 0 := by simp at hl; omega
    refine G.seq ?_
    refine G.region ?_
    refine L.val rfl rfl (R.as rfl) ?_
    refine L.nil ?_
    refine N.seq ?_
    refine G.ret1 rfl rfl ?_
    exact ⟨none, 0, [], rfl, Ext.refl _ _, Own.nil _ _ _, by simp⟩
  · refine G.skip ?_
    refine N.seq ?_
    refine G.seq ?_
    refine G.region ?_
    refine L.do rfl rfl (R.buildS rfl (by decide) rfl) ?_
    rintro _ w1 ⟨b5, rfl, hb5, hs5, e1, B5⟩
    have hb := hb.ext0 e1
    have o0 := Own.blk (n := 0) (size := 1 + 2) B5 (by simp) (by simp [maxLen])
    refine L.val rfl rfl (R.mv rfl) ?_
    refine L.do rfl rfl (R.app rfl rfl o0 hb hl.symm hone (by simp [maxLen]; omega) (by omega)) ?_
    rintro _ w2 ⟨a1, c1, M1, rfl, e2, hM1, o1⟩
    refine L.val rfl rfl (R.as rfl) ?_
    refine L.nil ?_
    refine N.seq ?_
    refine G.ret1 rfl rfl ?_
    exact ⟨a1, c1, M1, by rw [Nat.zero_add] , e1.trans e2 (by simp) (by simp; omega), by simpa using o1, by intro g hg; have := hM1 g hg; have := e1.size; simp at *; omega⟩

theorem onewPoolheld_ok  (w : World) : Meets Try.prog 28 [] w (fun v w' => ∃ b, v = .pointer (some ⟨b, 0, none⟩) ∧ w.heap.size ≤ b ∧ Ext [] w w' ∧ MapAt (κ := Int) 110 114 2 w' b [] [b]) := by
  refine Meets.enter Try.func28 rfl 3 rfl (Nat.le_of_ble_eq_true rfl) ?_
  have E := Ext.refl [] w
  refine G.seq ?_
  refine G.region ?_
  refine L.val rfl rfl (R.as rfl) ?_
  refine L.nil ?_
  refine N.seq ?_
  refine G.seq ?_
  refine G.region ?_
  refine L.val rfl rfl (R.build (cs := #[.slice none 0 0]) rfl rfl) ?_
  refine L.do rfl rfl (R.box rfl) ?_
  rintro _ w1 ⟨b, rfl, hb2, hs2, e1, B2⟩
  replace E := E.trans0 e1
  refine L.val rfl rfl (R.as rfl) ?_
  refine L.nil ?_
  refine N.seq ?_
  refine G.ret1 rfl rfl ?_
  exact ⟨b, rfl, by omega, E, MapAt.mk (M := []) (by simp) B2 rfl (Own.nil _ _ _) (by intro p hp; cases hp) List.Pairwise.nil⟩

def IsPrPoolheld (TP s : Nat) (p : Pr (Int)) (v : Value) (w : World) : Prop := ∃ vb, v = .slice (some ⟨vb, 0, none⟩) 1 1 ∧ s ≤ vb ∧ Blk w vb (pcell p).toArray TP (0, 0)
theorem IsPrPoolheld.keep (TP s : Nat) (p : Pr (Int)) : ∀ v w w', Ext [] w w' → IsPrPoolheld TP s p v w → IsPrPoolheld TP s p v w' := fun _ _ _ he ⟨vb, hv, h1, h2⟩ => ⟨vb, hv, h1, h2.ext0 he⟩
theorem putPoolheld_ok (m : Nat) (ps : List (Pr (Int))) (S : List Nat) (k : Int) (u : List Value) (w : World) (hd : MapAt (κ := Int) 110 114 2 w m ps S) (hl : ps.length ≤ 99999) (hu : u.length = 2 ∧ ∀ y ∈ u, y.oneCell' = true) : Meets Try.prog 30 [.pointer (some ⟨m, 0, none⟩), .int .i64 k, .agg u.toArray] w (fun v w' => v = .bool (!hasK ps k) ∧ ∃ S', Grown S S' w w' ∧ MapAt (κ := Int) 110 114 2 w' m (putK ps k u) S') := by
  refine Meets.enter Try.func30 rfl 39 rfl (Nat.le_of_ble_eq_true rfl) ?_
  have E := Ext.refl [] w
  have hd0 := hd
  obtain ⟨a, c, M, rfl, hm0, Bm, om, hok, hs⟩ := hd
  refine G.seq ?_
  refine G.region ?_
  refine L.do rfl rfl (R.box rfl) ?_
  rintro _ w1 ⟨b5, rfl, hb5, hs5, e1, B5⟩
  replace B5 : Blk w1 b5 u.toArray 76 (0, 0) := B5
  replace E := E.trans0 e1
  replace hd0 := hd0.ext0 e1
  replace Bm := Bm.ext0 e1
  replace om := om.ext0 e1
  refine L.val rfl rfl (R.as rfl) ?_
  refine L.nil ?_
  refine N.seq ?_
  refine G.seq ?_
  refine G.seq ?_
  refine G.region ?_
  refine L.val rfl rfl (R.mv rfl) ?_
  refine L.val rfl rfl (R.eqNilP rfl rfl) ?_
  refine L.nil ?_
  refine N.seq ?_
  refine G.condF rfl ?_
  refine G.skip ?_
  refine N.seq ?_
  refine G.seq ?_
  refine G.region ?_
  refine L.val rfl rfl (R.mv rfl) ?_
  refine L.val rfl rfl (R.mv rfl) ?_
  refine L.callF rfl rfl rfl go48 (findPoolheld_ok m ps (m :: M) k _ hd0 (by omega)) ?_
  rintro _ w2 ⟨rfl, e2⟩
  replace E := E.trans0 e2
  replace B5 := B5.ext0 e2
  replace Bm := Bm.ext0 e2
  replace om := om.ext0 e2
  refine L.val rfl rfl (R.mv rfl) ?_
  refine L.val rfl rfl (R.ext rfl rfl) ?_
  refine L.val rfl rfl (R.ext rfl rfl) ?_
  refine L.val rfl rfl (R.as rfl) ?_
  refine L.val rfl rfl (R.as rfl) ?_
  refine L.nil ?_
  refine N.seq ?_
  refine G.seq ?_
  refine G.seq ?_
  refine G.region ?_
  refine L.val rfl rfl (R.mv rfl) ?_
  refine L.nil ?_
  refine N.seq ?_
  refine G.condB rfl (fun h1 => ?_) (fun h1 => ?_)
  · have hk : hasK ps k = true := h1
    have hlt := hasK_lt hk
    obtain ⟨g, cur, rfl, rfl, Bg, hnc, hcm, hcs, ht⟩ := om.some (by omega)
    have hgm : m ≠ g := fun h => hm0 (by simp [h])
    have hsz : low ps k * 3 + 3 ≤ cur.size := by
      have h9 : (low ps k + 1) * 3 ≤ c * 3 := Nat.mul_le_mul_right _ (by omega)
      rw [Nat.add_mul, Nat.one_mul] at h9
      exact Nat.le_trans h9 hcs
    refine G.seq ?_
    refine G.staged [8] [.blocks ([g])] [Ext [] w2, fun w' => Ext [g] w2 w' ∧ Blk w' g (cur.toList.take (low ps k * 3 + 1) ++ u ++ cur.toList.drop (low ps k * 3 + 1 + u.length)).toArray 114 (0, 0)] [] (by decide +kernel) (by decide +kernel) rfl rfl rfl (fun _ h => h) ?_
    refine Z.val rfl rfl rfl rfl rfl (fun w3 => R.mv rfl) ?_
    refine Z.val rfl rfl rfl rfl rfl (fun w3 => R.nilChk rfl) ?_
    refine Z.val rfl rfl rfl rfl rfl (fun w3 => R.fld rfl) ?_
    refine Z.read 0 (by decide +kernel) rfl rfl rfl rfl rfl rfl (fun w3 hJ => R.ldB rfl (Bm.ext0 hJ) rfl) ?_
    refine Z.val rfl rfl rfl rfl rfl (fun w3 => R.mv rfl) ?_
    refine Z.read 0 (by decide +kernel) rfl rfl rfl rfl rfl rfl (fun w3 hJ => R.ldBN rfl (B5.ext0 hJ) (by simpa using hu.1)) ?_
    refine Z.val rfl rfl rfl rfl rfl (fun w3 => R.idx rfl rfl (by omega) (by omega) _ rfl) ?_
    refine Z.be 24 rfl (show _ = Value.pointer (some ⟨g, low ps k * 3, none⟩) by rw [Int.toNat_natCast, Go.Addr.add_lit, Nat.zero_add]) ?_
    refine Z.val rfl rfl rfl rfl rfl (fun w3 => R.fld rfl) ?_
    refine Z.set 0 (by decide +kernel) rfl rfl rfl rfl rfl rfl (fun w3 hJ => (R.stN (vs := u.toArray) rfl rfl (Bg.ext0 hJ) (by simpa using hu.1) (by have h9 := hu.1; simp; omega) (by simpa using hu.2)).mono (fun _ h => ⟨h.1, h.1.after hJ, h.2.2⟩)) ?_
    refine Z.nil rfl rfl (fun w3 hJ => ?_)
    obtain ⟨e3, Bg3⟩ := hJ
    replace Bm := Bm.ext e3 (by simpa using hgm)
    have o2 := own_set (v := u) rfl hok hs hk hu.1 hnc hcm hcs ht Bg3
    have X := e3.after E
    refine N.seq ?_
    refine G.seq ?_
    refine G.region ?_
    refine L.val rfl rfl (R.as rfl) ?_
    refine L.nil ?_
    refine N.seq ?_
    refine G.ret1 rfl rfl ?_
    first
      | exact ⟨by rw [hk]; rfl, [m, g], ⟨X.mono (fun x hx => .inl (List.mem_cons_of_mem _ hx)), fun x hx => .inl hx⟩, MapAt.mk hm0 Bm (by rw [put_len, if_pos hk]) o2 (hok.put hu) (sorted_put hs _ _)⟩
      | exact ⟨by rw [hk]; rfl, m :: M3, ⟨X, fun x hx => (List.mem_cons.1 hx).elim (fun h => .inl (by simp [h])) (fun h => (hM3 x h).elim (fun h => .inl (List.mem_cons_of_mem _ h)) (fun h => .inr (by omega)))⟩, MapAt.mk hm3 Bm3 (by rw [put_len, if_neg (by simp [hk])]) (by rw [putK_no hk]; exact o4) (hok.put hu) (sorted_put hs _ _)⟩
  · have hk : hasK ps k = false := h1
    have hio := low_le ps k
    have hMl := om.lt
    have hml := Bm.lt
    have hE2 := E.size
    have hsz2 : (pcell ((k, u) : Pr (Int))).length = 3 := by show u.length + 1 = _; rw [hu.1]
    refine G.skip ?_
    refine N.seq ?_
    refine G.seq ?_
    refine G.staged [10, 13] [.blocks (M), .blocks ([m])] [Ext [] w2, Ext M w2, fun w' => ∃ a3 c3 M3, Blk w' m #[.slice a3 (ps.length + 1) c3] 110 (0, 0) ∧ Own w' 114 (1 + 2) a3 (ps.length + 1) c3 (pcells (ps.take (low ps k) ++ ((k, u) : Pr (Int)) :: ps.drop (low ps k))) M3 ∧ (∀ g ∈ M3, g ∈ M ∨ w2.heap.size ≤ g) ∧ Ext (m :: M) w2 w'] [(10, 35), (13, 35), (13, 36)] (by decide +kernel) (by decide +kernel) rfl rfl rfl (fun _ h => h) ?_
    refine Z.val rfl rfl rfl rfl rfl (fun w3 => R.mv rfl) ?_
    refine Z.val rfl rfl rfl rfl rfl (fun w3 => R.mv rfl) ?_
    refine Z.val rfl rfl rfl rfl rfl (fun w3 => R.nilChk rfl) ?_
    refine Z.val rfl rfl rfl rfl rfl (fun w3 => R.fld rfl) ?_
    refine Z.read 0 (by decide +kernel) rfl rfl rfl rfl rfl rfl (fun w3 hJ => R.ldB rfl (Bm.ext0 hJ) rfl) ?_
    refine Z.val rfl rfl rfl rfl rfl (fun w3 => R.mv rfl) ?_
    refine Z.val rfl rfl rfl rfl rfl (fun w3 => R.mv rfl) ?_
    refine Z.read 0 (by decide +kernel) rfl rfl rfl rfl rfl rfl (fun w3 hJ => R.ldBN rfl (B5.ext0 hJ) (by simpa using hu.1)) ?_
    refine Z.val rfl rfl rfl rfl rfl (fun w3 => R.build (cs := (pcell ((k, u) : Pr (Int))).toArray) rfl (fill_two rfl rfl rfl (by simpa using hu.1) rfl)) ?_
    refine Z.new (A := IsPrPoolheld 114 w2.heap.size ((k, u) : Pr (Int))) (Lasts.kill (IsPrPoolheld.keep _ _ _) (by decide +kernel)) 0 (by decide +kernel) rfl rfl rfl rfl rfl (fun w3 hJ => (R.buildA rfl rfl rfl rfl (by show (Nat.beq (pcell ((k, u) : Pr (Int))).toArray.size 3 && true) = true; rw [List.size_toArray, hsz2]; rfl)).mono (fun v w1 h => by obtain ⟨g9, rfl, h91, _, e9, B9⟩ := h; exact ⟨⟨g9, rfl, by have := hJ.size; omega, by simpa [cellsOf, Value.cells] using B9⟩, e9, hJ.trans0 e9⟩)) ?_
    refine Z.callPut (A := Held M w2.heap.size 114 (1 + 2) (ps.length + 1) (pcells (ps.take (low ps k) ++ ((k, u) : Pr (Int)) :: ps.drop (low ps k)))) (Lasts.kill (Held.keep _ _ _ _ _ _) (by decide +kernel)) 0 (by decide +kernel) rfl rfl rfl rfl rfl rfl go49 (fun w3 hJ => fun v hv => by obtain ⟨vb, rfl, hvb, Bv⟩ := hv; exact ⟨_, rfl, (insPoolheld_ok a ps.length c ps M (low ps k) ((k, u) : Pr (Int)) vb _ (om.ext0 hJ) rfl hok hio hu Bv (fun h => by have := hMl vb h; omega) (by omega)).mono (fun v w9 h => by obtain ⟨a3, c3, M3, rfl, e9, hM3, o3⟩ := h; exact ⟨⟨a3, c3, M3, rfl, o3, fun g hg => (hM3 g hg).imp id (Nat.le_trans hJ.size)⟩, e9, e9.after hJ⟩)⟩) ?_
    refine Z.val rfl rfl rfl rfl rfl (fun w3 => R.nilChk rfl) ?_
    refine Z.val rfl rfl rfl rfl rfl (fun w3 => R.fld rfl) ?_
    refine Z.set 1 (by decide +kernel) rfl rfl rfl rfl rfl rfl (fun w3 hJ => fun v hv => (R.st rfl rfl (Bm.ext hJ hm0) (by show 0 < 1; decide) (by obtain ⟨_, _, _, rfl, _⟩ := hv; rfl)).mono (fun _ h => ⟨h.1, by obtain ⟨a3, c3, M3, rfl, o3, hM3⟩ := hv; exact ⟨a3, c3, M3, h.2.2, o3.ext h.1 (fun g hg hm => (hM3 g hg).elim (fun h9 => hm0 (by rw [← List.mem_singleton.1 hm]; exact h9)) (fun h9 => by rw [List.mem_singleton.1 hm] at h9; omega)), hM3, (hJ.mono (fun y hy => .inl (List.mem_cons_of_mem _ hy))).transN h.1 (fun y hy => .inl (by rw [List.mem_singleton.1 hy]; simp))⟩⟩)) ?_
    refine Z.nil rfl rfl (fun w3 hJ => ?_)
    obtain ⟨a3, c3, M3, Bm3, o4, hM3, X0⟩ := hJ
    have X := X0.after E
    have hm3 : m ∉ M3 := fun h => (hM3 m h).elim hm0 (by omega)
    refine N.seq ?_
    refine G.seq ?_
    refine G.region ?_
    refine L.val rfl rfl (R.as rfl) ?_
    refine L.nil ?_
    refine N.seq ?_
    refine G.ret1 rfl rfl ?_
    first
      | exact ⟨by rw [hk]; rfl, [m, g], ⟨X.mono (fun x hx => .inl (List.mem_cons_of_mem _ hx)), fun x hx => .inl hx⟩, MapAt.mk hm0 Bm (by rw [put_len, if_pos hk]) o2 (hok.put hu) (sorted_put hs _ _)⟩
      | exact ⟨by rw [hk]; rfl, m :: M3, ⟨X, fun x hx => (List.mem_cons.1 hx).elim (fun h => .inl (by simp [h])) (fun h => (hM3 x h).elim (fun h => .inl (List.mem_cons_of_mem _ h)) (fun h => .inr (by omega)))⟩, MapAt.mk hm3 Bm3 (by rw [put_len, if_neg (by simp [hk])]) (by rw [putK_no hk]; exact o4) (hok.put hu) (sorted_put hs _ _)⟩

theorem getPoolheld_ok (m : Nat) (ps : List (Pr (Int))) (S : List Nat) (k : Int) (w : World) (hd : MapAt (κ := Int) 110 114 2 w m ps S) (hl : ps.length ≤ 99999) : Meets Try.prog 32 [.pointer (some ⟨m, 0, none⟩), .int .i64 k] w (fun v w' => v = .tuple #[gvA (.agg #[.slice none 0 0, .bool false]) (getK ps k), .bool (hasK ps k)] ∧ Ext [] w w') := by
  refine Meets.enter Try.func32 rfl 29 rfl (Nat.le_of_ble_eq_true rfl) ?_
  have E := Ext.refl [] w
  have hd0 := hd
  obtain ⟨a, c, M, rfl, hm0, Bm, om, hok, hs⟩ := hd
  refine G.seq ?_
  refine G.region ?_
  refine L.do rfl rfl (R.alloc) ?_
  rintro _ w1 ⟨b4, rfl, hb4, hs4, e1, B4⟩
  replace B4 : Blk w1 b4 #[.slice none 0 0, .bool false] 76 (0, 0) := B4
  replace E := E.trans0 e1
  replace hd0 := hd0.ext0 e1
  replace Bm := Bm.ext0 e1
  replace om := om.ext0 e1
  refine L.val rfl rfl (R.as rfl) ?_
  refine L.nil ?_
  refine N.seq ?_
  refine G.seq ?_
  refine G.region ?_
  refine L.do rfl rfl (R.alloc) ?_
  rintro _ w2 ⟨b6, rfl, hb6, hs6, e2, B6⟩
  replace B6 : Blk w2 b6 #[.slice none 0 0, .bool false] 76 (0, 0) := B6
  replace E := E.trans0 e2
  replace hd0 := hd0.ext0 e2
  replace Bm := Bm.ext0 e2
  replace om := om.ext0 e2
  replace B4 := B4.ext0 e2
  refine L.nil ?_
  refine N.seq ?_
  refine G.seq ?_
  refine G.seq ?_
  refine G.region ?_
  refine L.val rfl rfl (R.mv rfl) ?_
  refine L.val rfl rfl (R.eqNilP rfl rfl) ?_
  refine L.nil ?_
  refine N.seq ?_
  refine G.condF rfl ?_
  refine G.skip ?_
  refine N.seq ?_
  refine G.seq ?_
  refine G.region ?_
  refine L.val rfl rfl (R.mv rfl) ?_
  refine L.val rfl rfl (R.mv rfl) ?_
  refine L.callF rfl rfl rfl go48 (findPoolheld_ok m ps (m :: M) k _ hd0 (by omega)) ?_
  rintro _ w3 ⟨rfl, e3⟩
  replace E := E.trans0 e3
  have l4 := B4.lt
  have hE3 := E.size
  replace Bm := Bm.ext0 e3
  replace om := om.ext0 e3
  replace B4 := B4.ext0 e3
  replace B6 := B6.ext0 e3
  refine L.val rfl rfl (R.mv rfl) ?_
  refine L.val rfl rfl (R.ext rfl rfl) ?_
  refine L.val rfl rfl (R.ext rfl rfl) ?_
  refine L.val rfl rfl (R.as rfl) ?_
  refine L.val rfl rfl (R.as rfl) ?_
  refine L.nil ?_
  refine N.seq ?_
  refine G.seq ?_
  refine G.seq ?_
  refine G.region ?_
  refine L.val rfl rfl (R.mv rfl) ?_
  refine L.val rfl rfl (R.not rfl) ?_
  refine L.nil ?_
  refine N.seq ?_
  refine G.condB rfl (fun h1 => ?_) (fun h1 => ?_)
  · have hk : hasK ps k = false := by simpa using h1
    have hsz4 : (#[.slice none 0 0, .bool false] : Array Value).size = 2 := rfl
    refine G.seq ?_
    refine G.region ?_
    refine L.val rfl rfl (R.ldBN rfl B6 rfl) ?_
    refine L.set rfl (R.stN rfl rfl B4 rfl (Nat.le_refl 2) (by intro y hy; simp at hy; first | (subst hy; rfl) | (rcases hy with rfl | rfl <;> rfl) | (rcases hy with rfl | rfl | rfl <;> rfl) | (rcases hy with rfl | rfl | rfl | rfl <;> rfl) | (rcases hy with rfl | rfl | rfl | rfl | rfl <;> rfl))) ?_
    rintro w5 ⟨e5, hs5, B4⟩
    replace B4 : Blk w5 b4 #[.slice none 0 0, .bool false] 76 (0, 0) := B4
    replace E := E.trans e5 (M := []) (by simp) (by intro y hy; rw [List.mem_singleton.1 hy]; exact .inr (by omega))
    refine L.val rfl rfl (R.as rfl) ?_
    refine L.nil ?_
    refine N.seq ?_
    refine G.retCT (s := 2) rfl rfl rfl B4 hsz4 ?_
    first
      | (rw [getK_no hk, hk]; exact ⟨rfl, E⟩)
      | (rw [getK_yes hk hp, hk]; exact ⟨rfl, E⟩)
  · have hk : hasK ps k = true := by simpa using h1
    have hlt := hasK_lt hk
    obtain ⟨g, cur, rfl, rfl, Bg, hnc, hcm, hcs, ht⟩ := om.some (by omega)
    have hgm : m ≠ g := fun h => hm0 (by simp [h])
    have hsz : low ps k * 3 + 3 ≤ cur.size := by
      have h9 : (low ps k + 1) * 3 ≤ c * 3 := Nat.mul_le_mul_right _ (by omega)
      rw [Nat.add_mul, Nat.one_mul] at h9
      exact Nat.le_trans h9 hcs
    obtain ⟨p, hp⟩ : ∃ p, ps[low ps k]? = some p := ⟨_, List.getElem?_eq_getElem hlt⟩
    have hpl := hok p (List.mem_of_getElem? hp)
    have hsz4 : p.2.toArray.size = 2 := by simpa using hpl.1
    refine G.skip ?_
    refine N.seq ?_
    refine G.seq ?_
    refine G.region ?_
    refine L.val rfl rfl (R.mv rfl) ?_
    refine L.val rfl rfl (R.nilChk rfl) ?_
    refine L.val rfl rfl (R.fld rfl) ?_
    refine L.val rfl rfl (R.ldB rfl Bm rfl) ?_
    refine L.val rfl rfl (R.mv rfl) ?_
    refine L.val rfl rfl (R.idx rfl rfl (by omega) (by omega) _ rfl) ?_
    refine L.be 26 rfl (show _ = Value.pointer (some ⟨g, low ps k * 3, none⟩) by rw [Int.toNat_natCast, Go.Addr.add_lit, Nat.zero_add]) ?_
    refine L.val rfl rfl (R.fld rfl) ?_
    refine L.val rfl rfl (R.ldN (vs := p.2) rfl (Cells.of_blk Bg (low ps k * 3 + 1) p.2 (fun j v hj => by rw [Nat.add_assoc]; exact row_at ht hok hp (by show (Key.val p.1 :: p.2)[1 + j]? = some v; rw [Nat.add_comm 1 j]; exact hj))) hpl.1) ?_
    refine L.set rfl (R.stN (vs := p.2.toArray) rfl rfl B4 hsz4 (by show 0 + p.2.toArray.size ≤ 2; omega) (by simpa using hpl.2)) ?_
    rintro w5 ⟨e5, hs5, B4⟩
    rw [over_all (show (#[.slice none 0 0, .bool false] : Array Value).size = p.2.toArray.size from hsz4.symm)] at B4
    replace E := E.trans e5 (M := []) (by simp) (by intro y hy; rw [List.mem_singleton.1 hy]; exact .inr (by omega))
    refine L.val rfl rfl (R.as rfl) ?_
    refine L.nil ?_
    refine N.seq ?_
    refine G.retCT (s := 2) rfl rfl rfl B4 hsz4 ?_
    first
      | (rw [getK_no hk, hk]; exact ⟨rfl, E⟩)
      | (rw [getK_yes hk hp, hk]; exact ⟨rfl, E⟩)

end Go.Proofs.Ytmbppidafnakhaa
/-
  The walks of package order.
-/
set_option linter.unusedVariables false
set_option linter.unusedSimpArgs false
set_option maxRecDepth 4000
namespace Go.Proofs.Ytmbppidafnakhaa
open Go Brv
end Go.Proofs.Ytmbppidafnakhaa
/-
  The walks of package order.
-/
set_option linter.unusedVariables false
set_option linter.unusedSimpArgs false
set_option maxRecDepth 4000
namespace Go.Proofs.Ytmbppidafnakhaa
open Go Brv
theorem pallPoolheld_ok (a : Option Addr) (n c : Nat) (w : World) : Meets Try.prog 59 [.slice a n c] w (fun v w' => ∃ b0, v = .func (.func 73) #[] #[.pointer (some ⟨b0, 0, none⟩)] ∧ Ext [] w w' ∧ Blk w' b0 #[.slice a n c] 108 (0, 0) ∧ w.heap.size ≤ b0) := by
  refine Meets.enter Try.func59 rfl 4 rfl (Nat.le_of_ble_eq_true rfl) ?_
  have E := Ext.refl [] w
  refine G.seq ?_
  refine G.region ?_
  refine L.do rfl rfl (R.box rfl) ?_
  rintro _ w1 ⟨b0, rfl, hb1, hs1, e1, B1⟩
  replace E := E.trans0 e1
  refine L.val rfl rfl (R.as rfl) ?_
  refine L.nil ?_
  refine N.seq ?_
  refine G.seq ?_
  refine G.region ?_
  refine L.val rfl rfl (R.mkFunc rfl rfl) ?_
  refine L.val rfl rfl (R.as rfl) ?_
  refine L.nil ?_
  refine N.seq ?_
  refine G.ret1 rfl rfl ?_
  exact ⟨b0, rfl, E, B1, by omega⟩

theorem pall1Poolheld_ok (y : Value) (b0 : Nat) (a : Option Addr) (n c : Nat) (ps : List (Pr (Int))) (Ma : List Nat) (D₀ : List Nat) (J Jx : Nat → List Nat → World → Prop) (w : World) (hB0 : Blk w b0 #[.slice a n c] 108 (0, 0)) (ho : Own w 114 (1 + 2) a n c (pcells ps) Ma) (hn : n = ps.length) (hok : OkP 2 ps) (hnl : n ≤ 1000000) (hD : ∀ g ∈ D₀, g < w.heap.size ∧ g ∉ b0 :: Ma ∧ g ∉ ([] : List Nat)) (hJ : ∀ k D W₁ W₂ M', J k D W₁ → Ext M' W₁ W₂ → (∀ g ∈ M', g ∉ D ∧ (g ∈ ([] : List Nat) ∨ w.heap.size ≤ g)) → J k D W₂) (hJx : ∀ k D W₁ W₂ M', Jx k D W₁ → Ext M' W₁ W₂ → (∀ g ∈ M', g ∉ D ∧ (g ∈ ([] : List Nat) ∨ w.heap.size ≤ g)) → Jx k D W₂) (hY : ∀ k D vs W₁, k < n → J k D W₁ → prE (fun k => ps[k]?) k vs W₁ → (∀ g ∈ D, g < W₁.heap.size) → YCall Try.prog y vs W₁ fun b W₂ => ∃ D', Ext D W₁ W₂ ∧ (∀ g ∈ D', g < W₂.heap.size ∧ (g ∈ D ∨ W₁.heap.size ≤ g)) ∧ (b = true → J (k + 1) D' W₂) ∧ (b = false → Jx (k + 1) D' W₂)) (h0 : J 0 D₀ w) : Meets Try.prog 73 [y, .pointer (some ⟨b0, 0, none⟩)] w (fun _ W₂ => (∃ D, J n D W₂ ∧ True) ∨ ∃ k D, k ≤ n ∧ Jx k D W₂ ∧ True) := by
  refine Meets.enter Try.func73 rfl 18 rfl (Nat.le_of_ble_eq_true rfl) ?_
  have hb0D : b0 ∉ D₀ := fun h => (hD _ h).2.1 (by simp)
  have hMD : ∀ g ∈ Ma, g ∉ D₀ := fun g hg h => (hD _ h).2.1 (by simp [hg])
  refine G.seq ?_
  refine G.region ?_
  refine L.val rfl rfl (R.ldB rfl hB0 rfl) ?_
  refine L.val rfl rfl (R.lenS rfl) ?_
  refine L.val rfl rfl (R.mv rfl) ?_
  refine L.nil ?_
  refine N.seq ?_
  refine G.block ?_
  refine G.loop (X := Nat) (fun i => [(0, y), (5, .slice a n c), (6, .int .i64 (n : Int)), (7, .int .i64 (i : Int))]) (fun i w' => i ≤ n ∧ (∃ D, J i D w' ∧ ∀ g ∈ D, g < w'.heap.size ∧ (g ∈ D₀ ∨ w.heap.size ≤ g)) ∧ Ext D₀ w w') (fun i => n - i) (0) (Sub.cons rfl (Sub.cons rfl (Sub.cons rfl (Sub.cons rfl (Sub.nil _))))) ⟨Nat.zero_le _, ⟨D₀, h0, fun g hg => ⟨(hD g hg).1, .inl hg⟩⟩, Ext.refl _ _⟩ ?_
  rintro i w1 ⟨hi, ⟨D, hJi, hDD⟩, e1⟩
  have ho1 := ho.ext e1 hMD
  have B0 := hB0.ext e1 hb0D
  refine G.seq ?_
  refine G.region ?_
  refine L.val rfl rfl (R.lss rfl rfl) ?_
  refine L.nil ?_
  refine N.seq ?_
  refine G.seq ?_
  refine G.condP rfl (fun h0 => ?_) (fun h0 => ?_)
  · have hil : i < n := by omega
    have hes := e1.size
    obtain ⟨p, hp⟩ : ∃ p, ps[i]? = some p := ⟨_, List.getElem?_eq_getElem (by omega)⟩
    obtain ⟨q, hq, hcl⟩ := (Tab.pairs ho1.cells hn hok).at (by decide) i (by rw [List.length_map]; omega)
    have he : (ps.map pcell)[i]'(by rw [List.length_map]; omega) = pcell p := by rw [List.getElem_map]; exact congrArg pcell (List.getElem?_eq_some_iff.1 hp).2
    rw [he] at hcl
    have hsz : (pcell p).length = 3 := by show p.2.length + 1 = _; rw [(hok p (List.mem_of_getElem? hp)).1]
    have hsA : (pcell p).toArray.size = 3 := by rw [List.size_toArray]; exact hsz
    have h1c : ∀ u ∈ (pcell p).toArray.toList, u.oneCell' = true := pcell1 (hok p (List.mem_of_getElem? hp)).2
    refine G.skip ?_
    refine N.seq ?_
    refine G.seq ?_
    refine G.block ?_
    refine G.seq ?_
    refine G.region ?_
    refine L.val rfl rfl (R.mv rfl) ?_
    refine L.val rfl rfl (R.idx rfl rfl (by omega) (by omega) q hq) ?_
    refine L.val rfl rfl (R.ldN (vs := pcell p) rfl hcl hsz) ?_
    refine L.do rfl rfl (R.alloc) ?_
    rintro _ w2 ⟨b4, rfl, hb4, hs4, e2, B4⟩
    have hDb : ∀ g ∈ D, g < b4 := fun g hg => by have := (hDD g hg).1; omega
    replace B4 : Blk w2 b4 (.agg #[.int .i64 0, .slice none 0 0, .bool false] : Value).cells 114 (0, 0) := B4
    replace hJi := hJ _ D w1 w2 [] hJi e2 (by simp)
    replace hDD := fun g hg => And.intro (Nat.lt_of_lt_of_le (hDD g hg).1 e2.size) (hDD g hg).2
    replace e1 := e1.trans0 e2
    have hws := e1.size
    refine L.val rfl rfl (R.as rfl) ?_
    refine L.set rfl (R.stN rfl rfl B4 hsA (by show 0 + (pcell p).toArray.size ≤ 3; omega) h1c) ?_
    rintro w3 ⟨e3, hs3, B4⟩
    rw [over_all (show (.agg #[.int .i64 0, .slice none 0 0, .bool false] : Value).cells.size = (pcell p).toArray.size from hsA.symm)] at B4
    replace hJi := hJ _ D w2 w3 [b4] hJi e3 (fun g hg => by rw [List.mem_singleton.1 hg]; exact ⟨fun h => by have := hDb _ h; omega, .inr (by omega)⟩)
    replace hDD := fun g hg => And.intro (Nat.lt_of_lt_of_le (hDD g hg).1 e3.size) (hDD g hg).2
    replace e1 := e1.transN e3 (fun g hg => .inr (by rw [List.mem_singleton.1 hg]; omega))
    refine L.nil ?_
    refine N.seq ?_
    refine G.seq ?_
    refine G.region ?_
    refine L.val rfl rfl (R.mv rfl) ?_
    refine L.val rfl rfl (R.mv rfl) ?_
    refine L.val rfl rfl (R.ldBN rfl B4 hsA) ?_
    refine L.ycall rfl rfl rfl rfl (hY i D _ _ hil hJi ⟨p, _, hp, rfl⟩ (fun g hg => (hDD g hg).1)) ?_
    rintro bb w4 ⟨D2, eD, hD2, hT, hF⟩
    refine L.val rfl rfl (R.not rfl) ?_
    refine L.nil ?_
    refine N.seq ?_
    refine G.condB rfl (fun h1 => ?_) (fun h1 => ?_)
    · obtain rfl : bb = false := by simpa using h1
      refine G.ret0 rfl ?_
      exact .inr ⟨i + 1, D2, by omega, hF rfl, trivial⟩
    · obtain rfl : bb = true := by simpa using h1
      refine G.skip ?_
      refine N.block ?_
      refine N.seq ?_
      refine G.region ?_
      refine L.val rfl rfl (R.add rfl rfl (by omega)) ?_
      refine L.val rfl rfl (R.mv rfl) ?_
      refine L.nil ?_
      exact N.again (i + 1) (by omega) (Sub.cons rfl (Sub.cons rfl (Sub.cons rfl (Sub.cons rfl (Sub.nil _))))) ⟨by omega, ⟨D2, hT rfl, fun g hg => ⟨(hD2 g hg).1, (hD2 g hg).2.elim (fun h => (hDD g h).2) (fun h => .inr (Nat.le_trans e1.size h))⟩⟩, e1.transN eD (fun g hg => (hDD g hg).2)⟩
  · refine G.exit _ rfl ?_
    refine N.end0 rfl ?_
    obtain rfl : i = n := by omega
    exact .inl ⟨D, hJi, trivial⟩

theorem pallPoolheld_iter (b0 : Nat) (a : Option Addr) (n c : Nat) (ps : List (Pr (Int))) (Ma : List Nat) (w : World) (hB0 : Blk w b0 #[.slice a n c] 108 (0, 0)) (ho : Own w 114 (1 + 2) a n c (pcells ps) Ma) (hn : n = ps.length) (hok : OkP 2 ps) (hnl : n ≤ 1000000) : Iter Try.prog 73 [.pointer (some ⟨b0, 0, none⟩)] w n (prE (fun k => ps[k]?)) (fun _ _ => True) (b0 :: Ma) [] := by
  intro y D₀ J Jx W hE hD hJ hJx hY h0
  exact pall1Poolheld_ok y b0 a n c ps Ma D₀ J Jx W (hB0.ext0 hE) (ho.ext0 hE) hn hok hnl hD (fun k D W₁ W₂ M' h he hm => hJ k D W₁ W₂ M' h he (fun g hg => ⟨(hm g hg).1, (hm g hg).2.imp id (Nat.le_trans hE.size)⟩)) (fun k D W₁ W₂ M' h he hm => hJx k D W₁ W₂ M' h he (fun g hg => ⟨(hm g hg).1, (hm g hg).2.imp id (Nat.le_trans hE.size)⟩)) hY h0

theorem walkPoolheld_ok (gf : FuncId) (lb : List Value) (w : World) : Meets Try.prog 58 [.func (.func gf) #[] lb.toArray] w (fun v w' => ∃ b1, v = .func (.func 72) #[] #[.pointer (some ⟨b1, 0, none⟩)] ∧ Ext [] w w' ∧ Blk w' b1 #[.func (.func gf) #[] lb.toArray] 130 (0, 0) ∧ w.heap.size ≤ b1) := by
  refine Meets.enter Try.func58 rfl 4 rfl (Nat.le_of_ble_eq_true rfl) ?_
  have E := Ext.refl [] w
  refine G.seq ?_
  refine G.region ?_
  refine L.do rfl rfl (R.box rfl) ?_
  rintro _ w1 ⟨b1, rfl, hb1, hs1, e1, B1⟩
  replace E := E.trans0 e1
  refine L.val rfl rfl (R.as rfl) ?_
  refine L.nil ?_
  refine N.seq ?_
  refine G.seq ?_
  refine G.region ?_
  refine L.val rfl rfl (R.mkFunc rfl rfl) ?_
  refine L.val rfl rfl (R.as rfl) ?_
  refine L.nil ?_
  refine N.seq ?_
  refine G.ret1 rfl rfl ?_
  exact ⟨b1, rfl, E, B1, by omega⟩

theorem walk1Poolheld_ok (y : Value) (b1 : Nat) (gf : FuncId) (lb : List Value) (Nn : Nat) (q : Nat → Option (Pr (Int))) (F : List Nat) (D₀ : List Nat) (J Jx : Nat → List Nat → World → Prop) (w : World) (hB1 : Blk w b1 #[.func (.func gf) #[] lb.toArray] 130 (0, 0)) (eg : ∀ (vs : Array Value) w, (callFunc gf vs).run Try.prog w = .ok (.enter gf vs) w) (hit : ∀ W, Ext [] w W → Iter Try.prog gf lb W Nn (prE q) (fun _ _ => True) F []) (hF : ∀ x ∈ F, x < w.heap.size) (hq : ∀ k (p : Pr (Int)), q k = some p → p.2.length = 2 ∧ ∀ u ∈ p.2, u.oneCell' = true) (hD : ∀ g ∈ D₀, g < w.heap.size ∧ g ∉ b1 :: F ∧ g ∉ ([] : List Nat)) (hJ : ∀ k D W₁ W₂ M', J k D W₁ → Ext M' W₁ W₂ → (∀ g ∈ M', g ∉ D ∧ (g ∈ ([] : List Nat) ∨ w.heap.size ≤ g)) → J k D W₂) (hJx : ∀ k D W₁ W₂ M', Jx k D W₁ → Ext M' W₁ W₂ → (∀ g ∈ M', g ∉ D ∧ (g ∈ ([] : List Nat) ∨ w.heap.size ≤ g)) → Jx k D W₂) (hY : ∀ k D vs W₁, k < Nn → J k D W₁ → (kvE (fun l => Value.agg l.toArray) q) k vs W₁ → (∀ g ∈ D, g < W₁.heap.size) → YCall Try.prog y vs W₁ fun b W₂ => ∃ D', Ext D W₁ W₂ ∧ (∀ g ∈ D', g < W₂.heap.size ∧ (g ∈ D ∨ W₁.heap.size ≤ g)) ∧ (b = true → J (k + 1) D' W₂) ∧ (b = false → Jx (k + 1) D' W₂)) (h0 : J 0 D₀ w) : Meets Try.prog 72 [y, .pointer (some ⟨b1, 0, none⟩)] w (fun _ W₂ => (∃ D, J Nn D W₂ ∧ True) ∨ ∃ k D, k ≤ Nn ∧ Jx k D W₂ ∧ True) := by
  refine Meets.enter Try.func72 rfl 15 rfl (Nat.le_of_ble_eq_true rfl) ?_
  refine G.seq ?_
  refine G.region ?_
  refine L.do rfl rfl (R.box rfl) ?_
  rintro _ w1 ⟨b2, rfl, hb2, hs2, e1, B2⟩
  have hw1 := e1.size
  refine L.nil ?_
  refine N.seq ?_
  refine G.seq ?_
  refine G.region ?_
  refine L.val rfl rfl (R.ldB rfl (hB1.ext0 e1) rfl) ?_
  refine L.nil ?_
  refine N.seq ?_
  refine G.block ?_
  have hD0 : ∀ g ∈ b2 :: D₀, g < w1.heap.size ∧ g ∉ F ∧ g ∉ ([] : List Nat) := by
    intro g hg
    rcases List.mem_cons.1 hg with rfl | hg
    · exact ⟨by omega, fun h => by have := hF _ h; omega, by simp⟩
    · exact ⟨Nat.lt_of_lt_of_le (hD g hg).1 hw1, fun h => (hD g hg).2.1 (List.mem_cons_of_mem _ h), by simp⟩
  have hI0 : wkI J b2 80 y 0 (b2 :: D₀) w1 := ⟨D₀, rfl, fun h => by have := (hD _ h).1; omega, hJ 0 D₀ w w1 [] h0 e1 (by simp), B2⟩
  refine G.range (lb := lb) rfl rfl eg (hit _ e1) (fun _ _ _ h _ => h) (b2 :: D₀) hD0 (fun x h => h.elim (fun h => Nat.lt_of_lt_of_le (hF x h) hw1) (by simp)) (wkI J b2 80 y) (wkX Jx b2) ?_ ?_ hI0 ?_ ?_ ?_
  · rintro k DD W1 W2 M2 ⟨D, rfl, hn2, hj, hb⟩ he hm
    exact ⟨D, rfl, hn2, hJ k D W1 W2 M2 hj he (fun g hg => ⟨fun h => (hm g hg).1 (List.mem_cons_of_mem _ h), (hm g hg).2.imp id (Nat.le_trans hw1)⟩), hb.ext he (fun h => (hm _ h).1 (by simp))⟩
  · rintro c k DD W1 W2 M2 ⟨hc, D, rfl, hn2, hj⟩ he hm
    exact ⟨hc, D, rfl, hn2, hJx k D W1 W2 M2 hj he (fun g hg => ⟨fun h => (hm g hg).1 (List.mem_cons_of_mem _ h), (hm g hg).2.imp id (Nat.le_trans hw1)⟩)⟩
  · rintro l k DD vs W1 hl2 hlt hlD hDl hk ⟨D, rfl, hn2, hj, B2⟩ ⟨p, v0, hp, rfl⟩
    refine ⟨rfl, ?_⟩
    refine G.sub [(7, .agg (pcell p).toArray), (2, .pointer (some ⟨b2, 0, none⟩))] (Sub.cons rfl (Sub.cons rfl (Sub.nil _))) ?_
    have hpl := hq k p hp
    have hsz : (pcell p).length = 3 := by show p.2.length + 1 = _; rw [hpl.1]
    have hsA : (pcell p).toArray.size = 3 := by rw [List.size_toArray]; exact hsz
    have h1c : ∀ u ∈ (pcell p).toArray.toList, u.oneCell' = true := pcell1 hpl.2
    have l2 := B2.lt
    refine G.region ?_
    refine L.do rfl rfl (R.alloc) ?_
    rintro _ w2 ⟨b4, rfl, hb4, hs4, e2, B4⟩
    replace B4 : Blk w2 b4 (.agg #[.int .i64 0, .slice none 0 0, .bool false] : Value).cells 114 (0, 0) := B4
    refine L.set rfl (R.stN rfl rfl B4 hsA (by show 0 + (pcell p).toArray.size ≤ 3; omega) h1c) ?_
    rintro w3 ⟨e3, hs3, B4⟩
    rw [over_all (show (.agg #[.int .i64 0, .slice none 0 0, .bool false] : Value).cells.size = (pcell p).toArray.size from hsA.symm)] at B4
    have hEW := e2.news2 e3 (by omega)
    refine L.nil ?_
    refine N.round (hEW) (fun wb hb1 hb2 => ?_)
    replace B4 := B4.still hb2
    replace B2 := (B2.ext0 hEW).still hb2
    have hjw := hJ k D _ wb [l] (hJ k D W1 _ [] hj hEW (by simp)) hb1 (fun g hg => by rw [List.mem_singleton.1 hg]; exact ⟨fun h => hlD (List.mem_cons_of_mem _ h), .inr (by omega)⟩)
    have hDw : ∀ g ∈ D, g < wb.heap.size := fun g hg => Nat.lt_of_lt_of_le (hDl g (List.mem_cons_of_mem _ hg)) (Nat.le_trans hEW.size hb1.size)
    have l2b := B2.lt
    have hyc := hY k D [.int .i64 p.1, .agg p.2.toArray] wb hk hjw ⟨p, hp, rfl⟩ hDw
    have hcy : y.cells = #[y] := by rcases hyc with ⟨l9, rfl, _⟩ | ⟨f9, u9, c9, rfl, _⟩ <;> rfl
    rw [hcy] at B2
    refine G.block ?_
    refine G.seq ?_
    refine G.region ?_
    refine L.val rfl rfl (R.ldB rfl B2 rfl) ?_
    refine L.val rfl rfl (R.fld rfl) ?_
    refine L.val rfl rfl (R.ldB (v := .int .i64 p.1) rfl B4 rfl) ?_
    refine L.val rfl rfl (R.fld rfl) ?_
    refine L.val rfl rfl (R.ldN (vs := p.2) rfl (Cells.of_blk B4 1 p.2 (fun j v hj => by rw [Nat.add_comm 1]; simpa [pcell] using hj)) hpl.1) ?_
    refine L.ycall rfl rfl rfl rfl hyc ?_
    rintro bb w7 ⟨D2, eD, hD2, hT, hFl⟩
    have X : Ext (b2 :: D) wb w7 := eD.mono (fun g hg => .inl (List.mem_cons_of_mem _ hg))
    have hn3 : b2 ∉ D2 := fun h => (hD2 b2 h).2.elim hn2 (fun h => by omega)
    have hDD : ∀ g ∈ b2 :: D2, g < w7.heap.size ∧ (g ∈ b2 :: D ∨ wb.heap.size ≤ g) := by
      intro g hg
      rcases List.mem_cons.1 hg with rfl | hg
      · exact ⟨Nat.lt_of_lt_of_le l2b eD.size, .inl (by simp)⟩
      · exact ⟨(hD2 g hg).1, (hD2 g hg).2.imp (fun h => List.mem_cons_of_mem _ h) id⟩
    refine L.val rfl rfl (R.not rfl) ?_
    refine L.nil ?_
    refine N.seq ?_
    refine G.condB rfl (fun h0 => ?_) (fun h0 => ?_)
    · obtain rfl : bb = false := by simpa using h0
      refine G.ret fun _ _ => ?_
      exact ⟨b2 :: D2, X, hDD, rfl, D2, rfl, hn3, hFl rfl⟩
    · obtain rfl : bb = true := by simpa using h0
      refine G.skip ?_
      refine N.block ?_
      refine N.done fun _ _ => ?_
      exact ⟨b2 :: D2, X, hDD, D2, rfl, hn3, hT rfl, by rw [hcy]; exact B2.ext eD hn2⟩
  · rintro d DD W2 hd hdD hK ⟨D, rfl, hn2, hj, B2⟩ _
    refine N.block ?_
    refine N.end0M rfl (leave1 hK) ?_
    exact .inl ⟨D, hJ Nn D W2 _ [d] hj (Ext.putObj _ _ _) (fun g hg => by rw [List.mem_singleton.1 hg]; exact ⟨fun h => hdD (List.mem_cons_of_mem _ h), .inr (by omega)⟩), trivial⟩
  · rintro d DD k c W2 hd hdD hK hk ⟨rfl, D, rfl, hn2, hj⟩ _
    refine G.ret0M rfl (leave1 hK) ?_
    exact .inr ⟨k, D, hk, hJx k D W2 _ [d] hj (Ext.putObj _ _ _) (fun g hg => by rw [List.mem_singleton.1 hg]; exact ⟨fun h => hdD (List.mem_cons_of_mem _ h), .inr (by omega)⟩), trivial⟩

theorem walkPoolheld_iter (b1 : Nat) (gf : FuncId) (lb : List Value) (Nn : Nat) (q : Nat → Option (Pr (Int))) (F : List Nat) (w : World) (hB1 : Blk w b1 #[.func (.func gf) #[] lb.toArray] 130 (0, 0)) (eg : ∀ (vs : Array Value) w, (callFunc gf vs).run Try.prog w = .ok (.enter gf vs) w) (hit : ∀ W, Ext [] w W → Iter Try.prog gf lb W Nn (prE q) (fun _ _ => True) F []) (hF : ∀ x ∈ F, x < w.heap.size) (hq : ∀ k (p : Pr (Int)), q k = some p → p.2.length = 2 ∧ ∀ u ∈ p.2, u.oneCell' = true) : Iter Try.prog 72 [.pointer (some ⟨b1, 0, none⟩)] w Nn (kvE (fun l => Value.agg l.toArray) q) (fun _ _ => True) (b1 :: F) [] := by
  intro y D₀ J Jx W hE hD hJ hJx hY h0
  exact walk1Poolheld_ok y b1 gf lb Nn q F D₀ J Jx W (hB1.ext0 hE) eg (fun W' h => hit W' (hE.trans0 h)) (fun x hx => Nat.lt_of_lt_of_le (hF x hx) hE.size) hq hD (fun k D W₁ W₂ M' h he hm => hJ k D W₁ W₂ M' h he (fun g hg => ⟨(hm g hg).1, (hm g hg).2.imp id (Nat.le_trans hE.size)⟩)) (fun k D W₁ W₂ M' h he hm => hJx k D W₁ W₂ M' h he (fun g hg => ⟨(hm g hg).1, (hm g hg).2.imp id (Nat.le_trans hE.size)⟩)) hY h0

end Go.Proofs.Ytmbppidafnakhaa
/-
  The walks of package order.
-/
set_option linter.unusedVariables false
set_option linter.unusedSimpArgs false
set_option maxRecDepth 4000
namespace Go.Proofs.Ytmbppidafnakhaa
open Go Brv
end Go.Proofs.Ytmbppidafnakhaa
/-
  Orders over assertions.
-/
set_option linter.unusedVariables false
set_option linter.unusedSimpArgs false
set_option maxRecDepth 4000
namespace Go.Proofs.Ytmbppidafnakhaa
open Go Brv
theorem oallPoolheldQ (m : Nat) (ps : List (Pr (Int))) (S : List Nat) (w : World) (hd : MapAt (κ := Int) 110 114 2 w m ps S) (hl : ps.length ≤ 99999) : Meets Try.prog 38 [.pointer (some ⟨m, 0, none⟩)] w (fun v w' => ∃ lb F, v = .func (.func 72) #[] (lb : List Value).toArray ∧ Ext [] w w' ∧ (∀ M W, Ext M w' W → Apart F M → Iter Try.prog 72 lb W ps.length (kvE (fun l => Value.agg l.toArray) (fun k => ps[k]?)) (fun _ _ => True) F []) ∧ ∀ x ∈ F, w.heap.size ≤ x ∧ x < w'.heap.size) := by
  refine Meets.enter Try.func38 rfl 15 rfl (Nat.le_of_ble_eq_true rfl) ?_
  have E := Ext.refl [] w
  obtain ⟨a, c, M, rfl, hm0, Bm, om, hok, hs⟩ := hd
  refine G.seq ?_
  refine G.region ?_
  refine L.val rfl rfl (R.as rfl) ?_
  refine L.nil ?_
  refine N.seq ?_
  refine G.seq ?_
  refine G.seq ?_
  refine G.region ?_
  refine L.val rfl rfl (R.mv rfl) ?_
  refine L.val rfl rfl (R.eqNilP rfl rfl) ?_
  refine L.nil ?_
  refine N.seq ?_
  refine G.condF rfl ?_
  refine G.skip ?_
  refine N.seq ?_
  refine G.seq ?_
  refine G.region ?_
  refine L.val rfl rfl (R.mv rfl) ?_
  refine L.val rfl rfl (R.nilChk rfl) ?_
  refine L.val rfl rfl (R.fld rfl) ?_
  refine L.val rfl rfl (R.ldB rfl Bm rfl) ?_
  refine L.callF rfl rfl rfl go60 (scPoolheld_ok _ _ _ _ _ om.cells (by rw [om.1]) (pcell_one hok) (by omega)) ?_
  rintro _ w1 ⟨a1, c1, M1, rfl, e1, o1, hM1⟩
  have hE0 := E.size
  replace E := E.trans0 e1
  have hl1 := o1.lt
  have hE1 := E.size
  refine L.callF rfl rfl rfl go59 (pallPoolheld_ok a1 ps.length c1 _) ?_
  rintro _ w2 ⟨b0, rfl, e2, B0, hb0⟩
  have hE2 := E.size
  replace E := E.trans0 e2
  replace o1 := o1.ext0 e2
  have l0 := B0.lt
  have hE3 := E.size
  refine L.callF rfl rfl rfl go58 (walkPoolheld_ok 73 [.pointer (some ⟨b0, 0, none⟩)] _) ?_
  rintro _ w3 ⟨b1, rfl, e3, B1, hb1⟩
  replace E := E.trans0 e3
  replace o1 := o1.ext0 e3
  replace B0 := B0.ext0 e3
  have l1 := B1.lt
  have hs3 := e3.size
  have hs2 := e2.size
  have hFl : ∀ y ∈ b1 :: b0 :: M1, w.heap.size ≤ y ∧ y < w3.heap.size := by
    intro y hy
    simp only [List.mem_cons] at hy
    rcases hy with rfl | rfl | hy
    · exact ⟨by omega, l1⟩
    · exact ⟨by omega, by omega⟩
    · have := hl1 y hy; have := hM1 y hy; exact ⟨by omega, by omega⟩
  refine L.val rfl rfl (R.as rfl) ?_
  refine L.nil ?_
  refine N.seq ?_
  refine G.ret1 rfl rfl ?_
  exact ⟨[.pointer (some ⟨b1, 0, none⟩)], b1 :: b0 :: M1, rfl, E, fun M9 W hW hA => walkPoolheld_iter b1 73 [.pointer (some ⟨b0, 0, none⟩)] ps.length (fun k => ps[k]?) (b0 :: M1) W (B1.ext hW (hA b1 (by simp))) go73 (fun W' h => pallPoolheld_iter b0 a1 ps.length c1 ps M1 W' ((B0.ext hW (hA b0 (by simp))).ext0 h) ((o1.ext hW (fun g hg => hA g (by simp [hg]))).ext0 h) (by simp) hok (by omega)) (fun y hy => Nat.lt_of_lt_of_le (hFl y (List.mem_cons_of_mem _ hy)).2 hW.size) (fun k p hp => hok p (List.mem_of_getElem? hp)), hFl⟩

/-- The assertion of the iterator that All gives. -/
def itPoolheld (lb : List Value) (ps : List (Pr (Int))) : Asn := itA Try.prog 72 lb ps.length (kvE (fun l => Value.agg l.toArray) (fun k => ps[k]?))
instance (lb : List Value) (ps : List (Pr (Int))) : Pers (itPoolheld lb ps) := inferInstanceAs (Pers (itA _ _ _ _ _))
theorem itPoolheld_run (lb : List Value) (ps : List (Pr (Int))) : IterS Try.prog 72 lb [itPoolheld lb ps] ps.length (fun k vs p => (∃ q, ps[k]? = some q ∧ vs = [Key.val q.1, (fun l => Value.agg l.toArray) q.2]) ∧ p = fun _ => True) :=
  IterS.read fun k vs W h => h
theorem oallPoolheldS (m : Nat) (ps : List (Pr (Int))) (hl : ps.length ≤ 99999) : SpecS Try.prog 38 [.pointer (some ⟨m, 0, none⟩)] [mp (κ := Int) 110 114 2 m ps] (fun v H' => ∃ lb : List Value, v = .func (.func 72) #[] lb.toArray ∧ H' = [itPoolheld lb ps, mp (κ := Int) 110 114 2 m ps]) :=
  (SpecS.ofFresh (φ := fun v A => ∃ lb : List Value, v = .func (.func 72) #[] lb.toArray ∧ A = itPoolheld lb ps) fun w F S s => by
    obtain ⟨S', hm⟩ := s.mp (show Sel _ (mp (κ := Int) 110 114 2 m ps) _ from .here)
    refine (oallPoolheldQ m ps S' w hm hl).mono ?_
    rintro v w' ⟨lb, F', h1, h2, h3, h4⟩
    exact ⟨itPoolheld lb ps, [], F', ⟨lb, h1, rfl⟩, h2, fun M W he hA => ⟨_, h3 M W he hA⟩, by simp, h4⟩).mono fun v H' ⟨A, ⟨lb, h1, h2⟩, h3⟩ => ⟨lb, h1, by rw [h3, h2]⟩

end Go.Proofs.Ytmbppidafnakhaa
/-
  The walks of package pool.
-/
set_option linter.unusedVariables false
set_option linter.unusedSimpArgs false
set_option maxRecDepth 4000
namespace Go.Proofs.Ytmbppidafnakhaa
open Go Brv Brv.Image Brv.Dev
structure HdV where
  a : Option Addr
  n : Nat
  c : Nat
  d : List UInt8
  t : Bool
def HdV.cells (h : HdV) : List Value := [.slice h.a h.n h.c, .bool h.t]
def HdV.ok (w : World) (h : HdV) : Prop := h.n ≤ h.c ∧ h.n ≤ 64 ∧ Bs w h.a h.n h.d
theorem HdV.one (h : HdV) : ∀ u ∈ h.cells, u.oneCell' = true := by
  intro u hu
  simp only [HdV.cells, List.mem_cons, List.not_mem_nil, or_false] at hu
  rcases hu with rfl | rfl <;> rfl
def hdZ : HdV := ⟨none, 0, 0, [], false⟩
theorem hdZ_ok (w : World) : HdV.ok w hdZ := ⟨Nat.le_refl _, by decide, Bs.nil w⟩
def psP (hd : List (Int × HdV)) : List (Pr Int) := mapT HdV.cells hd
def absP (hd : List (Int × HdV)) : Hd := mapT (fun h => (h.d, h.t)) hd
def ofH (hd : List (Int × HdV)) (k : Int) : HdV := (getT hd k).getD hdZ
theorem psP_len (hd : List (Int × HdV)) : (psP hd).length = hd.length := by simp [psP, mapT]
theorem absP_len (hd : List (Int × HdV)) : (absP hd).length = hd.length := by simp [absP, mapT]
theorem psP_put (hd : List (Int × HdV)) (k : Int) (h : HdV) : putK (psP hd) k h.cells = psP (putT hd k h) := by
  unfold psP; rw [putT_map, putT_eq]
theorem ofH_val (hd : List (Int × HdV)) (k : Int) : gvA (.agg #[.slice none 0 0, .bool false]) (getK (psP hd) k) = .agg (ofH hd k).cells.toArray := by
  unfold psP ofH
  rw [← getT_eq, getT_map]
  cases getT hd k <;> rfl
theorem ofH_ok {hd : List (Int × HdV)} {w : World} (hk : ∀ t ∈ hd, HdV.ok w t.2) (k : Int) : HdV.ok w (ofH hd k) := by
  unfold ofH
  cases hg : getT hd k with
  | none => exact hdZ_ok w
  | some r => exact hk _ (getT_some hg)
theorem hputs_ok {hd : List (Int × HdV)} {k : Int} {r : HdV} {w : World} (h1 : ∀ t ∈ hd, HdV.ok w t.2) (h2 : HdV.ok w r) : ∀ t ∈ putT hd k r, HdV.ok w t.2 := fun t ht => (mem_putT ht).elim (fun e => by rw [e]; exact h2) (h1 t)
theorem absP_put (hd : List (Int × HdV)) (k : Int) (h : HdV) : absP (putT hd k h) = putT (absP hd) k (h.d, h.t) := putT_map _ _ _ _
theorem getA_has {hd : List (Int × HdV)} {k : Int} (h : hasT hd k = true) : getT (absP hd) k = some ((ofH hd k).d, (ofH hd k).t) := by
  unfold absP ofH
  rw [getT_map]
  obtain ⟨p, hp, _⟩ := hasT_mem h
  have : getT hd k = some p.2 := by unfold getT; rw [h, hp]; rfl
  rw [this]; rfl
theorem getA_no {hd : List (Int × HdV)} {k : Int} (h : hasT hd k = false) : getT (absP hd) k = none := by
  unfold absP
  rw [getT_map, show getT hd k = none by unfold getT; rw [h]; rfl]; rfl
theorem valH_abs (hd : List (Int × HdV)) (k : Int) : valH (absP hd) k = (ofH hd k).d := by
  unfold valH absP ofH
  rw [getT_map]
  cases getT hd k <;> rfl
theorem pgetX (m : Nat) (hd : List (Int × HdV)) (k : Int) (S : List Nat) (w : World) (hm : MapAt (κ := Int) 110 114 2 w m (psP hd) S) (hl : hd.length ≤ 99999) : Meets Try.prog 32 [.pointer (some ⟨m, 0, none⟩), .int .i64 k] w (fun v w' => v = .tuple #[.agg (ofH hd k).cells.toArray, .bool (hasT hd k)] ∧ Ext [] w w') :=
  (getPoolheld_ok m (psP hd) S k w hm (by rw [psP_len]; exact hl)).mono fun v w' ⟨h1, h2⟩ => ⟨by rw [h1, ofH_val, ← hasT_eq]; unfold psP; rw [hasT_map], h2⟩
theorem pputX (m : Nat) (hd : List (Int × HdV)) (k : Int) (r : HdV) (hl : hd.length ≤ 99999) : SpecS Try.prog 30 [.pointer (some ⟨m, 0, none⟩), .int .i64 k, .agg r.cells.toArray] [mp (κ := Int) 110 114 2 m (psP hd)] (fun v H' => v = .bool (!hasK (psP hd) k) ∧ H' = [mp (κ := Int) 110 114 2 m (psP (putT hd k r))]) := by
  have := SpecS.ofMap (φ := fun v => v = .bool (!hasK (psP hd) k)) (fun w S hm => putPoolheld_ok m (psP hd) S k r.cells w hm (by rw [psP_len]; exact hl) ⟨rfl, HdV.one r⟩)
  rw [psP_put] at this
  exact this
/-- Writes among arguments. -/
def WsP (w : World) (a : Option Addr) (n : Nat) (ws : List WriteV) : Prop := Tab w a n 2 (ws.map WriteV.cells) ∧ ∀ z ∈ ws, Bs w z.B'a z.B'n z.B'
theorem ws_len {w : World} {a : Option Addr} {n : Nat} {ws : List WriteV} (h : WsP w a n ws) : n = ws.length := by have := h.1.len; simpa using this
theorem ws_pt {w : World} {a : Option Addr} {n i : Nat} {ws : List WriteV} {z : WriteV} (h : WsP w a n ws) (hz : ws[i]? = some z) : ∃ q, a = some q := by
  obtain ⟨hi, _⟩ := List.getElem?_eq_some_iff.1 hz
  obtain ⟨q, hq, _⟩ := h.1.at (by decide) i (by simpa using hi)
  exact ⟨q, hq⟩
theorem ws_cells {w : World} {a : Option Addr} {n i : Nat} {ws : List WriteV} {z : WriteV} {q : Addr} (h : WsP w a n ws) (hq : a = some q) (hz : ws[i]? = some z) : Cells w (some (q.add ((i : Int).toNat * 2))) (WriteV.cells z) := by
  obtain ⟨hi, rfl⟩ := List.getElem?_eq_some_iff.1 hz
  obtain ⟨p, hp, hc⟩ := h.1.at (by decide) i (by simpa using hi)
  rw [hq] at hp; cases hp
  simpa [Int.toNat_natCast] using hc
theorem ws_bs {w : World} {a : Option Addr} {n i : Nat} {ws : List WriteV} {z : WriteV} (h : WsP w a n ws) (hz : ws[i]? = some z) : Bs w z.B'a z.B'n z.B' := h.2 z (List.mem_of_getElem? hz)
theorem ws_wv {ws : List WriteV} {i : Nat} {z : WriteV} (hz : ws[i]? = some z) : (ws.map wv)[i]? = some (wv z) := by rw [List.getElem?_map, hz]; rfl
theorem pgPost {M : Hd} {vv : DevV} {sz fr B : Nat} {n : Int} {l : List UInt8} {e : Int} {a : Option Addr} {k c : Nat} {K R : List Asn} (h : pgetV M vv sz fr B n = (l, e)) (hk : k = l.length) (hK : K = own 5 1 a k c (vbs l) :: R) :
    ∃ a' c', Value.tuple #[.slice a k c, .int .i64 e] = .tuple #[.slice a' (pgetV M vv sz fr B n).1.length c', .int .i64 (pgetV M vv sz fr B n).2] ∧ K = own 5 1 a' (pgetV M vv sz fr B n).1.length c' (vbs (pgetV M vv sz fr B n).1) :: R := by
  subst hk; rw [h]; exact ⟨a, c, rfl, hK⟩

theorem pget_ok (p d m sz fr B : Nat) (vv : DevV) (hd : List (Int × HdV)) (n : Int) (hfr : fr ≤ 4096) (hB : B ≤ 64) (hl : hd.length ≤ 10000) (hwb : vv.wt.length ≤ 1000000) : SpecS Try.prog 19 [.pointer (some ⟨p, 0, none⟩), .int .i64 n] [blk p [.pointer (some ⟨d, 0, none⟩), .int .i64 (fr : Int), .int .i64 (B : Int), .pointer (some ⟨m, 0, none⟩)] 78, mp (κ := Int) 110 114 2 m (psP hd), sh (fun w => ∀ t ∈ hd, HdV.ok w t.2), dvA d vv sz] (fun v H' => ∃ a c, v = .tuple #[.slice a (pgetV (absP hd) vv sz fr B n).1.length c, .int .i64 (pgetV (absP hd) vv sz fr B n).2] ∧ H' = [own 5 1 a (pgetV (absP hd) vv sz fr B n).1.length c (vbs (pgetV (absP hd) vv sz fr B n).1), blk p [.pointer (some ⟨d, 0, none⟩), .int .i64 (fr : Int), .int .i64 (B : Int), .pointer (some ⟨m, 0, none⟩)] 78, mp (κ := Int) 110 114 2 m (psP hd), sh (fun w => ∀ t ∈ hd, HdV.ok w t.2), dvA d vv sz]) := by
  refine SpecS.enter Try.func19 rfl 48 rfl (Nat.le_of_ble_eq_true rfl) (fun o => ?_)
  refine SG.seq ?_
  refine SG.region ?_
  refine SL.val rfl rfl (fun w9 F9 S9 s => R.as rfl) ?_
  refine SL.val rfl rfl (fun w9 F9 S9 s => R.as rfl) ?_
  refine SL.nil ?_
  refine SN.seq ?_
  refine SG.seq ?_
  refine SG.block ?_
  refine SG.seq ?_
  refine SG.region ?_
  refine SL.val rfl rfl (fun w9 F9 S9 s => R.mv rfl) ?_
  refine SL.val rfl rfl (fun w9 F9 S9 s => R.eqNilP rfl rfl) ?_
  refine SL.val rfl rfl (fun w9 F9 S9 s => R.as rfl) ?_
  refine SL.nil ?_
  refine SN.seq ?_
  refine SG.condF rfl ?_
  refine SG.seq ?_
  refine SG.region ?_
  refine SL.val rfl rfl (fun w9 F9 S9 s => R.mv rfl) ?_
  refine SL.val rfl rfl (fun w9 F9 S9 s => R.lss rfl rfl) ?_
  refine SL.val rfl rfl (fun w9 F9 S9 s => R.mv rfl) ?_
  refine SL.caseP 14 rfl (fun hg3_2 => ?_) (fun hg3_2 => ?_)
  · refine SL.pass rfl rfl ?_
    refine SL.pass rfl rfl ?_
    refine SL.pass rfl rfl ?_
    refine SL.pass rfl rfl ?_
    refine SL.pass rfl rfl ?_
    refine SL.pass rfl rfl ?_
    first | refine SL.val rfl rfl (fun w9 F9 S9 s => R.pickT rfl rfl) ?_ | refine SL.val rfl rfl (fun w9 F9 S9 s => R.pickF rfl rfl) ?_
    refine SL.val rfl rfl (fun w9 F9 S9 s => R.as rfl) ?_
    refine SL.nil ?_
    refine SN.seq ?_
    refine SG.condT rfl ?_
    refine SG.seq ?_
    refine SG.region ?_
    refine SL.val rfl rfl (fun w9 F9 S9 s => R.as rfl) ?_
    refine SL.val rfl rfl (fun w9 F9 S9 s => R.as rfl) ?_
    refine SL.nil ?_
    refine SN.seq ?_
    exact SG.ret2 rfl rfl rfl ((Imp.ownNil 5 1).trans (Imp.sels (by repeat (first | exact Sels.nil | apply Sels.cons | exact Sel.keep | exact Sel.here | apply Sel.there)))) (pgPost (l := []) (pget_out (inP_lo hg3_2)) rfl rfl)
  · refine SL.val rfl rfl (fun w9 F9 S9 s => R.mv rfl) ?_
    refine SL.val rfl rfl (fun w9 F9 S9 s => R.mv rfl) ?_
    refine SL.val rfl rfl (fun w9 F9 S9 s => R.nilChk rfl) ?_
    refine SL.val rfl rfl (fun w9 F9 S9 s => R.fld rfl) ?_
    refine SL.val rfl rfl (fun w9 F9 S9 s => R.ldB rfl (s.cel (by repeat (first | exact SelB.blk | exact SelB.fz | apply SelB.there))) (by rfl)) ?_
    refine SL.val rfl rfl (fun w9 F9 S9 s => R.geq rfl rfl) ?_
    first | refine SL.val rfl rfl (fun w9 F9 S9 s => R.pickT rfl rfl) ?_ | refine SL.val rfl rfl (fun w9 F9 S9 s => R.pickF rfl rfl) ?_
    refine SL.val rfl rfl (fun w9 F9 S9 s => R.as rfl) ?_
    refine SL.nil ?_
    refine SN.seq ?_
    refine SG.condP rfl (fun h1 => ?_) (fun h1 => ?_)
    · refine SG.seq ?_
      refine SG.region ?_
      refine SL.val rfl rfl (fun w9 F9 S9 s => R.as rfl) ?_
      refine SL.val rfl rfl (fun w9 F9 S9 s => R.as rfl) ?_
      refine SL.nil ?_
      refine SN.seq ?_
      exact SG.ret2 rfl rfl rfl ((Imp.ownNil 5 1).trans (Imp.sels (by repeat (first | exact Sels.nil | apply Sels.cons | exact Sel.keep | exact Sel.here | apply Sel.there)))) (pgPost (l := []) (pget_out (inP_hi h1)) rfl rfl)
    · refine SG.skip ?_
      refine SN.block ?_
      refine SN.seq ?_
      refine SG.seq ?_
      refine SG.seq ?_
      refine SG.region ?_
      refine SL.val rfl rfl (fun w9 F9 S9 s => R.mv rfl) ?_
      refine SL.val rfl rfl (fun w9 F9 S9 s => R.nilChk rfl) ?_
      refine SL.val rfl rfl (fun w9 F9 S9 s => R.fld rfl) ?_
      refine SL.val rfl rfl (fun w9 F9 S9 s => R.ldB rfl (s.cel (by repeat (first | exact SelB.blk | exact SelB.fz | apply SelB.there))) (by rfl)) ?_
      refine SL.val rfl rfl (fun w9 F9 S9 s => R.mv rfl) ?_
      refine SL.step rfl rfl (CS.callR rfl go32 (fun w9 F9 S9 s => (s.mp (show Sel _ (mp (κ := Int) 110 114 2 m (psP hd)) _ from (by repeat (first | exact Sel.keep | exact Sel.here | apply Sel.there)))).elim fun S9 h9 => pgetX m hd n S9 w9 h9 (by omega))) ?_
      rintro _ _ ⟨rfl, rfl⟩
      refine SL.val rfl rfl (fun w9 F9 S9 s => R.mv rfl) ?_
      refine SL.val rfl rfl (fun w9 F9 S9 s => R.ext rfl rfl) ?_
      refine SL.val rfl rfl (fun w9 F9 S9 s => R.ext rfl rfl) ?_
      refine SL.step rfl rfl (CS.alloc [.slice none 0 0, .bool false] rfl) ?_
      rintro _ _ ⟨b6, rfl, rfl⟩
      refine SL.step0 rfl (CS.stA (vs := HdV.cells (ofH hd n)) rfl rfl (by repeat (first | exact Sel.keep | exact Sel.here | apply Sel.there)) (by rfl) (by rfl) (by intro u hu; exact HdV.one _ u hu)) ?_
      rintro _ _ rfl
      refine SL.val rfl rfl (fun w9 F9 S9 s => R.as rfl) ?_
      refine SL.nil ?_
      refine SN.seq ?_
      refine SG.seq ?_
      refine SG.region ?_
      refine SL.val rfl rfl (fun w9 F9 S9 s => R.mv rfl) ?_
      refine SL.nil ?_
      refine SN.seq ?_
      refine SG.condB rfl (fun h2 => ?_) (fun h2 => ?_)
      · have hin := inP_in hg3_2 h1
        have hpg := pget_hand (v := vv) (sz := sz) (fr := fr) hin (getA_has h2)
        refine SG.imp (Imp.weak (p := fun w => ∀ t ∈ hd, HdV.ok w t.2) (q := fun w => Bs w (ofH hd n).a (ofH hd n).n (ofH hd n).d) (by repeat (first | exact Sel.keep | exact Sel.here | apply Sel.there)) (fun w hw => (ofH_ok hw n).2.2)) ?_
        refine SG.fact (fun w9 F9 S9 s => (s.sh (p := fun w => Bs w (ofH hd n).a (ofH hd n).n (ofH hd n).d) (by repeat (first | exact Sel.keep | exact Sel.here | apply Sel.there))).len) (fun hf9 => ?_)
        have hbl := hf9; clear hf9
        refine SG.fact (fun w9 F9 S9 s => (ofH_ok (s.sh (p := fun w => ∀ t ∈ hd, HdV.ok w t.2) (by repeat (first | exact Sel.keep | exact Sel.here | apply Sel.there))) n).2.1) (fun hf9 => ?_)
        have hn64 := hf9; clear hf9
        refine SG.seq ?_
        refine SG.region ?_
        refine SL.val rfl rfl (fun w9 F9 S9 s => R.fld rfl) ?_
        refine SL.val rfl rfl (fun w9 F9 S9 s => R.ldB (v := .slice (ofH hd n).a (ofH hd n).n (ofH hd n).c) rfl (s.cel (by repeat (first | exact SelB.blk | exact SelB.fz | apply SelB.there))) (by rfl)) ?_
        refine SL.step rfl rfl (CS.callC rfl go31 (fun w9 F9 S9 s => bclone_ok (ofH hd n).a (ofH hd n).n (ofH hd n).c (ofH hd n).d w9 (s.sh (p := fun w => Bs w (ofH hd n).a (ofH hd n).n (ofH hd n).d) (by repeat (first | exact Sel.keep | exact Sel.here | apply Sel.there))) (by omega))) ?_
        rintro _ _ ⟨a40, c40, rfl, rfl⟩
        refine SL.val rfl rfl (fun w9 F9 S9 s => R.as rfl) ?_
        refine SL.val rfl rfl (fun w9 F9 S9 s => R.as rfl) ?_
        refine SL.nil ?_
        refine SN.seq ?_
        exact SG.ret2 rfl rfl rfl ((Imp.sels (by repeat (first | exact Sels.nil | apply Sels.cons | exact Sel.keep | exact Sel.here | apply Sel.there)))) (pgPost hpg hbl rfl)
      · have hin := inP_in hg3_2 h1
        have hpg := pget_dev (v := vv) (sz := sz) (fr := fr) hin (getA_no (show hasT hd n = false by simpa using h2))
        refine SG.skip ?_
        refine SN.seq ?_
        refine SG.seq ?_
        refine SG.draw [10] [0, 1, 2, 3, 4, 5, 6, 7, 8, 9, 10, 11, 12, 13, 14] (by decide +kernel) rfl ?_
        refine SW.pure rfl rfl rfl rfl (fun w9 => R.mv rfl) ?_
        refine SW.pure rfl rfl rfl rfl (fun w9 => R.nilChk rfl) ?_
        refine SW.pure rfl rfl rfl rfl (fun w9 => R.fld rfl) ?_
        refine SW.read rfl rfl rfl rfl (fun w9 F9 S9 s => R.ldB rfl (s.cel (by repeat (first | exact SelB.blk | exact SelB.fz | apply SelB.there))) (by rfl)) ?_
        refine SW.pure rfl rfl rfl rfl (fun w9 => R.mv rfl) ?_
        refine SW.pure rfl rfl rfl rfl (fun w9 => R.nilChk rfl) ?_
        refine SW.pure rfl rfl rfl rfl (fun w9 => R.fld rfl) ?_
        refine SW.read rfl rfl rfl rfl (fun w9 F9 S9 s => R.ldB rfl (s.cel (by repeat (first | exact SelB.blk | exact SelB.fz | apply SelB.there))) (by rfl)) ?_
        refine SW.pure rfl rfl rfl rfl (fun w9 => R.mv rfl) ?_
        refine SW.pure rfl rfl rfl rfl (fun w9 => R.add rfl rfl (by omega)) ?_
        refine SW.step rfl rfl rfl rfl (CS.call rfl go41 (dreadS d vv sz ((fr : Int) + n) 1 hwb) (by repeat (first | exact Sels.nil | apply Sels.cons | exact Sel.keep | exact Sel.here | apply Sel.there))) ?_
        rintro _ _ ⟨_, ⟨a45, c45, rfl, rfl⟩, rfl⟩
        refine ⟨⟨.inl (by decide +kernel), ⟨.inl (by decide +kernel), trivial⟩⟩, ?_⟩
        refine SW.n2 ?_
        refine SW.pure rfl rfl rfl rfl (fun w9 => R.ext rfl rfl) ?_
        refine SW.pure rfl rfl rfl rfl (fun w9 => R.ext rfl rfl) ?_
        refine SW.pure rfl rfl rfl rfl (fun w9 => R.as rfl) ?_
        refine SW.pure rfl rfl rfl rfl (fun w9 => R.as rfl) ?_
        refine SW.nil ?_
        refine SN.seq ?_
        exact SG.ret2 rfl rfl rfl ((Imp.sels (by repeat (first | exact Sels.nil | apply Sels.cons | exact Sel.keep | exact Sel.here | apply Sel.there)))) (pgPost hpg rfl rfl)

theorem pwrong_ok (p d m fr B : Nat) (z : WriteV) (hz : z.B'n = z.B'.length) : SpecS Try.prog 29 [.pointer (some ⟨p, 0, none⟩), .agg (WriteV.cells z).toArray] [blk p [.pointer (some ⟨d, 0, none⟩), .int .i64 (fr : Int), .int .i64 (B : Int), .pointer (some ⟨m, 0, none⟩)] 78] (fun v H' => v = .int .i64 (pwE B (wv z)) ∧ H' = [blk p [.pointer (some ⟨d, 0, none⟩), .int .i64 (fr : Int), .int .i64 (B : Int), .pointer (some ⟨m, 0, none⟩)] 78]) := by
  refine SpecS.enter Try.func29 rfl 23 rfl (Nat.le_of_ble_eq_true rfl) (fun o => ?_)
  refine SG.seq ?_
  refine SG.region ?_
  refine SL.step rfl rfl (CS.boxA rfl) ?_
  rintro _ _ ⟨b3, rfl, rfl⟩
  refine SL.val rfl rfl (fun w9 F9 S9 s => R.as rfl) ?_
  refine SL.nil ?_
  refine SN.seq ?_
  refine SG.seq ?_
  refine SG.block ?_
  refine SG.seq ?_
  refine SG.draw [] [0, 1, 2, 3, 4, 5, 6, 7, 8, 9, 10, 11, 12] (by decide +kernel) rfl ?_
  refine SW.pure rfl rfl rfl rfl (fun w9 => R.fld rfl) ?_
  refine SW.read rfl rfl rfl rfl (fun w9 F9 S9 s => R.ldB (v := .int .i64 z.Block') rfl (s.cel (by repeat (first | exact SelB.blk | exact SelB.fz | apply SelB.there))) (by rfl)) ?_
  refine SW.pure rfl rfl rfl rfl (fun w9 => R.lss rfl rfl) ?_
  refine SW.pure rfl rfl rfl rfl (fun w9 => R.mv rfl) ?_
  refine SW.caseP 9 rfl (fun hg1_3 => ?_) (fun hg1_3 => ?_)
  · refine SW.pass (hd := rfl) rfl rfl rfl ?_
    refine SW.pass (hd := rfl) rfl rfl rfl ?_
    refine SW.pass (hd := rfl) rfl rfl rfl ?_
    refine SW.pass (hd := rfl) rfl rfl rfl ?_
    refine SW.pass (hd := rfl) rfl rfl rfl ?_
    refine SW.pass (hd := rfl) rfl rfl rfl ?_
    refine SW.pass (hd := rfl) rfl rfl rfl ?_
    first | refine SW.pure rfl rfl rfl rfl (fun w9 => R.pickT rfl rfl) ?_ | refine SW.pure rfl rfl rfl rfl (fun w9 => R.pickF rfl rfl) ?_
    refine SW.pure rfl rfl rfl rfl (fun w9 => R.as rfl) ?_
    refine SW.nil ?_
    refine SN.seq ?_
    refine SG.condT rfl ?_
    refine SG.seq ?_
    refine SG.region ?_
    refine SL.val rfl rfl (fun w9 F9 S9 s => R.as rfl) ?_
    refine SL.nil ?_
    refine SN.seq ?_
    exact SG.ret1 rfl rfl ((Imp.sels (by repeat (first | exact Sels.nil | apply Sels.cons | exact Sel.keep | exact Sel.here | apply Sel.there)))) (⟨congrArg (Value.int .i64) (pwE_lo (w := wv z) hg1_3).symm, rfl⟩)
  · refine SW.pure rfl rfl rfl rfl (fun w9 => R.fld rfl) ?_
    refine SW.read rfl rfl rfl rfl (fun w9 F9 S9 s => R.ldB (v := .int .i64 z.Block') rfl (s.cel (by repeat (first | exact SelB.blk | exact SelB.fz | apply SelB.there))) (by rfl)) ?_
    refine SW.pure rfl rfl rfl rfl (fun w9 => R.mv rfl) ?_
    refine SW.pure rfl rfl rfl rfl (fun w9 => R.nilChk rfl) ?_
    refine SW.pure rfl rfl rfl rfl (fun w9 => R.fld rfl) ?_
    refine SW.read rfl rfl rfl rfl (fun w9 F9 S9 s => R.ldB rfl (s.cel (by repeat (first | exact SelB.blk | exact SelB.fz | apply SelB.there))) (by rfl)) ?_
    refine SW.pure rfl rfl rfl rfl (fun w9 => R.geq rfl rfl) ?_
    first | refine SW.pure rfl rfl rfl rfl (fun w9 => R.pickT rfl rfl) ?_ | refine SW.pure rfl rfl rfl rfl (fun w9 => R.pickF rfl rfl) ?_
    refine SW.pure rfl rfl rfl rfl (fun w9 => R.as rfl) ?_
    refine SW.nil ?_
    refine SN.seq ?_
    refine SG.condP rfl (fun h0 => ?_) (fun h0 => ?_)
    · refine SG.seq ?_
      refine SG.region ?_
      refine SL.val rfl rfl (fun w9 F9 S9 s => R.as rfl) ?_
      refine SL.nil ?_
      refine SN.seq ?_
      exact SG.ret1 rfl rfl ((Imp.sels (by repeat (first | exact Sels.nil | apply Sels.cons | exact Sel.keep | exact Sel.here | apply Sel.there)))) (⟨congrArg (Value.int .i64) (pwE_hi (w := wv z) h0).symm, rfl⟩)
    · refine SG.seq ?_
      refine SG.region ?_
      refine SL.val rfl rfl (fun w9 F9 S9 s => R.fld rfl) ?_
      refine SL.val rfl rfl (fun w9 F9 S9 s => R.ldB (v := .slice z.B'a z.B'n z.B'c) rfl (s.cel (by repeat (first | exact SelB.blk | exact SelB.fz | apply SelB.there))) (by rfl)) ?_
      refine SL.val rfl rfl (fun w9 F9 S9 s => R.lenS rfl) ?_
      refine SL.val rfl rfl (fun w9 F9 S9 s => R.neI rfl rfl) ?_
      refine SL.val rfl rfl (fun w9 F9 S9 s => R.as rfl) ?_
      refine SL.nil ?_
      refine SN.seq ?_
      refine SG.condP rfl (fun h1 => ?_) (fun h1 => ?_)
      · refine SG.seq ?_
        refine SG.region ?_
        refine SL.val rfl rfl (fun w9 F9 S9 s => R.as rfl) ?_
        refine SL.nil ?_
        refine SN.seq ?_
        exact SG.ret1 rfl rfl ((Imp.sels (by repeat (first | exact Sels.nil | apply Sels.cons | exact Sel.keep | exact Sel.here | apply Sel.there)))) (⟨congrArg (Value.int .i64) (pwE_sz (w := wv z) hg1_3 h0 (show z.B'.length ≠ 64 by omega)).symm, rfl⟩)
      · refine SG.skip ?_
        refine SN.block ?_
        refine SN.seq ?_
        refine SG.seq ?_
        refine SG.region ?_
        refine SL.val rfl rfl (fun w9 F9 S9 s => R.as rfl) ?_
        refine SL.nil ?_
        refine SN.seq ?_
        exact SG.ret1 rfl rfl ((Imp.sels (by repeat (first | exact Sels.nil | apply Sels.cons | exact Sel.keep | exact Sel.here | apply Sel.there)))) (⟨congrArg (Value.int .i64) (pwE_ok (w := wv z) hg1_3 h0 (show z.B'.length = 64 by omega)).symm, rfl⟩)

end Go.Proofs.Ytmbppidafnakhaa
/-
  The walks of package pool.
-/
set_option linter.unusedVariables false
set_option linter.unusedSimpArgs false
set_option maxRecDepth 4000
namespace Go.Proofs.Ytmbppidafnakhaa
open Go Brv Brv.Image Brv.Dev
structure PuS where
  i : Nat
  hd : List (Int × HdV)
structure RoS where
  a : Option Addr
  c : Nat
theorem dirtyA_succ {hd : List (Int × HdV)} {k : Nat} {t : Int × HdV} (h : hd[k]? = some t) : dirtyL ((absP hd).take (k + 1)) = dirtyL ((absP hd).take k) ++ if t.2.t then [t.1] else [] :=
  dirtyL_succ (t := (t.1, (t.2.d, t.2.t))) (by unfold absP mapT; rw [List.getElem?_map, h]; rfl)
theorem psP_at {hd : List (Int × HdV)} {k : Nat} {q : Pr Int} (h : (psP hd)[k]? = some q) : ∃ t, hd[k]? = some t ∧ q = (t.1, t.2.cells) := by
  unfold psP mapT at h
  rw [List.getElem?_map] at h
  cases ht : hd[k]? with
  | none => rw [ht] at h; cases h
  | some t => rw [ht] at h; cases h; exact ⟨t, rfl, rfl⟩

theorem pput_ok (p d m sz fr B : Nat) (vv : DevV) (hd : List (Int × HdV)) (a : Option Addr) (n c : Nat) (ws : List WriteV) (hn : n ≤ 10000) (hl : hd.length ≤ 10000) : SpecS Try.prog 9 [.pointer (some ⟨p, 0, none⟩), .slice a n c] [blk p [.pointer (some ⟨d, 0, none⟩), .int .i64 (fr : Int), .int .i64 (B : Int), .pointer (some ⟨m, 0, none⟩)] 78, mp (κ := Int) 110 114 2 m (psP hd), sh (fun w => ∀ t ∈ hd, HdV.ok w t.2), dvA d vv sz, sh (fun w => WsP w a n ws)] (fun v H' => ∃ hd', v = .int .i64 (pwsE B (ws.map wv)) ∧ absP hd' = pputV (absP hd) B (ws.map wv) ∧ H' = [blk p [.pointer (some ⟨d, 0, none⟩), .int .i64 (fr : Int), .int .i64 (B : Int), .pointer (some ⟨m, 0, none⟩)] 78, mp (κ := Int) 110 114 2 m (psP hd'), sh (fun w => ∀ t ∈ hd', HdV.ok w t.2), dvA d vv sz]) := by
  refine SpecS.enter Try.func9 rfl 43 rfl (Nat.le_of_ble_eq_true rfl) (fun o => ?_)
  refine SG.fact (fun w9 F9 S9 s => ws_len (s.sh (p := fun w => WsP w a n ws) (by repeat (first | exact Sel.keep | exact Sel.here | apply Sel.there)))) (fun hf9 => ?_)
  have hwl := hf9; clear hf9
  refine SG.seq ?_
  refine SG.region ?_
  refine SL.val rfl rfl (fun w9 F9 S9 s => R.as rfl) ?_
  refine SL.nil ?_
  refine SN.seq ?_
  refine SG.seq ?_
  refine SG.seq ?_
  refine SG.region ?_
  refine SL.val rfl rfl (fun w9 F9 S9 s => R.mv rfl) ?_
  refine SL.val rfl rfl (fun w9 F9 S9 s => R.eqNilP rfl rfl) ?_
  refine SL.nil ?_
  refine SN.seq ?_
  refine SG.condF rfl ?_
  refine SG.skip ?_
  refine SN.seq ?_
  refine SG.seq ?_
  refine SG.seq ?_
  refine SG.region ?_
  refine SL.val rfl rfl (fun w9 F9 S9 s => R.mv rfl) ?_
  refine SL.val rfl rfl (fun w9 F9 S9 s => R.lenS rfl) ?_
  refine SL.val rfl rfl (fun w9 F9 S9 s => R.mv rfl) ?_
  refine SL.nil ?_
  refine SN.seq ?_
  refine SG.block ?_
  refine SG.loop (X := Nat) (fun i => [(0, .pointer (some ⟨p, 0, none⟩)), (1, .slice a n c), (12, .slice a n c), (13, .int .i64 (n : Int)), (14, .int .i64 (i : Int))]) (fun i => [blk p [.pointer (some ⟨d, 0, none⟩), .int .i64 (fr : Int), .int .i64 (B : Int), .pointer (some ⟨m, 0, none⟩)] 78, mp (κ := Int) 110 114 2 m (psP hd), sh (fun w => ∀ t ∈ hd, HdV.ok w t.2), dvA d vv sz, sh (fun w => WsP w a n ws)]) (fun i => i ≤ n ∧ ∀ (j : Nat) (u : Wr), j < i → (ws.map wv)[j]? = some u → pwE B u = 0) (fun i => n - i) (0) (Sub.cons rfl (Sub.cons rfl (Sub.cons rfl (Sub.cons rfl (Sub.cons rfl (Sub.nil _)))))) ((Imp.sels (by repeat (first | exact Sels.nil | apply Sels.cons | exact Sel.keep | exact Sel.here | apply Sel.there)))) (⟨Nat.zero_le _, fun j u hj => by omega⟩) ?_
  rintro i ⟨hi, hall⟩
  show SG _ _ _ _ _ [(0, .pointer (some ⟨p, 0, none⟩)), (1, .slice a n c), (12, .slice a n c), (13, .int .i64 (n : Int)), (14, .int .i64 (i : Int))] [blk p [.pointer (some ⟨d, 0, none⟩), .int .i64 (fr : Int), .int .i64 (B : Int), .pointer (some ⟨m, 0, none⟩)] 78, mp (κ := Int) 110 114 2 m (psP hd), sh (fun w => ∀ t ∈ hd, HdV.ok w t.2), dvA d vv sz, sh (fun w => WsP w a n ws)] _
  refine SG.seq ?_
  refine SG.region ?_
  refine SL.val rfl rfl (fun w9 F9 S9 s => R.lss rfl rfl) ?_
  refine SL.nil ?_
  refine SN.seq ?_
  refine SG.seq ?_
  refine SG.condP rfl (fun h1 => ?_) (fun h1 => ?_)
  · obtain ⟨z, hz⟩ : ∃ z, ws[i]? = some z := ⟨_, List.getElem?_eq_getElem (by omega)⟩
    refine SG.fact (fun w9 F9 S9 s => ws_pt (s.sh (p := fun w => WsP w a n ws) (by repeat (first | exact Sel.keep | exact Sel.here | apply Sel.there))) hz) (fun hf9 => ?_)
    obtain ⟨q, hq⟩ := hf9
    refine SG.fact (fun w9 F9 S9 s => (ws_bs (s.sh (p := fun w => WsP w a n ws) (by repeat (first | exact Sel.keep | exact Sel.here | apply Sel.there))) hz).len) (fun hf9 => ?_)
    have hzl := hf9; clear hf9
    refine SG.skip ?_
    refine SN.seq ?_
    refine SG.seq ?_
    refine SG.block ?_
    refine SG.seq ?_
    refine SG.region ?_
    refine SL.val rfl rfl (fun w9 F9 S9 s => R.idx rfl rfl (by omega) (by omega) q hq) ?_
    refine SL.val rfl rfl (fun w9 F9 S9 s => R.ldN (vs := WriteV.cells z) rfl (ws_cells (s.sh (p := fun w => WsP w a n ws) (by repeat (first | exact Sel.keep | exact Sel.here | apply Sel.there))) hq hz) rfl) ?_
    refine SL.step rfl rfl (CS.alloc [.int .i64 0, .slice none 0 0] rfl) ?_
    rintro _ _ ⟨b6, rfl, rfl⟩
    refine SL.step0 rfl (CS.stA (vs := WriteV.cells z) rfl rfl (by repeat (first | exact Sel.keep | exact Sel.here | apply Sel.there)) (by rfl) (by rfl) (by intro u hu; exact WriteV.cells.one _ u (by simpa using hu))) ?_
    rintro _ _ rfl
    refine SL.nil ?_
    refine SN.seq ?_
    refine SG.seq ?_
    refine SG.region ?_
    refine SL.val rfl rfl (fun w9 F9 S9 s => R.mv rfl) ?_
    refine SL.val rfl rfl (fun w9 F9 S9 s => R.ldBN (cs := (WriteV.cells z).toArray) rfl (s.cel (by repeat (first | exact SelB.blk | exact SelB.fz | apply SelB.there))) (by rfl)) ?_
    refine SL.step rfl rfl (CS.call rfl go29 (pwrong_ok p d m fr B z hzl) (by repeat (first | exact Sels.nil | apply Sels.cons | exact Sel.keep | exact Sel.here | apply Sel.there))) ?_
    rintro _ _ ⟨_, ⟨rfl, rfl⟩, rfl⟩
    refine SL.n1 ?_
    refine SL.val rfl rfl (fun w9 F9 S9 s => R.as rfl) ?_
    refine SL.nil ?_
    refine SN.seq ?_
    refine SG.seq ?_
    refine SG.region ?_
    refine SL.val rfl rfl (fun w9 F9 S9 s => R.mv rfl) ?_
    refine SL.val rfl rfl (fun w9 F9 S9 s => R.neI rfl rfl) ?_
    refine SL.nil ?_
    refine SN.seq ?_
    refine SG.condP rfl (fun h2 => ?_) (fun h2 => ?_)
    · have hpe := pwsE_at hall (ws_wv hz) h2
      refine SG.seq ?_
      refine SG.region ?_
      refine SL.val rfl rfl (fun w9 F9 S9 s => R.mv rfl) ?_
      refine SL.val rfl rfl (fun w9 F9 S9 s => R.as rfl) ?_
      refine SL.nil ?_
      refine SN.seq ?_
      exact SG.ret1 rfl rfl ((Imp.sels (by repeat (first | exact Sels.nil | apply Sels.cons | exact Sel.keep | exact Sel.here | apply Sel.there)))) (⟨hd, congrArg (Value.int .i64) hpe.symm, by unfold pputV; rw [if_neg (by rw [hpe]; exact h2)], rfl⟩)
    · refine SG.skip ?_
      refine SN.block ?_
      refine SN.seq ?_
      refine SG.region ?_
      refine SL.val rfl rfl (fun w9 F9 S9 s => R.add rfl rfl (by omega)) ?_
      refine SL.val rfl rfl (fun w9 F9 S9 s => R.mv rfl) ?_
      refine SL.nil ?_
      exact SN.again (i + 1) (by show n - (i + 1) < n - i; omega) (Sub.cons rfl (Sub.cons rfl (Sub.cons rfl (Sub.cons rfl (Sub.cons rfl (Sub.nil _)))))) ((Imp.sels (by repeat (first | exact Sels.nil | apply Sels.cons | exact Sel.keep | exact Sel.here | apply Sel.there)))) (⟨by show i + 1 ≤ n; omega, fun j u hj hu => by
        by_cases hji : j = i
        · subst hji; rw [ws_wv hz] at hu; cases hu; exact Classical.not_not.1 h2
        · exact hall j u (by omega) hu⟩)
  · have hpe := pwsE_all (fun j u hu => hall j u (by have := (List.getElem?_eq_some_iff.1 hu).1; rw [List.length_map] at this; omega) hu)
    refine SG.exit _ rfl ?_
    refine SN.seq ?_
    refine SG.seq ?_
    refine SG.seq ?_
    refine SG.region ?_
    refine SL.val rfl rfl (fun w9 F9 S9 s => R.mv rfl) ?_
    refine SL.val rfl rfl (fun w9 F9 S9 s => R.lenS rfl) ?_
    refine SL.val rfl rfl (fun w9 F9 S9 s => R.mv rfl) ?_
    refine SL.nil ?_
    refine SN.seq ?_
    refine SG.block ?_
    refine SG.loop (X := PuS) (fun y => [(0, .pointer (some ⟨p, 0, none⟩)), (25, .slice a n c), (26, .int .i64 (n : Int)), (27, .int .i64 (y.i : Int))]) (fun y => [blk p [.pointer (some ⟨d, 0, none⟩), .int .i64 (fr : Int), .int .i64 (B : Int), .pointer (some ⟨m, 0, none⟩)] 78, mp (κ := Int) 110 114 2 m (psP y.hd), sh (fun w => ∀ t ∈ y.hd, HdV.ok w t.2), dvA d vv sz, sh (fun w => WsP w a n ws)]) (fun y => y.i ≤ n ∧ absP y.hd = putL (absP hd) ((ws.map wv).take y.i) ∧ y.hd.length ≤ hd.length + y.i) (fun y => n - y.i) (⟨0, hd⟩) (Sub.cons rfl (Sub.cons rfl (Sub.cons rfl (Sub.cons rfl (Sub.nil _))))) ((Imp.sels (by repeat (first | exact Sels.nil | apply Sels.cons | exact Sel.keep | exact Sel.here | apply Sel.there)))) (⟨Nat.zero_le _, rfl, Nat.le_refl _⟩) ?_
    rintro ⟨i, hd2⟩ ⟨hi, hab, hlen⟩
    dsimp only at hi hab hlen
    show SG _ _ _ _ _ [(0, .pointer (some ⟨p, 0, none⟩)), (25, .slice a n c), (26, .int .i64 (n : Int)), (27, .int .i64 (i : Int))] [blk p [.pointer (some ⟨d, 0, none⟩), .int .i64 (fr : Int), .int .i64 (B : Int), .pointer (some ⟨m, 0, none⟩)] 78, mp (κ := Int) 110 114 2 m (psP hd2), sh (fun w => ∀ t ∈ hd2, HdV.ok w t.2), dvA d vv sz, sh (fun w => WsP w a n ws)] _
    refine SG.seq ?_
    refine SG.region ?_
    refine SL.val rfl rfl (fun w9 F9 S9 s => R.lss rfl rfl) ?_
    refine SL.nil ?_
    refine SN.seq ?_
    refine SG.seq ?_
    refine SG.condP rfl (fun h3 => ?_) (fun h3 => ?_)
    · obtain ⟨z, hz⟩ : ∃ z, ws[i]? = some z := ⟨_, List.getElem?_eq_getElem (by omega)⟩
      refine SG.fact (fun w9 F9 S9 s => ws_pt (s.sh (p := fun w => WsP w a n ws) (by repeat (first | exact Sel.keep | exact Sel.here | apply Sel.there))) hz) (fun hf9 => ?_)
      obtain ⟨q, hq⟩ := hf9
      refine SG.fact (fun w9 F9 S9 s => (ws_bs (s.sh (p := fun w => WsP w a n ws) (by repeat (first | exact Sel.keep | exact Sel.here | apply Sel.there))) hz).len) (fun hf9 => ?_)
      have hzl := hf9; clear hf9
      have hz64 : z.B'.length = 64 := (pwE_in (pwsE_in hpe _ (List.mem_of_getElem? (ws_wv hz)))).2
      refine SG.imp (Imp.weak (p := fun w => WsP w a n ws) (q := fun w => Bs w z.B'a z.B'n z.B') (by repeat (first | exact Sel.keep | exact Sel.here | apply Sel.there)) (fun w hw => ws_bs hw hz)) ?_
      refine SG.skip ?_
      refine SN.seq ?_
      refine SG.seq ?_
      refine SG.block ?_
      refine SG.seq ?_
      refine SG.region ?_
      refine SL.val rfl rfl (fun w9 F9 S9 s => R.idx rfl rfl (by omega) (by omega) q hq) ?_
      refine SL.val rfl rfl (fun w9 F9 S9 s => R.ldN (vs := WriteV.cells z) rfl (ws_cells (s.sh (p := fun w => WsP w a n ws) (by repeat (first | exact Sel.keep | exact Sel.here | apply Sel.there))) hq hz) rfl) ?_
      refine SL.step rfl rfl (CS.alloc [.int .i64 0, .slice none 0 0] rfl) ?_
      rintro _ _ ⟨b9, rfl, rfl⟩
      refine SL.step0 rfl (CS.stA (vs := WriteV.cells z) rfl rfl (by repeat (first | exact Sel.keep | exact Sel.here | apply Sel.there)) (by rfl) (by rfl) (by intro u hu; exact WriteV.cells.one _ u (by simpa using hu))) ?_
      rintro _ _ rfl
      refine SL.nil ?_
      refine SN.seq ?_
      refine SG.draw [8, 10] [0, 1, 2, 3, 4, 5, 6, 7, 8, 9, 10] (by decide +kernel) rfl ?_
      refine SW.pure rfl rfl rfl rfl (fun w9 => R.mv rfl) ?_
      refine SW.pure rfl rfl rfl rfl (fun w9 => R.nilChk rfl) ?_
      refine SW.pure rfl rfl rfl rfl (fun w9 => R.fld rfl) ?_
      refine SW.read rfl rfl rfl rfl (fun w9 F9 S9 s => R.ldB rfl (s.cel (by repeat (first | exact SelB.blk | exact SelB.fz | apply SelB.there))) (by rfl)) ?_
      refine SW.pure rfl rfl rfl rfl (fun w9 => R.fld rfl) ?_
      refine SW.read rfl rfl rfl rfl (fun w9 F9 S9 s => R.ldB (v := .int .i64 z.Block') rfl (s.cel (by repeat (first | exact SelB.blk | exact SelB.fz | apply SelB.there))) (by rfl)) ?_
      refine SW.pure rfl rfl rfl rfl (fun w9 => R.fld rfl) ?_
      refine SW.read rfl rfl rfl rfl (fun w9 F9 S9 s => R.ldB (v := .slice z.B'a z.B'n z.B'c) rfl (s.cel (by repeat (first | exact SelB.blk | exact SelB.fz | apply SelB.there))) (by rfl)) ?_
      refine SW.step rfl rfl rfl rfl (CS.callC rfl go31 (fun w9 F9 S9 s => bclone_ok z.B'a z.B'n z.B'c z.B' w9 (s.sh (p := fun w => Bs w z.B'a z.B'n z.B') (by repeat (first | exact Sel.keep | exact Sel.here | apply Sel.there))) (by omega))) ?_
      rintro _ _ ⟨a39, c39, rfl, rfl⟩
      refine ⟨⟨.inl (by decide +kernel), ⟨.inr (fun w9 F9 S9 s => R.ldB (v := .int .i64 z.Block') rfl (s.cel (by repeat (first | exact SelB.blk | exact SelB.fz | apply SelB.there))) (by rfl)), ⟨.inr (fun w9 F9 S9 s => R.ldB rfl (s.cel (by repeat (first | exact SelB.blk | exact SelB.fz | apply SelB.there))) (by rfl)), trivial⟩⟩⟩, ?_⟩
      refine SW.pure rfl rfl rfl rfl (fun w9 => R.build (cs := (HdV.cells (⟨a39, z.B'n, c39, z.B', true⟩ : HdV)).toArray) rfl rfl) ?_
      refine SW.step rfl rfl rfl rfl (CS.call rfl go30 (pputX m hd2 z.Block' (⟨a39, z.B'n, c39, z.B', true⟩ : HdV) (by omega)) (by repeat (first | exact Sels.nil | apply Sels.cons | exact Sel.keep | exact Sel.here | apply Sel.there))) ?_
      rintro _ _ ⟨_, ⟨rfl, rfl⟩, rfl⟩
      refine ⟨⟨.inl (by decide +kernel), ⟨.inl (by decide +kernel), ⟨.inl (by decide +kernel), trivial⟩⟩⟩, ?_⟩
      refine SW.n1 ?_
      refine SW.nil ?_
      refine SN.fact (fun w9 F9 S9 s => s.ownL (show Sel _ (own 5 1 a39 z.B'n c39 (vbs z.B')) _ from (by repeat (first | exact Sel.keep | exact Sel.here | apply Sel.there)))) (fun hf9 => ?_)
      obtain ⟨_, hc39⟩ := hf9
      refine SN.imp (Imp.ownSh (show Sel _ (own 5 1 a39 z.B'n c39 (vbs z.B')) _ from (by repeat (first | exact Sel.keep | exact Sel.here | apply Sel.there))) (p := fun w => HdV.ok w (⟨a39, z.B'n, c39, z.B', true⟩ : HdV)) (fun w h => ⟨hc39, by show z.B'n ≤ 64; omega, ⟨h, hzl⟩⟩)) ?_
      refine SN.imp (Imp.both (p := fun w => ∀ t ∈ hd2, HdV.ok w t.2) (q := fun w => HdV.ok w (⟨a39, z.B'n, c39, z.B', true⟩ : HdV)) (by repeat (first | exact Sel.keep | exact Sel.here | apply Sel.there)) (by repeat (first | exact Sel.keep | exact Sel.here | apply Sel.there))) ?_
      refine SN.imp (Imp.weak (p := fun w => (∀ t ∈ hd2, HdV.ok w t.2) ∧ HdV.ok w (⟨a39, z.B'n, c39, z.B', true⟩ : HdV)) (q := fun w => ∀ t ∈ putT hd2 z.Block' (⟨a39, z.B'n, c39, z.B', true⟩ : HdV), HdV.ok w t.2) (by repeat (first | exact Sel.keep | exact Sel.here | apply Sel.there)) (fun w hw => hputs_ok hw.1 hw.2)) ?_
      refine SN.block ?_
      refine SN.seq ?_
      refine SG.region ?_
      refine SL.val rfl rfl (fun w9 F9 S9 s => R.add rfl rfl (by omega)) ?_
      refine SL.val rfl rfl (fun w9 F9 S9 s => R.mv rfl) ?_
      refine SL.nil ?_
      exact SN.again (⟨i + 1, putT hd2 z.Block' (⟨a39, z.B'n, c39, z.B', true⟩ : HdV)⟩) (by show n - (i + 1) < n - i; omega) (Sub.cons rfl (Sub.cons rfl (Sub.cons rfl (Sub.cons rfl (Sub.nil _))))) ((Imp.sels (by repeat (first | exact Sels.nil | apply Sels.cons | exact Sel.keep | exact Sel.here | apply Sel.there)))) (⟨by show i + 1 ≤ n; omega, by show absP (putT hd2 z.Block' (⟨a39, z.B'n, c39, z.B', true⟩ : HdV)) = _; rw [absP_put, hab, putL_succ (ws_wv hz)]; rfl, by have := putT_len hd2 z.Block' (⟨a39, z.B'n, c39, z.B', true⟩ : HdV); show (putT hd2 z.Block' (⟨a39, z.B'n, c39, z.B', true⟩ : HdV)).length ≤ hd.length + (i + 1); omega⟩)
    · obtain rfl : i = n := by omega
      rw [List.take_of_length_le (by rw [List.length_map]; omega)] at hab
      refine SG.exit _ rfl ?_
      refine SN.seq ?_
      refine SG.seq ?_
      refine SG.region ?_
      refine SL.val rfl rfl (fun w9 F9 S9 s => R.as rfl) ?_
      refine SL.nil ?_
      refine SN.seq ?_
      exact SG.ret1 rfl rfl ((Imp.sels (by repeat (first | exact Sels.nil | apply Sels.cons | exact Sel.keep | exact Sel.here | apply Sel.there)))) (⟨hd2, congrArg (Value.int .i64) hpe.symm, by unfold pputV; rw [if_pos hpe]; exact hab, rfl⟩)

theorem pdirty_ok (p d m sz fr B : Nat) (vv : DevV) (hd : List (Int × HdV)) (hl : hd.length ≤ 10000) : SpecS Try.prog 13 [.pointer (some ⟨p, 0, none⟩)] [blk p [.pointer (some ⟨d, 0, none⟩), .int .i64 (fr : Int), .int .i64 (B : Int), .pointer (some ⟨m, 0, none⟩)] 78, mp (κ := Int) 110 114 2 m (psP hd), sh (fun w => ∀ t ∈ hd, HdV.ok w t.2), dvA d vv sz] (fun v H' => ∃ a c, v = .slice a (dirtyL (absP hd)).length c ∧ H' = [own 3 1 a (dirtyL (absP hd)).length c ((dirtyL (absP hd)).map (Value.int .i64)), blk p [.pointer (some ⟨d, 0, none⟩), .int .i64 (fr : Int), .int .i64 (B : Int), .pointer (some ⟨m, 0, none⟩)] 78, mp (κ := Int) 110 114 2 m (psP hd), sh (fun w => ∀ t ∈ hd, HdV.ok w t.2), dvA d vv sz]) := by
  refine SpecS.enter Try.func13 rfl 22 rfl (Nat.le_of_ble_eq_true rfl) (fun o => ?_)
  refine SG.seq ?_
  refine SG.region ?_
  refine SL.val rfl rfl (fun w9 F9 S9 s => R.as rfl) ?_
  refine SL.nil ?_
  refine SN.seq ?_
  refine SG.seq ?_
  refine SG.seq ?_
  refine SG.region ?_
  refine SL.val rfl rfl (fun w9 F9 S9 s => R.mv rfl) ?_
  refine SL.val rfl rfl (fun w9 F9 S9 s => R.eqNilP rfl rfl) ?_
  refine SL.nil ?_
  refine SN.seq ?_
  refine SG.condF rfl ?_
  refine SG.skip ?_
  refine SN.seq ?_
  refine SG.seq ?_
  refine SG.region ?_
  refine SL.step rfl rfl (CS.alloc [.slice none 0 0] rfl) ?_
  rintro _ _ ⟨b3, rfl, rfl⟩
  refine SL.nil ?_
  refine SN.seq ?_
  refine SG.seq ?_
  refine SG.seq ?_
  refine SG.region ?_
  refine SL.val rfl rfl (fun w9 F9 S9 s => R.mv rfl) ?_
  refine SL.val rfl rfl (fun w9 F9 S9 s => R.nilChk rfl) ?_
  refine SL.val rfl rfl (fun w9 F9 S9 s => R.fld rfl) ?_
  refine SL.val rfl rfl (fun w9 F9 S9 s => R.ldB rfl (s.cel (by repeat (first | exact SelB.blk | exact SelB.fz | apply SelB.there))) (by rfl)) ?_
  refine SL.step rfl rfl (CS.call rfl go38 (oallPoolheldS m (psP hd) (by rw [psP_len]; omega)) (by repeat (first | exact Sels.nil | apply Sels.cons | exact Sel.keep | exact Sel.here | apply Sel.there))) ?_
  rintro _ _ ⟨_, ⟨lb, rfl, rfl⟩, rfl⟩
  refine SL.n2 ?_
  refine SL.nil ?_
  refine SN.seq ?_
  refine SG.block ?_
  refine SG.range rfl rfl go72 (itPoolheld_run lb (psP hd)) (X := RoS) (Y := Unit) (fun k y => [blk b3 [.slice y.a (dirtyL ((absP hd).take k)).length y.c] 38, own 3 1 y.a (dirtyL ((absP hd).take k)).length y.c ((dirtyL ((absP hd).take k)).map (Value.int .i64)), blk p [.pointer (some ⟨d, 0, none⟩), .int .i64 (fr : Int), .int .i64 (B : Int), .pointer (some ⟨m, 0, none⟩)] 78, mp (κ := Int) 110 114 2 m (psP hd), sh (fun w => ∀ t ∈ hd, HdV.ok w t.2), dvA d vv sz]) (fun k y => True) (fun c k _ => []) (fun c k _ => False) (⟨none, 0⟩) (((Imp.ownNil 3 1).trans (Imp.sels (by repeat (first | exact Sels.nil | apply Sels.cons | exact Sel.keep | exact Sel.here | apply Sel.there))))) (trivial) ?_ ?_ ?_
  · rintro l k ⟨a9, c9⟩ vs p hk _ ⟨⟨q, hq, rfl⟩, rfl⟩
    obtain ⟨t, ht, rfl⟩ := psP_at hq
    have htl := (List.getElem?_eq_some_iff.1 ht).1
    have hdl : (dirtyL ((absP hd).take k)).length ≤ k := by have := dirtyL_le ((absP hd).take k); rw [List.length_take] at this; omega
    refine ⟨rfl, ?_⟩
    intro o8
    refine SG.seq ?_
    refine SG.region ?_
    refine SL.val rfl rfl (fun w9 F9 S9 s => R.as rfl) ?_
    refine SL.nil ?_
    refine SN.seq ?_
    refine SG.region ?_
    refine SL.step rfl rfl (CS.alloc [.slice none 0 0, .bool false] rfl) ?_
    rintro _ _ ⟨b5, rfl, rfl⟩
    refine SL.step0 rfl (CS.stA (vs := HdV.cells t.2) rfl rfl (by repeat (first | exact Sel.keep | exact Sel.here | apply Sel.there)) (by rfl) (by rfl) (by intro u hu; exact HdV.one _ u hu)) ?_
    rintro _ _ rfl
    refine SL.nil ?_
    refine SN.roundA (fun o9 => ?_)
    refine SG.block ?_
    refine SG.seq ?_
    refine SG.region ?_
    refine SL.val rfl rfl (fun w9 F9 S9 s => R.fld rfl) ?_
    refine SL.val rfl rfl (fun w9 F9 S9 s => R.ldB (v := .bool t.2.t) rfl (s.cel (by repeat (first | exact SelB.blk | exact SelB.fz | apply SelB.there))) (by rfl)) ?_
    refine SL.nil ?_
    refine SN.seq ?_
    refine SG.condB rfl (fun h1 => ?_) (fun h1 => ?_)
    · refine SG.region ?_
      refine SL.val rfl rfl (fun w9 F9 S9 s => R.ldB (v := .slice a9 (dirtyL ((absP hd).take k)).length c9) rfl (s.cel (by repeat (first | exact SelB.blk | exact SelB.fz | apply SelB.there))) (by rfl)) ?_
      refine SL.val rfl rfl (fun w9 F9 S9 s => R.mv rfl) ?_
      refine SL.step rfl rfl (CS.buildA rfl rfl rfl rfl rfl ([t.1].map (Value.int .i64)) rfl) ?_
      rintro _ _ ⟨b19, rfl, rfl⟩
      refine SL.step rfl rfl (CS.app rfl rfl (by repeat (first | exact Sel.keep | exact Sel.here | apply Sel.there)) (fun w9 F9 S9 s => s.blkC (show Sel _ (blk b19 ([t.1].map (Value.int .i64)) _) _ from (by repeat (first | exact Sel.keep | exact Sel.here | apply Sel.there)))) rfl (by intro u hu; simp at hu; subst hu; rfl) (by simp [maxLen]; omega) (by omega)) ?_
      rintro _ _ ⟨a20, c20, rfl, rfl⟩
      refine SL.step0 rfl (CS.st rfl rfl (show Sel _ (blk b3 _ _) _ from (by repeat (first | exact Sel.keep | exact Sel.here | apply Sel.there))) (by repeat (first | exact SetAt.here | apply SetAt.there)) rfl) ?_
      rintro _ _ rfl
      refine SL.nil ?_
      refine SN.block ?_
      exact SN.next (⟨a20, c20⟩) (show Imp _ _ by dsimp only; rw [dirtyA_succ ht, if_pos h1, List.length_append, List.map_append]; exact (Imp.sels (by repeat (first | exact Sels.nil | apply Sels.cons | exact Sel.keep | exact Sel.here | apply Sel.there)))) trivial
    · refine SG.skip ?_
      refine SN.block ?_
      exact SN.next (⟨a9, c9⟩) (show Imp _ _ by dsimp only; rw [dirtyA_succ ht, if_neg (by simpa using h1), List.append_nil]; exact (Imp.sels (by repeat (first | exact Sels.nil | apply Sels.cons | exact Sel.keep | exact Sel.here | apply Sel.there)))) trivial
  · rintro d2 ⟨a9, c9⟩ _
    rw [List.take_of_length_le (show (absP hd).length ≤ (psP hd).length by rw [absP_len, psP_len]; exact Nat.le_refl _)]
    refine SN.block ?_
    refine SN.seq ?_
    refine SG.seq ?_
    refine SG.region ?_
    refine SL.val rfl rfl (fun w9 F9 S9 s => R.ldB (v := .slice a9 (dirtyL (absP hd)).length c9) rfl (s.cel (by repeat (first | exact SelB.blk | exact SelB.fz | apply SelB.there))) (by rfl)) ?_
    refine SL.val rfl rfl (fun w9 F9 S9 s => R.as rfl) ?_
    refine SL.nil ?_
    refine SN.seq ?_
    exact SG.ret1M rfl rfl (by repeat (first | exact Dfrs.nil | apply Dfrs.cons | exact Sel.here | apply Sel.there)) ((Imp.sels (by repeat (first | exact Sels.nil | apply Sels.cons | exact Sel.keep | exact Sel.here | apply Sel.there)))) (⟨a9, c9, rfl, rfl⟩)
  · rintro d k c _ hk ⟨⟩

end Go.Proofs.Ytmbppidafnakhaa
/-
  The walks of package pool.
-/
set_option linter.unusedVariables false
set_option linter.unusedSimpArgs false
set_option maxRecDepth 4000
namespace Go.Proofs.Ytmbppidafnakhaa
open Go Brv Brv.Image Brv.Dev
structure SvS where
  i : Nat
  v : DevV
theorem dirtyK {hd : List (Int × HdV)} {B : Nat} (h : ∀ t ∈ hd, 0 ≤ t.1 ∧ t.1 < (B : Int)) : ∀ k ∈ dirtyL (absP hd), 0 ≤ k ∧ k < (B : Int) := by
  intro k hk
  unfold dirtyL absP mapT at hk
  obtain ⟨t, ht, rfl⟩ := List.mem_map.1 hk
  obtain ⟨u, hu, rfl⟩ := List.mem_map.1 (List.mem_filter.1 ht).1
  exact h u hu
theorem ints_pt {w : World} {a : Option Addr} {l : List Int} {i : Nat} {k : Int} (h : Cells w a (l.map (Value.int .i64))) (hk : l[i]? = some k) : ∃ q, a = some q :=
  let ⟨q, hq, _⟩ := h i (.int .i64 k) (by rw [List.getElem?_map, hk]; rfl); ⟨q, hq⟩
theorem ints_ld {w : World} {a : Option Addr} {l : List Int} {i : Nat} {k : Int} {q : Addr} (h : Cells w a (l.map (Value.int .i64))) (hq : a = some q) (hk : l[i]? = some k) : w.cell? (q.add ((i : Int).toNat * 1)) = some (.int .i64 k) := by
  obtain ⟨p, hp, hc⟩ := h i (.int .i64 k) (by rw [List.getElem?_map, hk]; rfl)
  rw [hq] at hp; cases hp
  rw [Int.toNat_natCast, Nat.mul_one]; exact hc
theorem wr_bd {v : DevV} {sz : Nat} {p : Int} {l : List UInt8} (hl : l.length ≤ 64) : v.calls ≤ (writeV v sz p l).1.calls ∧ (writeV v sz p l).1.calls ≤ v.calls + 1 ∧ (writeV v sz p l).1.wt.length ≤ v.wt.length + 1 := by
  have h := writeV_bd v sz p l
  have : dn l ≤ 1 := by unfold dn; omega
  exact ⟨h.1, h.2.1, by have := h.2.2; omega⟩
theorem svPost {M : Hd} {vv v1 : DevV} {sz fr : Nat} {e : Int} {hd' : List (Int × HdV)} {K : List Asn} {A : List (Int × HdV) → DevV → List Asn} (h : psaveV M vv sz fr = ((absP hd', v1), e)) (hK : K = A hd' v1) : ∃ hd', Value.int .i64 e = .int .i64 (psaveV M vv sz fr).2 ∧ absP hd' = (psaveV M vv sz fr).1.1 ∧ K = A hd' (psaveV M vv sz fr).1.2 := by
  rw [h]; exact ⟨hd', rfl, rfl, hK⟩

theorem psave_okS (p d m sz fr B : Nat) (vv : DevV) (hd : List (Int × HdV)) (hfr : fr ≤ 4096) (hB : B ≤ 64) (hky : ∀ t ∈ hd, 0 ≤ t.1 ∧ t.1 < (B : Int)) (hl : hd.length ≤ 10000) (hcb : 0 ≤ vv.calls ∧ vv.calls ≤ 100000000) (hwb : vv.wt.length ≤ 100000) : SpecS Try.prog 10 [.pointer (some ⟨p, 0, none⟩)] [blk p [.pointer (some ⟨d, 0, none⟩), .int .i64 (fr : Int), .int .i64 (B : Int), .pointer (some ⟨m, 0, none⟩)] 78, mp (κ := Int) 110 114 2 m (psP hd), sh (fun w => ∀ t ∈ hd, HdV.ok w t.2), dvA d vv sz] (fun v H' => ∃ hd', v = .int .i64 (psaveV (absP hd) vv sz fr).2 ∧ absP hd' = (psaveV (absP hd) vv sz fr).1.1 ∧ H' = [blk p [.pointer (some ⟨d, 0, none⟩), .int .i64 (fr : Int), .int .i64 (B : Int), .pointer (some ⟨m, 0, none⟩)] 78, mp (κ := Int) 110 114 2 m (psP hd'), sh (fun w => ∀ t ∈ hd', HdV.ok w t.2), dvA d (psaveV (absP hd) vv sz fr).1.2 sz]) := by
  refine SpecS.enter Try.func10 rfl 83 rfl (Nat.le_of_ble_eq_true rfl) (fun o => ?_)
  refine SG.seq ?_
  refine SG.region ?_
  refine SL.val rfl rfl (fun w9 F9 S9 s => R.as rfl) ?_
  refine SL.nil ?_
  refine SN.seq ?_
  refine SG.seq ?_
  refine SG.seq ?_
  refine SG.region ?_
  refine SL.val rfl rfl (fun w9 F9 S9 s => R.mv rfl) ?_
  refine SL.val rfl rfl (fun w9 F9 S9 s => R.eqNilP rfl rfl) ?_
  refine SL.nil ?_
  refine SN.seq ?_
  refine SG.condF rfl ?_
  refine SG.skip ?_
  refine SN.seq ?_
  refine SG.seq ?_
  refine SG.region ?_
  refine SL.val rfl rfl (fun w9 F9 S9 s => R.mv rfl) ?_
  refine SL.step rfl rfl (CS.call rfl go13 (pdirty_ok p d m sz fr B vv hd hl) (by repeat (first | exact Sels.nil | apply Sels.cons | exact Sel.keep | exact Sel.here | apply Sel.there))) ?_
  rintro _ _ ⟨_, ⟨a9, c9, rfl, rfl⟩, rfl⟩
  refine SL.n5 ?_
  refine SL.val rfl rfl (fun w9 F9 S9 s => R.as rfl) ?_
  refine SL.nil ?_
  have hdl := dirtyL_le (absP hd)
  rw [absP_len] at hdl
  refine SN.imp (Imp.ownSh (show Sel _ (own 3 1 a9 (dirtyL (absP hd)).length c9 ((dirtyL (absP hd)).map (Value.int .i64))) _ from (by repeat (first | exact Sel.keep | exact Sel.here | apply Sel.there))) (p := fun w => Cells w a9 ((dirtyL (absP hd)).map (Value.int .i64))) (fun w h => h)) ?_
  refine SN.seq ?_
  refine SG.seq ?_
  refine SG.seq ?_
  refine SG.region ?_
  refine SL.val rfl rfl (fun w9 F9 S9 s => R.mv rfl) ?_
  refine SL.val rfl rfl (fun w9 F9 S9 s => R.lenS rfl) ?_
  refine SL.val rfl rfl (fun w9 F9 S9 s => R.mv rfl) ?_
  refine SL.nil ?_
  refine SN.seq ?_
  refine SG.block ?_
  refine SG.loop (X := SvS) (fun y => [(0, .pointer (some ⟨p, 0, none⟩)), (3, .slice a9 (dirtyL (absP hd)).length c9), (18, .slice a9 (dirtyL (absP hd)).length c9), (19, .int .i64 ((dirtyL (absP hd)).length : Int)), (20, .int .i64 (y.i : Int))]) (fun y => [blk p [.pointer (some ⟨d, 0, none⟩), .int .i64 (fr : Int), .int .i64 (B : Int), .pointer (some ⟨m, 0, none⟩)] 78, mp (κ := Int) 110 114 2 m (psP hd), sh (fun w => ∀ t ∈ hd, HdV.ok w t.2), dvA d y.v sz, sh (fun w => Cells w a9 ((dirtyL (absP hd)).map (Value.int .i64)))]) (fun y => y.i ≤ (dirtyL (absP hd)).length ∧ svL (absP hd) vv sz fr ((dirtyL (absP hd)).take y.i) = (y.v, 0) ∧ 0 ≤ y.v.calls ∧ y.v.calls ≤ vv.calls + (y.i : Int) ∧ y.v.wt.length ≤ vv.wt.length + y.i) (fun y => (dirtyL (absP hd)).length - y.i) (⟨0, vv⟩) (Sub.cons rfl (Sub.cons rfl (Sub.cons rfl (Sub.cons rfl (Sub.cons rfl (Sub.nil _)))))) ((Imp.sels (by repeat (first | exact Sels.nil | apply Sels.cons | exact Sel.keep | exact Sel.here | apply Sel.there)))) (⟨Nat.zero_le _, rfl, hcb.1, by show vv.calls ≤ vv.calls + ((0 : Nat) : Int); omega, by show vv.wt.length ≤ vv.wt.length + 0; omega⟩) ?_
  rintro ⟨i, v1⟩ ⟨hi, hsv, hc1, hc2, hc3⟩
  dsimp only at hi hsv hc1 hc2 hc3
  show SG _ _ _ _ _ [(0, .pointer (some ⟨p, 0, none⟩)), (3, .slice a9 (dirtyL (absP hd)).length c9), (18, .slice a9 (dirtyL (absP hd)).length c9), (19, .int .i64 ((dirtyL (absP hd)).length : Int)), (20, .int .i64 (i : Int))] [blk p [.pointer (some ⟨d, 0, none⟩), .int .i64 (fr : Int), .int .i64 (B : Int), .pointer (some ⟨m, 0, none⟩)] 78, mp (κ := Int) 110 114 2 m (psP hd), sh (fun w => ∀ t ∈ hd, HdV.ok w t.2), dvA d v1 sz, sh (fun w => Cells w a9 ((dirtyL (absP hd)).map (Value.int .i64)))] _
  refine SG.seq ?_
  refine SG.region ?_
  refine SL.val rfl rfl (fun w9 F9 S9 s => R.lss rfl rfl) ?_
  refine SL.nil ?_
  refine SN.seq ?_
  refine SG.seq ?_
  refine SG.condP rfl (fun h1 => ?_) (fun h1 => ?_)
  · obtain ⟨k, hk⟩ : ∃ k, (dirtyL (absP hd))[i]? = some k := ⟨_, List.getElem?_eq_getElem (by omega)⟩
    refine SG.fact (fun w9 F9 S9 s => ints_pt (s.sh (p := fun w => Cells w a9 ((dirtyL (absP hd)).map (Value.int .i64))) (by repeat (first | exact Sel.keep | exact Sel.here | apply Sel.there))) hk) (fun hf9 => ?_)
    obtain ⟨q, hq⟩ := hf9
    obtain ⟨hk0, hkB⟩ := dirtyK hky k (List.mem_of_getElem? hk)
    refine SG.skip ?_
    refine SN.seq ?_
    refine SG.seq ?_
    refine SG.block ?_
    refine SG.seq ?_
    refine SG.region ?_
    refine SL.val rfl rfl (fun w9 F9 S9 s => R.idx rfl rfl (by omega) (by omega) q hq) ?_
    refine SL.val rfl rfl (fun w9 F9 S9 s => R.ld (v := .int .i64 k) rfl (ints_ld (s.sh (p := fun w => Cells w a9 ((dirtyL (absP hd)).map (Value.int .i64))) (by repeat (first | exact Sel.keep | exact Sel.here | apply Sel.there))) hq hk)) ?_
    refine SL.val rfl rfl (fun w9 F9 S9 s => R.as rfl) ?_
    refine SL.nil ?_
    refine SN.seq ?_
    refine SG.seq ?_
    refine SG.region ?_
    refine SL.val rfl rfl (fun w9 F9 S9 s => R.mv rfl) ?_
    refine SL.val rfl rfl (fun w9 F9 S9 s => R.nilChk rfl) ?_
    refine SL.val rfl rfl (fun w9 F9 S9 s => R.fld rfl) ?_
    refine SL.val rfl rfl (fun w9 F9 S9 s => R.ldB rfl (s.cel (by repeat (first | exact SelB.blk | exact SelB.fz | apply SelB.there))) (by rfl)) ?_
    refine SL.val rfl rfl (fun w9 F9 S9 s => R.mv rfl) ?_
    refine SL.step rfl rfl (CS.callR rfl go32 (fun w9 F9 S9 s => (s.mp (show Sel _ (mp (κ := Int) 110 114 2 m (psP hd)) _ from (by repeat (first | exact Sel.keep | exact Sel.here | apply Sel.there)))).elim fun S9 h9 => pgetX m hd k S9 w9 h9 (by omega))) ?_
    rintro _ _ ⟨rfl, rfl⟩
    refine SL.val rfl rfl (fun w9 F9 S9 s => R.mv rfl) ?_
    refine SL.val rfl rfl (fun w9 F9 S9 s => R.ext rfl rfl) ?_
    refine SL.val rfl rfl (fun w9 F9 S9 s => R.ext rfl rfl) ?_
    refine SL.step rfl rfl (CS.alloc [.slice none 0 0, .bool false] rfl) ?_
    rintro _ _ ⟨b6, rfl, rfl⟩
    refine SL.step0 rfl (CS.stA (vs := HdV.cells (ofH hd k)) rfl rfl (by repeat (first | exact Sel.keep | exact Sel.here | apply Sel.there)) (by rfl) (by rfl) (by intro u hu; exact HdV.one _ u hu)) ?_
    rintro _ _ rfl
    refine SL.val rfl rfl (fun w9 F9 S9 s => R.as rfl) ?_
    refine SL.nil ?_
    refine SN.fact (fun w9 F9 S9 s => (ofH_ok (s.sh (p := fun w => ∀ t ∈ hd, HdV.ok w t.2) (by repeat (first | exact Sel.keep | exact Sel.here | apply Sel.there))) k).1) (fun hf9 => ?_)
    have hnc := hf9; clear hf9
    refine SN.fact (fun w9 F9 S9 s => (ofH_ok (s.sh (p := fun w => ∀ t ∈ hd, HdV.ok w t.2) (by repeat (first | exact Sel.keep | exact Sel.here | apply Sel.there))) k).2.1) (fun hf9 => ?_)
    have hn64 := hf9; clear hf9
    refine SN.fact (fun w9 F9 S9 s => (ofH_ok (s.sh (p := fun w => ∀ t ∈ hd, HdV.ok w t.2) (by repeat (first | exact Sel.keep | exact Sel.here | apply Sel.there))) k).2.2.len) (fun hf9 => ?_)
    have hdn := hf9; clear hf9
    refine SN.imp (Imp.weak (p := fun w => ∀ t ∈ hd, HdV.ok w t.2) (q := fun w => Bs w (ofH hd k).a (ofH hd k).n (ofH hd k).d) (by repeat (first | exact Sel.keep | exact Sel.here | apply Sel.there)) (fun w hw => (ofH_ok hw k).2.2)) ?_
    obtain ⟨hw1, hw2, hw3⟩ := wr_bd (v := v1) (sz := sz) (p := (fr : Int) + k) (l := (ofH hd k).d) (by omega)
    have hsn := svL_succ hk hsv
    rw [valH_abs] at hsn
    refine SN.seq ?_
    refine SG.seq ?_
    refine SG.draw [12] [0, 1, 2, 3, 4, 5, 6, 7, 8, 9, 10, 11, 12, 13] (by decide +kernel) rfl ?_
    refine SW.pure rfl rfl rfl rfl (fun w9 => R.mv rfl) ?_
    refine SW.pure rfl rfl rfl rfl (fun w9 => R.nilChk rfl) ?_
    refine SW.pure rfl rfl rfl rfl (fun w9 => R.fld rfl) ?_
    refine SW.read rfl rfl rfl rfl (fun w9 F9 S9 s => R.ldB rfl (s.cel (by repeat (first | exact SelB.blk | exact SelB.fz | apply SelB.there))) (by rfl)) ?_
    refine SW.pure rfl rfl rfl rfl (fun w9 => R.mv rfl) ?_
    refine SW.pure rfl rfl rfl rfl (fun w9 => R.nilChk rfl) ?_
    refine SW.pure rfl rfl rfl rfl (fun w9 => R.fld rfl) ?_
    refine SW.read rfl rfl rfl rfl (fun w9 F9 S9 s => R.ldB rfl (s.cel (by repeat (first | exact SelB.blk | exact SelB.fz | apply SelB.there))) (by rfl)) ?_
    refine SW.pure rfl rfl rfl rfl (fun w9 => R.mv rfl) ?_
    refine SW.pure rfl rfl rfl rfl (fun w9 => R.add rfl rfl (by omega)) ?_
    refine SW.pure rfl rfl rfl rfl (fun w9 => R.fld rfl) ?_
    refine SW.read rfl rfl rfl rfl (fun w9 F9 S9 s => R.ldB (v := .slice (ofH hd k).a (ofH hd k).n (ofH hd k).c) rfl (s.cel (by repeat (first | exact SelB.blk | exact SelB.fz | apply SelB.there))) (by rfl)) ?_
    refine SW.step rfl rfl rfl rfl (CS.call rfl go33 (dwriteS d v1 sz ((fr : Int) + k) (ofH hd k).a (ofH hd k).n (ofH hd k).c (ofH hd k).d ⟨hc1, by omega⟩ (by omega) hnc (by omega)) (by repeat (first | exact Sels.nil | apply Sels.cons | exact Sel.keep | exact Sel.here | apply Sel.there))) ?_
    rintro _ _ ⟨_, ⟨rfl, rfl⟩, rfl⟩
    refine ⟨⟨.inl (by decide +kernel), ⟨.inl (by decide +kernel), ⟨.inl (by decide +kernel), trivial⟩⟩⟩, ?_⟩
    refine SW.n1 ?_
    refine SW.pure rfl rfl rfl rfl (fun w9 => R.as rfl) ?_
    refine SW.nil ?_
    refine SN.seq ?_
    refine SG.seq ?_
    refine SG.region ?_
    refine SL.val rfl rfl (fun w9 F9 S9 s => R.mv rfl) ?_
    refine SL.val rfl rfl (fun w9 F9 S9 s => R.neI rfl rfl) ?_
    refine SL.nil ?_
    refine SN.seq ?_
    refine SG.condP rfl (fun h2 => ?_) (fun h2 => ?_)
    · have hst := svL_stuck (ks := (dirtyL (absP hd))) (i := i + 1) (by rw [hsn]; exact h2)
      rw [hsn] at hst
      refine SG.seq ?_
      refine SG.region ?_
      refine SL.val rfl rfl (fun w9 F9 S9 s => R.mv rfl) ?_
      refine SL.val rfl rfl (fun w9 F9 S9 s => R.as rfl) ?_
      refine SL.nil ?_
      refine SN.seq ?_
      exact SG.ret1 rfl rfl ((Imp.sels (by repeat (first | exact Sels.nil | apply Sels.cons | exact Sel.keep | exact Sel.here | apply Sel.there)))) (svPost (A := (fun hd vv => [blk p [.pointer (some ⟨d, 0, none⟩), .int .i64 (fr : Int), .int .i64 (B : Int), .pointer (some ⟨m, 0, none⟩)] 78, mp (κ := Int) 110 114 2 m (psP hd), sh (fun w => ∀ t ∈ hd, HdV.ok w t.2), dvA d vv sz])) (hd' := hd) (psave_err hst h2) rfl)
    · have hsv2 : svL (absP hd) vv sz fr ((dirtyL (absP hd)).take (i + 1)) = ((writeV v1 sz ((fr : Int) + k) (ofH hd k).d).1, 0) := by rw [hsn]; exact Prod.ext rfl (Classical.not_not.1 h2)
      refine SG.skip ?_
      refine SN.block ?_
      refine SN.seq ?_
      refine SG.region ?_
      refine SL.val rfl rfl (fun w9 F9 S9 s => R.add rfl rfl (by omega)) ?_
      refine SL.val rfl rfl (fun w9 F9 S9 s => R.mv rfl) ?_
      refine SL.nil ?_
      exact SN.again (⟨i + 1, (writeV v1 sz ((fr : Int) + k) (ofH hd k).d).1⟩) (by show (dirtyL (absP hd)).length - (i + 1) < (dirtyL (absP hd)).length - i; omega) (Sub.cons rfl (Sub.cons rfl (Sub.cons rfl (Sub.cons rfl (Sub.cons rfl (Sub.nil _)))))) ((Imp.sels (by repeat (first | exact Sels.nil | apply Sels.cons | exact Sel.keep | exact Sel.here | apply Sel.there)))) (⟨by show i + 1 ≤ _; omega, hsv2, by show 0 ≤ (writeV v1 sz ((fr : Int) + k) (ofH hd k).d).1.calls; omega, by show (writeV v1 sz ((fr : Int) + k) (ofH hd k).d).1.calls ≤ vv.calls + ((i + 1 : Nat) : Int); omega, by show (writeV v1 sz ((fr : Int) + k) (ofH hd k).d).1.wt.length ≤ vv.wt.length + (i + 1); omega⟩)
  · obtain rfl : i = (dirtyL (absP hd)).length := by omega
    rw [List.take_length] at hsv
    refine SG.exit _ rfl ?_
    refine SN.seq ?_
    refine SG.seq ?_
    refine SG.seq ?_
    refine SG.region ?_
    refine SL.val rfl rfl (fun w9 F9 S9 s => R.mv rfl) ?_
    refine SL.val rfl rfl (fun w9 F9 S9 s => R.nilChk rfl) ?_
    refine SL.val rfl rfl (fun w9 F9 S9 s => R.fld rfl) ?_
    refine SL.val rfl rfl (fun w9 F9 S9 s => R.ldB rfl (s.cel (by repeat (first | exact SelB.blk | exact SelB.fz | apply SelB.there))) (by rfl)) ?_
    refine SL.step rfl rfl (CS.call rfl go34 (dflushS d v1 sz ⟨hc1, by omega⟩ (by omega)) (by repeat (first | exact Sels.nil | apply Sels.cons | exact Sel.keep | exact Sel.here | apply Sel.there))) ?_
    rintro _ _ ⟨_, ⟨rfl, rfl⟩, rfl⟩
    refine SL.n1 ?_
    refine SL.val rfl rfl (fun w9 F9 S9 s => R.as rfl) ?_
    refine SL.nil ?_
    refine SN.seq ?_
    refine SG.seq ?_
    refine SG.region ?_
    refine SL.val rfl rfl (fun w9 F9 S9 s => R.mv rfl) ?_
    refine SL.val rfl rfl (fun w9 F9 S9 s => R.neI rfl rfl) ?_
    refine SL.nil ?_
    refine SN.seq ?_
    refine SG.condP rfl (fun h3 => ?_) (fun h3 => ?_)
    · refine SG.seq ?_
      refine SG.region ?_
      refine SL.val rfl rfl (fun w9 F9 S9 s => R.mv rfl) ?_
      refine SL.val rfl rfl (fun w9 F9 S9 s => R.as rfl) ?_
      refine SL.nil ?_
      refine SN.seq ?_
      exact SG.ret1 rfl rfl ((Imp.sels (by repeat (first | exact Sels.nil | apply Sels.cons | exact Sel.keep | exact Sel.here | apply Sel.there)))) (svPost (A := (fun hd vv => [blk p [.pointer (some ⟨d, 0, none⟩), .int .i64 (fr : Int), .int .i64 (B : Int), .pointer (some ⟨m, 0, none⟩)] 78, mp (κ := Int) 110 114 2 m (psP hd), sh (fun w => ∀ t ∈ hd, HdV.ok w t.2), dvA d vv sz])) (hd' := hd) (psave_fl hsv h3) rfl)
    · have hso := psave_ok hsv (Classical.not_not.1 h3)
      refine SG.skip ?_
      refine SN.seq ?_
      refine SG.seq ?_
      refine SG.seq ?_
      refine SG.region ?_
      refine SL.val rfl rfl (fun w9 F9 S9 s => R.mv rfl) ?_
      refine SL.val rfl rfl (fun w9 F9 S9 s => R.lenS rfl) ?_
      refine SL.val rfl rfl (fun w9 F9 S9 s => R.mv rfl) ?_
      refine SL.nil ?_
      refine SN.seq ?_
      refine SG.block ?_
      refine SG.loop (X := PuS) (fun y => [(0, .pointer (some ⟨p, 0, none⟩)), (58, .slice a9 (dirtyL (absP hd)).length c9), (59, .int .i64 ((dirtyL (absP hd)).length : Int)), (60, .int .i64 (y.i : Int))]) (fun y => [blk p [.pointer (some ⟨d, 0, none⟩), .int .i64 (fr : Int), .int .i64 (B : Int), .pointer (some ⟨m, 0, none⟩)] 78, mp (κ := Int) 110 114 2 m (psP y.hd), sh (fun w => ∀ t ∈ y.hd, HdV.ok w t.2), dvA d (flushV v1).1 sz, sh (fun w => Cells w a9 ((dirtyL (absP hd)).map (Value.int .i64)))]) (fun y => y.i ≤ (dirtyL (absP hd)).length ∧ absP y.hd = clean (absP hd) ((dirtyL (absP hd)).take y.i) ∧ y.hd.length ≤ hd.length + y.i) (fun y => (dirtyL (absP hd)).length - y.i) (⟨0, hd⟩) (Sub.cons rfl (Sub.cons rfl (Sub.cons rfl (Sub.cons rfl (Sub.nil _))))) ((Imp.sels (by repeat (first | exact Sels.nil | apply Sels.cons | exact Sel.keep | exact Sel.here | apply Sel.there)))) (⟨Nat.zero_le _, rfl, Nat.le_refl _⟩) ?_
      rintro ⟨i, hd2⟩ ⟨hi, hab, hlen⟩
      dsimp only at hi hab hlen
      show SG _ _ _ _ _ [(0, .pointer (some ⟨p, 0, none⟩)), (58, .slice a9 (dirtyL (absP hd)).length c9), (59, .int .i64 ((dirtyL (absP hd)).length : Int)), (60, .int .i64 (i : Int))] [blk p [.pointer (some ⟨d, 0, none⟩), .int .i64 (fr : Int), .int .i64 (B : Int), .pointer (some ⟨m, 0, none⟩)] 78, mp (κ := Int) 110 114 2 m (psP hd2), sh (fun w => ∀ t ∈ hd2, HdV.ok w t.2), dvA d (flushV v1).1 sz, sh (fun w => Cells w a9 ((dirtyL (absP hd)).map (Value.int .i64)))] _
      refine SG.seq ?_
      refine SG.region ?_
      refine SL.val rfl rfl (fun w9 F9 S9 s => R.lss rfl rfl) ?_
      refine SL.nil ?_
      refine SN.seq ?_
      refine SG.seq ?_
      refine SG.condP rfl (fun h4 => ?_) (fun h4 => ?_)
      · obtain ⟨k, hk⟩ : ∃ k, (dirtyL (absP hd))[i]? = some k := ⟨_, List.getElem?_eq_getElem (by omega)⟩
        refine SG.fact (fun w9 F9 S9 s => ints_pt (s.sh (p := fun w => Cells w a9 ((dirtyL (absP hd)).map (Value.int .i64))) (by repeat (first | exact Sel.keep | exact Sel.here | apply Sel.there))) hk) (fun hf9 => ?_)
        obtain ⟨q, hq⟩ := hf9
        obtain ⟨hk0, hkB⟩ := dirtyK hky k (List.mem_of_getElem? hk)
        refine SG.skip ?_
        refine SN.seq ?_
        refine SG.seq ?_
        refine SG.block ?_
        refine SG.seq ?_
        refine SG.region ?_
        refine SL.val rfl rfl (fun w9 F9 S9 s => R.idx rfl rfl (by omega) (by omega) q hq) ?_
        refine SL.val rfl rfl (fun w9 F9 S9 s => R.ld (v := .int .i64 k) rfl (ints_ld (s.sh (p := fun w => Cells w a9 ((dirtyL (absP hd)).map (Value.int .i64))) (by repeat (first | exact Sel.keep | exact Sel.here | apply Sel.there))) hq hk)) ?_
        refine SL.val rfl rfl (fun w9 F9 S9 s => R.as rfl) ?_
        refine SL.nil ?_
        refine SN.seq ?_
        refine SG.seq ?_
        refine SG.region ?_
        refine SL.val rfl rfl (fun w9 F9 S9 s => R.mv rfl) ?_
        refine SL.val rfl rfl (fun w9 F9 S9 s => R.nilChk rfl) ?_
        refine SL.val rfl rfl (fun w9 F9 S9 s => R.fld rfl) ?_
        refine SL.val rfl rfl (fun w9 F9 S9 s => R.ldB rfl (s.cel (by repeat (first | exact SelB.blk | exact SelB.fz | apply SelB.there))) (by rfl)) ?_
        refine SL.val rfl rfl (fun w9 F9 S9 s => R.mv rfl) ?_
        refine SL.step rfl rfl (CS.callR rfl go32 (fun w9 F9 S9 s => (s.mp (show Sel _ (mp (κ := Int) 110 114 2 m (psP hd2)) _ from (by repeat (first | exact Sel.keep | exact Sel.here | apply Sel.there)))).elim fun S9 h9 => pgetX m hd2 k S9 w9 h9 (by omega))) ?_
        rintro _ _ ⟨rfl, rfl⟩
        refine SL.val rfl rfl (fun w9 F9 S9 s => R.mv rfl) ?_
        refine SL.val rfl rfl (fun w9 F9 S9 s => R.ext rfl rfl) ?_
        refine SL.val rfl rfl (fun w9 F9 S9 s => R.ext rfl rfl) ?_
        refine SL.step rfl rfl (CS.alloc [.slice none 0 0, .bool false] rfl) ?_
        rintro _ _ ⟨b12, rfl, rfl⟩
        refine SL.step0 rfl (CS.stA (vs := HdV.cells (ofH hd2 k)) rfl rfl (by repeat (first | exact Sel.keep | exact Sel.here | apply Sel.there)) (by rfl) (by rfl) (by intro u hu; exact HdV.one _ u hu)) ?_
        rintro _ _ rfl
        refine SL.val rfl rfl (fun w9 F9 S9 s => R.as rfl) ?_
        refine SL.nil ?_
        refine SN.seq ?_
        refine SG.draw [8] [0, 1, 2, 3, 4, 5, 6, 7, 8] (by decide +kernel) rfl ?_
        refine SW.pure rfl rfl rfl rfl (fun w9 => R.mv rfl) ?_
        refine SW.pure rfl rfl rfl rfl (fun w9 => R.nilChk rfl) ?_
        refine SW.pure rfl rfl rfl rfl (fun w9 => R.fld rfl) ?_
        refine SW.read rfl rfl rfl rfl (fun w9 F9 S9 s => R.ldB rfl (s.cel (by repeat (first | exact SelB.blk | exact SelB.fz | apply SelB.there))) (by rfl)) ?_
        refine SW.pure rfl rfl rfl rfl (fun w9 => R.mv rfl) ?_
        refine SW.pure rfl rfl rfl rfl (fun w9 => R.fld rfl) ?_
        refine SW.read rfl rfl rfl rfl (fun w9 F9 S9 s => R.ldB (v := .slice (ofH hd2 k).a (ofH hd2 k).n (ofH hd2 k).c) rfl (s.cel (by repeat (first | exact SelB.blk | exact SelB.fz | apply SelB.there))) (by rfl)) ?_
        refine SW.pure rfl rfl rfl rfl (fun w9 => R.build (cs := (HdV.cells (⟨(ofH hd2 k).a, (ofH hd2 k).n, (ofH hd2 k).c, (ofH hd2 k).d, false⟩ : HdV)).toArray) rfl rfl) ?_
        refine SW.step rfl rfl rfl rfl (CS.call rfl go30 (pputX m hd2 k (⟨(ofH hd2 k).a, (ofH hd2 k).n, (ofH hd2 k).c, (ofH hd2 k).d, false⟩ : HdV) (by omega)) (by repeat (first | exact Sels.nil | apply Sels.cons | exact Sel.keep | exact Sel.here | apply Sel.there))) ?_
        rintro _ _ ⟨_, ⟨rfl, rfl⟩, rfl⟩
        refine ⟨⟨.inl (by decide +kernel), ⟨.inl (by decide +kernel), trivial⟩⟩, ?_⟩
        refine SW.n1 ?_
        refine SW.nil ?_
        refine SN.imp (Imp.weak (p := fun w => ∀ t ∈ hd2, HdV.ok w t.2) (q := fun w => ∀ t ∈ putT hd2 k (⟨(ofH hd2 k).a, (ofH hd2 k).n, (ofH hd2 k).c, (ofH hd2 k).d, false⟩ : HdV), HdV.ok w t.2) (by repeat (first | exact Sel.keep | exact Sel.here | apply Sel.there)) (fun w hw => hputs_ok hw ⟨(ofH_ok hw k).1, (ofH_ok hw k).2.1, (ofH_ok hw k).2.2⟩)) ?_
        refine SN.block ?_
        refine SN.seq ?_
        refine SG.region ?_
        refine SL.val rfl rfl (fun w9 F9 S9 s => R.add rfl rfl (by omega)) ?_
        refine SL.val rfl rfl (fun w9 F9 S9 s => R.mv rfl) ?_
        refine SL.nil ?_
        exact SN.again (⟨i + 1, putT hd2 k (⟨(ofH hd2 k).a, (ofH hd2 k).n, (ofH hd2 k).c, (ofH hd2 k).d, false⟩ : HdV)⟩) (by show (dirtyL (absP hd)).length - (i + 1) < (dirtyL (absP hd)).length - i; omega) (Sub.cons rfl (Sub.cons rfl (Sub.cons rfl (Sub.cons rfl (Sub.nil _))))) ((Imp.sels (by repeat (first | exact Sels.nil | apply Sels.cons | exact Sel.keep | exact Sel.here | apply Sel.there)))) (⟨by show i + 1 ≤ _; omega, by show absP (putT hd2 k (⟨(ofH hd2 k).a, (ofH hd2 k).n, (ofH hd2 k).c, (ofH hd2 k).d, false⟩ : HdV)) = _; rw [absP_put, clean_succ hk, ← hab, valH_abs], by have := putT_len hd2 k (⟨(ofH hd2 k).a, (ofH hd2 k).n, (ofH hd2 k).c, (ofH hd2 k).d, false⟩ : HdV); show (putT hd2 k (⟨(ofH hd2 k).a, (ofH hd2 k).n, (ofH hd2 k).c, (ofH hd2 k).d, false⟩ : HdV)).length ≤ hd.length + (i + 1); omega⟩)
      · obtain rfl : i = (dirtyL (absP hd)).length := by omega
        rw [List.take_length] at hab
        refine SG.exit _ rfl ?_
        refine SN.seq ?_
        refine SG.seq ?_
        refine SG.region ?_
        refine SL.val rfl rfl (fun w9 F9 S9 s => R.as rfl) ?_
        refine SL.nil ?_
        refine SN.seq ?_
        exact SG.ret1 rfl rfl ((Imp.sels (by repeat (first | exact Sels.nil | apply Sels.cons | exact Sel.keep | exact Sel.here | apply Sel.there)))) (svPost (A := (fun hd vv => [blk p [.pointer (some ⟨d, 0, none⟩), .int .i64 (fr : Int), .int .i64 (B : Int), .pointer (some ⟨m, 0, none⟩)] 78, mp (κ := Int) 110 114 2 m (psP hd), sh (fun w => ∀ t ∈ hd, HdV.ok w t.2), dvA d vv sz])) (hd' := hd2) (by rw [hso, hab]) rfl)

end Go.Proofs.Ytmbppidafnakhaa
/-
  The walks of package image.
-/
set_option linter.unusedVariables false
set_option linter.unusedSimpArgs false
namespace Go.Proofs.Ytmbppidafnakhaa
open Go Brv Brv.Image
theorem ifrom_okF (a : Option Addr) (n c : Nat) (l : List UInt8) (w : World) (hb : Bs w a n l) (hc : n ≤ c) (hv : l.length = 64 * dn l ∧ 1 ≤ dn l ∧ dn l ≤ 64) : Meets Try.prog 35 [.slice a n c] w (fun v w' => ∃ d, v = .tuple #[ptr d, .int .i64 0] ∧ Ext [] w w' ∧ DiskF w' w.heap.size d l) := by
  refine Meets.enter Try.func35 rfl 47 rfl (Nat.le_of_ble_eq_true rfl) ?_
  have E := Ext.refl [] w
  have hl := hb.len
  have hdl : dn l = l.length / 64 := rfl
  obtain ⟨hv1, hv2, hv3⟩ := hv
  refine G.seq ?_
  refine G.region ?_
  refine L.val rfl rfl (R.as rfl) ?_
  refine L.val rfl rfl (R.as rfl) ?_
  refine L.nil ?_
  refine N.seq ?_
  refine G.seq ?_
  refine G.seq ?_
  refine G.region ?_
  refine L.val rfl rfl (R.mv rfl) ?_
  refine L.val rfl rfl (R.lenS rfl) ?_
  refine L.val rfl rfl (R.rem rfl rfl (by omega) (by omega)) ?_
  refine L.val rfl rfl (R.neI rfl rfl) ?_
  refine L.nil ?_
  refine N.seq ?_
  refine G.condP rfl (fun h0 => ?_) (fun h0 => ?_)
  · exfalso; omega
  · refine G.skip ?_
    refine N.seq ?_
    refine G.seq ?_
    refine G.region ?_
    refine L.val rfl rfl (R.mv rfl) ?_
    refine L.val rfl rfl (R.lenS rfl) ?_
    refine L.val rfl rfl (R.quo rfl rfl (by omega) (by omega)) ?_
    refine L.be 15 rfl (show _ = Value.int .i64 (dn l : Int) by congr 1; omega) ?_
    refine L.callF rfl rfl rfl go54 (inew_okF (dn l) _ hv2 hv3) ?_
    rintro _ w1 ⟨d, rfl, e1, O1⟩
    replace E := E.trans0 e1
    obtain ⟨x0, hx0⟩ : ∃ x0 : List UInt8, x0 = List.replicate (64 * dn l) 0 := ⟨_, rfl⟩
    have hx0d : dn x0 = dn l := by rw [hx0, dn_zero]
    rw [← hx0] at O1
    obtain ⟨a6, c6, ps, M6, B6, hd6, hl6, _, _, o6, hM6, hB, hq⟩ := O1
    rw [hx0d] at B6 o6
    refine L.val rfl rfl (R.mv rfl) ?_
    refine L.val rfl rfl (R.ext rfl rfl) ?_
    refine L.val rfl rfl (R.ext rfl rfl) ?_
    refine L.val rfl rfl (R.as rfl) ?_
    refine L.val rfl rfl (R.as rfl) ?_
    refine L.nil ?_
    refine N.seq ?_
    refine G.seq ?_
    refine G.seq ?_
    refine G.region ?_
    refine L.val rfl rfl (R.mv rfl) ?_
    refine L.val rfl rfl (R.neI rfl rfl) ?_
    refine L.nil ?_
    refine N.seq ?_
    refine G.condF rfl ?_
    refine G.skip ?_
    refine N.seq ?_
    refine G.seq ?_
    refine G.seq ?_
    refine G.region ?_
    refine L.val rfl rfl (R.mv rfl) ?_
    refine L.val rfl rfl (R.nilChk rfl) ?_
    refine L.val rfl rfl (R.fld rfl) ?_
    refine L.val rfl rfl (R.ldB rfl B6 rfl) ?_
    refine L.val rfl rfl (R.lenS rfl) ?_
    refine L.val rfl rfl (R.mv rfl) ?_
    refine L.nil ?_
    refine N.seq ?_
    refine G.block ?_
    refine G.loop (X := Nat × List UInt8 × List Nat) (fun s => [(0, .slice a n c), (4, .pointer (some ⟨d, 0, none⟩)), (26, .int .i64 (dn l : Int)), (27, .int .i64 (s.1 : Int))]) (fun s w' => s.1 ≤ dn l ∧ s.2.1.length = l.length ∧ (∀ j, blk s.2.1 j = if j < s.1 then blk l j else blk x0 j) ∧ Ext [] w w' ∧ Blk w' d #[.slice a6 (dn l) c6] 123 (0, 0) ∧ Own w' 125 1 a6 (dn l) c6 (s.2.2.map ptr) M6 ∧ Blks w' s.2.2 s.2.1 ∧ ∀ p ∈ s.2.2, w.heap.size ≤ p) (fun s => dn l - s.1) ((0, x0, ps)) (Sub.cons rfl (Sub.cons rfl (Sub.cons rfl (Sub.cons rfl (Sub.nil _))))) ⟨Nat.zero_le _, by show x0.length = _; omega, fun j => (if_neg (Nat.not_lt_zero _)).symm, E, B6, o6, hB, hq⟩ ?_
    rintro ⟨i, y, qs⟩ w2 ⟨hi, hyl, hyb, E, B6, o6, hB, hqs⟩
    dsimp only at hi hyl hyb o6 hB
    refine G.sub [(0, .slice a n c), (4, .pointer (some ⟨d, 0, none⟩)), (26, .int .i64 (dn l : Int)), (27, .int .i64 (i : Int))] (Sub.cons rfl (Sub.cons rfl (Sub.cons rfl (Sub.cons rfl (Sub.nil _))))) ?_
    have hdy : dn y = dn l := by unfold dn; rw [hyl]
    refine G.seq ?_
    refine G.region ?_
    refine L.val rfl rfl (R.lss rfl rfl) ?_
    refine L.nil ?_
    refine N.seq ?_
    refine G.seq ?_
    refine G.condP rfl (fun h2 => ?_) (fun h2 => ?_)
    · have hil : i < dn l := by omega
      have h64 := blk_length hil
      have hbs := (hb.ext0 E).sub (64 * i) c 64 (by omega) (by omega)
      rw [show (l.drop (64 * i)).take 64 = blk l i from rfl] at hbs
      obtain ⟨q, hq⟩ : ∃ q, subA a (64 * i) c 1 = some q := by
        cases hq : subA a (64 * i) c 1 with
        | none => rw [hq] at hbs; have := hbs.none.2; cases this
        | some q => exact ⟨q, rfl⟩
      rw [hq] at hbs
      have hyb2 : ∀ j, blk (laid y i (blk l i)) j = if j < i + 1 then blk l j else blk x0 j := by
        intro j
        rw [laid_blk h64 (by omega), hyb j]
        by_cases e : j = i
        · subst e; rw [if_pos rfl, if_pos (by omega)]
        · rw [if_neg e]
          by_cases e2 : j < i
          · rw [if_pos e2, if_pos (by omega)]
          · rw [if_neg e2, if_neg (by omega)]
      refine G.skip ?_
      refine N.seq ?_
      refine G.seq ?_
      refine G.block ?_
      refine G.seq ?_
      refine G.region ?_
      refine L.val rfl rfl (R.mv rfl) ?_
      refine L.val rfl rfl (R.as rfl) ?_
      refine L.nil ?_
      refine N.seq ?_
      refine G.seq ?_
      refine G.region ?_
      refine L.val rfl rfl (R.mv rfl) ?_
      refine L.val rfl rfl (R.mv rfl) ?_
      refine L.val rfl rfl (R.mul rfl rfl (by omega)) ?_
      refine L.val rfl rfl (R.mv rfl) ?_
      refine L.val rfl rfl (R.add rfl rfl (by omega)) ?_
      refine L.val rfl rfl (R.mul rfl rfl (by omega)) ?_
      refine L.val rfl rfl (R.slLH rfl rfl rfl (by omega) (by omega) (by omega)) ?_
      refine L.be 36 rfl (show _ = Value.slice (some q) 64 (c - 64 * i) by rw [show ((i : Int) * 64).toNat = 64 * i by omega, show (((i : Int) + 1) * 64).toNat - 64 * i = 64 by omega, hq]) ?_
      refine L.val rfl rfl (R.s2ap rfl (by decide)) ?_
      refine L.val rfl rfl (R.ldN rfl hbs.cells (by rw [vbs_length, h64])) ?_
      refine L.do rfl rfl (R.alloc) ?_
      rintro _ w6 ⟨b7, rfl, hb7, hs7, e6, B7⟩
      have hE6 := E.size
      refine L.set rfl (R.stN rfl rfl B7 (by simp [vbs_length, h64]) (by simp [vbs_length, h64, Value.cells]) (by simpa using vbs_one _)) ?_
      rintro w7 ⟨e7, hs7, B7⟩
      rw [all_stored (by simp [vbs_length, h64, Value.cells])] at B7
      have n7 := e6.news2 e7 (by omega)
      replace E := E.trans0 n7
      replace B6 := B6.ext0 n7
      replace o6 := o6.ext0 n7
      replace hB := hB.ext0 n7
      obtain ⟨gl, curl, rfl, rfl, L6, hkl, hO6⟩ := o6.set i (by omega)
      have hgl := hM6 gl (by simp)
      have hE7 := E.size
      refine L.nil ?_
      refine N.seq ?_
      refine G.region ?_
      refine L.val rfl rfl (R.mv rfl) ?_
      refine L.val rfl rfl (R.nilChk rfl) ?_
      refine L.val rfl rfl (R.fld rfl) ?_
      refine L.val rfl rfl (R.ldB rfl B6 rfl) ?_
      refine L.val rfl rfl (R.mv rfl) ?_
      refine L.val rfl rfl (R.idx rfl rfl (by omega) (by omega) _ rfl) ?_
      refine L.be 44 rfl (show _ = Value.pointer (some ⟨gl, i, none⟩) by rw [Go.Addr.add_lit]; simp) ?_
      refine L.set rfl (R.st rfl rfl L6 hkl rfl) ?_
      rintro w8 ⟨e12, hs12, L12⟩
      replace o6 := hO6 (ptr b7) _ e12 L12
      replace E := E.news2 e12 (by omega)
      replace B6 := B6.ext e12 (fun hm => B6.ne L6 (by decide) (List.mem_singleton.1 hm))
      replace hB := hB.put e12 L6 B7 h64 (show i < dn y by omega)
      refine L.nil ?_
      refine N.block ?_
      refine N.seq ?_
      refine G.region ?_
      refine L.val rfl rfl (R.add rfl rfl (by omega)) ?_
      refine L.val rfl rfl (R.mv rfl) ?_
      refine L.nil ?_
      exact N.again (i + 1, laid y i (blk l i), qs.set i b7) (by show dn l - (i + 1) < dn l - i; omega) (Sub.cons rfl (Sub.cons rfl (Sub.cons rfl (Sub.cons rfl (Sub.nil _))))) ⟨by show i + 1 ≤ dn l; omega, (laid_length h64 (by omega)).trans hyl, hyb2, E, B6, by rw [List.map_set]; exact o6, hB, fun p hp => (List.mem_or_eq_of_mem_set hp).elim (hqs p) (fun e => by rw [e]; omega)⟩
    · obtain rfl : i = dn l := by omega
      have hyl2 : y = l := eq_of_blk hyl (by rw [hyl, hdy]; exact hv1) (fun k hk => by rw [hyb k, if_pos (by rw [← hdy]; exact hk)])
      subst hyl2
      refine G.exit _ rfl ?_
      refine N.seq ?_
      refine G.seq ?_
      refine G.region ?_
      refine L.val rfl rfl (R.mv rfl) ?_
      refine L.val rfl rfl (R.as rfl) ?_
      refine L.val rfl rfl (R.as rfl) ?_
      refine L.nil ?_
      refine N.seq ?_
      refine G.ret2 rfl rfl rfl ?_
      exact ⟨d, rfl, E, OwnDiskF.f ⟨a6, c6, qs, M6, B6, by omega, hv1, hv2, hv3, o6, fun g hg => by have := hM6 g hg; omega, hB, hqs⟩⟩

end Go.Proofs.Ytmbppidafnakhaa
/-
  The walks of package image.
-/
set_option linter.unusedVariables false
set_option linter.unusedSimpArgs false
namespace Go.Proofs.Ytmbppidafnakhaa
open Go Brv Brv.Image
/-- What the iterator over the disk reads. -/
def fpIs (w : World) (F : List Nat) (b1 : Nat) (d : Option Addr) (x : List UInt8) : Prop := (∀ g ∈ F, g < w.heap.size) ∧ ∀ M w', Ext M w w' → (∀ g ∈ F, g ∉ M) → Blk w' b1 #[.pointer d] 33 (0, 0) ∧ DiskO w' d x
theorem fp_of {w w0 : World} {b1 : Nat} {d : Option Addr} {x : List UInt8} (h1 : Blk w b1 #[.pointer d] 33 (0, 0)) (h2 : DiskO w0 d x) (he0 : Ext [] w0 w) : ∃ F, fpIs w F b1 d x ∧ ∀ y ∈ F, y = b1 ∨ y < w0.heap.size := by
  rcases h2 with ⟨rfl, rfl⟩ | ⟨b, rfl, g, c, cur, ps, D0⟩
  · exact ⟨[b1], ⟨fun y hy => by rw [List.mem_singleton.1 hy]; exact h1.lt, fun M w' he hm => ⟨h1.ext he (hm b1 (by simp)), .no⟩⟩, fun y hy => .inl (List.mem_singleton.1 hy)⟩
  · have D := D0.ext0 he0
    exact ⟨b1 :: b :: g :: ps, ⟨fun y hy => by
      rcases List.mem_cons.1 hy with rfl | hy
      · exact h1.lt
      · exact D.lt y hy, fun M w' he hm => ⟨h1.ext he (hm b1 (by simp)), .inr ⟨b, rfl, g, c, cur, ps, D.ext he (fun y hy => hm y (List.mem_cons_of_mem _ hy))⟩⟩⟩, fun y hy => (List.mem_cons.1 hy).imp id (D0.lt y)⟩
theorem fpIs.ext0 {w w' : World} {F : List Nat} {b1 : Nat} {d : Option Addr} {x : List UInt8} (h : fpIs w F b1 d x) (he : Ext [] w w') : fpIs w' F b1 d x :=
  ⟨fun g hg => Nat.lt_of_lt_of_le (h.1 g hg) he.size, fun M w2 e hm => by
    have e2 : Ext (M.filter (fun g => decide (g < w.heap.size))) w w2 := by
      refine he.trans e (by simp) (fun g hg => ?_)
      by_cases hl : g < w.heap.size
      · exact .inl (List.mem_filter.2 ⟨hg, by simpa using hl⟩)
      · exact .inr (by omega)
    exact h.2 _ w2 e2 (fun g hg hmem => hm g hg (List.mem_filter.1 hmem).1)⟩
def blkE (x : List UInt8) (k : Nat) (vs : List Value) (W : World) : Prop := ∃ a c, vs = [.int .i64 (k : Int), .slice a (blk x k).length c] ∧ (blk x k).length ≤ c ∧ Bs W a (blk x k).length (blk x k)

theorem iall_ok (d : Option Addr) (w : World) : Meets Try.prog 37 [.pointer d] w (fun v w' => ∃ b1, v = .func (.func 56) #[] #[.pointer (some ⟨b1, 0, none⟩)] ∧ Ext [] w w' ∧ Blk w' b1 #[.pointer d] 33 (0, 0) ∧ w.heap.size ≤ b1) := by
  refine Meets.enter Try.func37 rfl 4 rfl (Nat.le_of_ble_eq_true rfl) ?_
  have E := Ext.refl [] w
  refine G.seq ?_
  refine G.region ?_
  refine L.do rfl rfl (R.box rfl) ?_
  rintro _ w1 ⟨b1, rfl, hb1, hs1, e1, B1⟩
  replace E := E.trans0 e1
  refine L.val rfl rfl (R.as rfl) ?_
  refine L.nil ?_
  refine N.seq ?_
  refine G.seq ?_
  refine G.region ?_
  refine L.val rfl rfl (R.mkFunc rfl rfl) ?_
  refine L.val rfl rfl (R.as rfl) ?_
  refine L.nil ?_
  refine N.seq ?_
  refine G.ret1 rfl rfl ?_
  exact ⟨b1, rfl, E, B1, by omega⟩

theorem iall1_ok (y : Value) (b1 : Nat) (d : Option Addr) (x : List UInt8) (F : List Nat) (D₀ : List Nat) (J Jx : Nat → List Nat → World → Prop) (w : World) (hF : fpIs w F b1 d x) (hD : ∀ g ∈ D₀, g < w.heap.size ∧ g ∉ F ∧ g ∉ ([] : List Nat)) (hJ : ∀ k D W₁ W₂ M', J k D W₁ → Ext M' W₁ W₂ → (∀ g ∈ M', g ∉ D ∧ (g ∈ ([] : List Nat) ∨ w.heap.size ≤ g)) → J k D W₂) (hJx : ∀ k D W₁ W₂ M', Jx k D W₁ → Ext M' W₁ W₂ → (∀ g ∈ M', g ∉ D ∧ (g ∈ ([] : List Nat) ∨ w.heap.size ≤ g)) → Jx k D W₂) (hY : ∀ k D vs W₁, k < dn x → J k D W₁ → blkE x k vs W₁ → (∀ g ∈ D, g < W₁.heap.size) → YCall Try.prog y vs W₁ fun b W₂ => ∃ D', Ext D W₁ W₂ ∧ (∀ g ∈ D', g < W₂.heap.size ∧ (g ∈ D ∨ W₁.heap.size ≤ g)) ∧ (b = true → J (k + 1) D' W₂) ∧ (b = false → Jx (k + 1) D' W₂)) (h0 : J 0 D₀ w) : Meets Try.prog 56 [y, .pointer (some ⟨b1, 0, none⟩)] w (fun _ W₂ => (∃ D, J (dn x) D W₂ ∧ True) ∨ ∃ k D, k ≤ dn x ∧ Jx k D W₂ ∧ True) := by
  refine Meets.enter Try.func56 rfl 24 rfl (Nat.le_of_ble_eq_true rfl) ?_
  obtain ⟨B1, hd⟩ := hF.2 [] w (Ext.refl _ _) (by simp)
  have hFD : ∀ g ∈ F, g ∉ D₀ := fun g hg h => (hD g h).2.1 hg
  have hx0 := hd.len
  refine G.seq ?_
  refine G.region ?_
  refine L.val rfl rfl (R.ldB rfl B1 rfl) ?_
  refine L.callF rfl rfl rfl go57 (iblocks_ok d x _ hd) ?_
  rintro _ _ ⟨rfl, hw⟩
  obtain rfl := hw.symm
  refine L.val rfl rfl (R.mv rfl) ?_
  refine L.nil ?_
  refine N.seq ?_
  refine G.block ?_
  refine G.loop (X := Nat) (fun i => [(0, y), (1, .pointer (some ⟨b1, 0, none⟩)), (5, .int .i64 (dn x : Int)), (6, .int .i64 (i : Int))]) (fun i w' => i ≤ dn x ∧ (∃ D, J i D w' ∧ ∀ g ∈ D, g < w'.heap.size ∧ (g ∈ D₀ ∨ w.heap.size ≤ g)) ∧ Ext D₀ w w') (fun i => dn x - i) (0) (Sub.cons rfl (Sub.cons rfl (Sub.cons rfl (Sub.cons rfl (Sub.nil _))))) ⟨Nat.zero_le _, ⟨D₀, h0, fun g hg => ⟨(hD g hg).1, .inl hg⟩⟩, Ext.refl _ _⟩ ?_
  rintro i w1 ⟨hi, ⟨D, hJi, hDD⟩, e1⟩
  obtain ⟨B1, hd⟩ := hF.2 _ _ e1 hFD
  refine G.seq ?_
  refine G.region ?_
  refine L.val rfl rfl (R.lss rfl rfl) ?_
  refine L.nil ?_
  refine N.seq ?_
  refine G.seq ?_
  refine G.condP rfl (fun h0 => ?_) (fun h0 => ?_)
  · have hix : i < dn x := by omega
    obtain ⟨db, rfl, g1, k1, cur1, ps1, D1⟩ := hd.pos (by omega)
    obtain ⟨z1, hz1, Z1⟩ := D1.ptr hix
    have hs1 := blk_length hix
    have hbs := Bs.of_blk Z1 (blk x i) (by simp) 64 hs1.symm
    refine G.skip ?_
    refine N.seq ?_
    refine G.seq ?_
    refine G.block ?_
    refine G.seq ?_
    refine G.region ?_
    refine L.val rfl rfl (R.mv rfl) ?_
    refine L.val rfl rfl (R.as rfl) ?_
    refine L.nil ?_
    refine N.seq ?_
    refine G.seq ?_
    refine G.region ?_
    refine L.val rfl rfl (R.mv rfl) ?_
    refine L.val rfl rfl (R.mv rfl) ?_
    refine L.val rfl rfl (R.ldB rfl B1 rfl) ?_
    refine L.val rfl rfl (R.nilChk rfl) ?_
    refine L.val rfl rfl (R.fld rfl) ?_
    refine L.val rfl rfl (R.ldB rfl D1.hd rfl) ?_
    refine L.val rfl rfl (R.mv rfl) ?_
    refine L.val rfl rfl (R.idx rfl rfl (by omega) (by omega) _ rfl) ?_
    refine L.val rfl rfl (R.ld rfl (v := ptr z1) (by rw [Go.Addr.add_lit]; simpa using (D1.hg.cell i).trans hz1)) ?_
    refine L.val rfl rfl (R.nilChk rfl) ?_
    refine L.val rfl rfl (R.slA rfl) ?_
    refine L.callF rfl rfl rfl go31 (bclone_ok _ _ _ _ _ hbs (by decide)) ?_
    rintro _ w2 ⟨a1, c1, M1, rfl, e2, o1, hM1⟩
    have hbo := Bs.of_own o1
    have hle := o1.le
    rw [← hs1] at hbo hle ⊢
    replace hJi := hJ i D w1 w2 [] hJi e2 (by simp)
    replace e1 : Ext D₀ w w2 := e1.trans0 e2
    replace hDD : ∀ g ∈ D, g < w2.heap.size ∧ (g ∈ D₀ ∨ w.heap.size ≤ g) := fun g hg => ⟨Nat.lt_of_lt_of_le (hDD g hg).1 e2.size, (hDD g hg).2⟩
    refine L.ycall rfl rfl rfl rfl (hY i D _ w2 hix hJi ⟨_, _, rfl, hle, hbo⟩ (fun g hg => (hDD g hg).1)) ?_
    rintro bb w3 ⟨D2, eD, hD2, hT, hFl⟩
    refine L.val rfl rfl (R.not rfl) ?_
    refine L.nil ?_
    refine N.seq ?_
    refine G.condB rfl (fun h1 => ?_) (fun h1 => ?_)
    · obtain rfl : bb = false := by simpa using h1
      refine G.ret0 rfl ?_
      exact .inr ⟨i + 1, D2, by omega, hFl rfl, trivial⟩
    · obtain rfl : bb = true := by simpa using h1
      refine G.skip ?_
      refine N.block ?_
      refine N.seq ?_
      refine G.region ?_
      refine L.val rfl rfl (R.add rfl rfl (by omega)) ?_
      refine L.val rfl rfl (R.mv rfl) ?_
      refine L.nil ?_
      exact N.again (i + 1) (by omega) (Sub.cons rfl (Sub.cons rfl (Sub.cons rfl (Sub.cons rfl (Sub.nil _))))) ⟨by omega, ⟨D2, hT rfl, fun g hg => ⟨(hD2 g hg).1, (hD2 g hg).2.elim (fun h => (hDD g h).2) (fun h => .inr (Nat.le_trans e1.size h))⟩⟩, e1.transN eD (fun g hg => (hDD g hg).2.imp id id)⟩
  · refine G.exit _ rfl ?_
    refine N.end0 rfl ?_
    obtain rfl : i = dn x := by omega
    exact .inl ⟨D, hJi, trivial⟩

theorem iall_iter (b1 : Nat) (d : Option Addr) (x : List UInt8) (F : List Nat) (w : World) (hF : fpIs w F b1 d x) : Iter Try.prog 56 [.pointer (some ⟨b1, 0, none⟩)] w (dn x) (blkE x) (fun _ _ => True) F [] := by
  intro y D₀ J Jx W hE hD hJ hJx hY h0
  exact iall1_ok y b1 d x F D₀ J Jx W (hF.ext0 hE) hD (fun k D W₁ W₂ M' h he hm => hJ k D W₁ W₂ M' h he (fun g hg => ⟨(hm g hg).1, (hm g hg).2.imp id (Nat.le_trans hE.size)⟩)) (fun k D W₁ W₂ M' h he hm => hJx k D W₁ W₂ M' h he (fun g hg => ⟨(hm g hg).1, (hm g hg).2.imp id (Nat.le_trans hE.size)⟩)) hY h0

end Go.Proofs.Ytmbppidafnakhaa
/-
  The walks of package image.
-/
set_option linter.unusedVariables false
set_option linter.unusedSimpArgs false
namespace Go.Proofs.Ytmbppidafnakhaa
open Go Brv Brv.Image
def byI (x : List UInt8) (b3 : Nat) (w0 : World) (k : Nat) (D : List Nat) (W : World) : Prop := ∃ a c MB, D = b3 :: MB ∧ Blk W b3 #[.slice a (x.take (64 * k)).length c] 36 (0, 0) ∧ Own W 5 1 a (x.take (64 * k)).length c (vbs (x.take (64 * k))) MB ∧ (∀ g ∈ MB, w0.heap.size ≤ g ∧ g ≠ b3) ∧ w0.heap.size ≤ b3 ∧ Ext [] w0 W
theorem byI_keep {x : List UInt8} {b3 : Nat} {w0 : World} {k s : Nat} {D M' : List Nat} {W W' : World} (hs : w0.heap.size ≤ s) (h : byI x b3 w0 k D W) (he : Ext M' W W') (hm : ∀ g ∈ M', g ∉ D ∧ (g ∈ ([] : List Nat) ∨ s ≤ g)) : byI x b3 w0 k D W' := by
  obtain ⟨a, c, MB, rfl, B3, o, hMB, h3, E⟩ := h
  exact ⟨a, c, MB, rfl, B3.ext he (fun h => (hm _ h).1 (by simp)), o.ext he (fun g hg h => (hm g h).1 (by simp [hg])), hMB, h3, E.transN he (fun g hg => (hm g hg).2.imp id (Nat.le_trans hs))⟩

theorem ibytes_ok (d : Option Addr) (x : List UInt8) (w : World) (hd : DiskO w d x) : Meets Try.prog 12 [.pointer d] w (Cloned w 5 1 x.length (vbs x)) := by
  refine Meets.enter Try.func12 rfl 14 rfl (Nat.le_of_ble_eq_true rfl) ?_
  have E := Ext.refl [] w
  have hx0 := hd.len
  refine G.seq ?_
  refine G.region ?_
  refine L.val rfl rfl (R.as rfl) ?_
  refine L.nil ?_
  refine N.seq ?_
  refine G.seq ?_
  refine G.region ?_
  refine L.do rfl rfl (R.alloc) ?_
  rintro _ w1 ⟨b3, rfl, hb3, hs3, e1, B3⟩
  replace B3 : Blk w1 b3 #[.slice none 0 0] 36 (0, 0) := B3
  replace E := E.trans0 e1
  refine L.nil ?_
  refine N.seq ?_
  refine G.seq ?_
  refine G.seq ?_
  refine G.region ?_
  refine L.val rfl rfl (R.mv rfl) ?_
  refine L.callF rfl rfl rfl go37 (iall_ok d _) ?_
  rintro _ w2 ⟨b1, rfl, e2, B1, hb1⟩
  have hE1 := E.size
  replace E := E.trans0 e2
  have l3 := B3.lt
  replace B3 := B3.ext0 e2
  obtain ⟨Fp, hFp, hFa⟩ := fp_of B1 hd E
  have hFn : b3 ∉ Fp := fun h => (hFa b3 h).elim (by omega) (by omega)
  have hE2 := E.size
  refine L.nil ?_
  refine N.seq ?_
  refine G.block ?_
  have hD0 : ∀ y ∈ [b3], y < w2.heap.size ∧ y ∉ Fp ∧ y ∉ ([] : List Nat) := by
    intro y hy
    rw [List.mem_singleton] at hy
    subst hy
    exact ⟨B3.lt, hFn, by simp⟩
  have hI0 : byI x b3 w 0 [b3] w2 := ⟨none, 0, [], rfl, B3, Own.nil _ _ _, by simp, by omega, E⟩
  refine G.range (lb := [.pointer (some ⟨b1, 0, none⟩)]) rfl rfl go56 (iall_iter b1 d x Fp _ hFp) (fun _ _ _ h _ => h) [b3] hD0 (fun y h => h.elim (hFp.1 y) (by simp)) (byI x b3 w) (fun _ _ _ _ => False) (fun k D W1 W2 M2 h he hm => byI_keep hE2 h he hm) (fun _ _ _ _ _ _ h _ _ => h) hI0 ?_ ?_ ?_
  · rintro l k D vs W1 hl hlt hlD hDl hk hIk ⟨a, c, rfl, hac, hb⟩
    refine ⟨rfl, ?_⟩
    refine G.sub [(9, .slice a (blk x k).length c), (3, .pointer (some ⟨b3, 0, none⟩))] (Sub.cons rfl (Sub.cons rfl (Sub.nil _))) ?_
    refine G.region ?_
    refine L.val rfl rfl (R.as rfl) ?_
    refine L.nil ?_
    refine N.round (Ext.refl _ _) (fun wb hb1 hb2 => ?_)
    obtain ⟨a1, c1, MB, rfl, B3, o, hMB, h3, E⟩ := hIk
    replace hb := hb.still hb2
    replace B3 := B3.still hb2
    replace o := o.still hb2
    replace E := E.transN hb1 (fun g hg => .inr (by rw [List.mem_singleton.1 hg]; omega))
    have hEb := E.size
    have l3 := B3.lt
    have hlo := o.lt
    have hs1 := blk_length hk
    have htl : (x.take (64 * k)).length ≤ 4096 := by rw [List.length_take]; omega
    have hn3 : b3 ∉ MB := fun h => (hMB _ h).2 rfl
    refine G.block ?_
    refine G.region ?_
    refine L.val rfl rfl (R.ldB rfl B3 rfl) ?_
    refine L.val rfl rfl (R.mv rfl) ?_
    refine L.do rfl rfl (R.app rfl rfl o hb.cells (by rw [vbs_length]; omega) (vbs_one _) (by simp [maxLen]; omega) (by omega)) ?_
    rintro _ w7 ⟨a3, c3, M3, rfl, e7, hM3, o3⟩
    replace B3 := B3.ext e7 hn3
    replace E : Ext [] w w7 := E.trans e7 (by simp) (fun g hg => .inr (hMB g hg).1)
    have hs7 := e7.size
    rw [← vbs_append, take_succ_blk, ← List.length_append, take_succ_blk] at o3
    have hM4 : ∀ g ∈ M3, w.heap.size ≤ g ∧ g ≠ b3 := fun g hg => (hM3 g hg).elim (hMB g) (fun h => ⟨by omega, by omega⟩)
    refine L.be 12 rfl (show _ = Value.slice a3 (x.take (64 * (k + 1))).length c3 by rw [← take_succ_blk, List.length_append]) ?_
    refine L.set rfl (R.st rfl rfl B3 (by show 0 < 1; decide) rfl) ?_
    rintro w8 ⟨e8, hs8, B3⟩
    replace B3 : Blk w8 b3 #[.slice a3 (x.take (64 * (k + 1))).length c3] 36 (0, 0) := B3
    replace o3 := o3.ext e8 (by intro g hg h; exact (hM4 g hg).2 (List.mem_singleton.1 h))
    replace E : Ext [] w w8 := E.trans e8 (by simp) (fun g hg => .inr (by rw [List.mem_singleton.1 hg]; exact h3))
    have hlo3 := o3.lt
    have X : Ext (b3 :: MB) wb w8 := (e7.mono (fun g hg => .inl (List.mem_cons_of_mem _ hg))).transN e8 (fun g hg => .inl (by rw [List.mem_singleton.1 hg]; simp))
    have hD2 : ∀ g ∈ b3 :: M3, g < w8.heap.size ∧ (g ∈ b3 :: MB ∨ wb.heap.size ≤ g) := by
      intro g hg
      rcases List.mem_cons.1 hg with rfl | hg
      · exact ⟨B3.lt, .inl (by simp)⟩
      · exact ⟨hlo3 g hg, (hM3 g hg).imp (fun h => List.mem_cons_of_mem _ h) id⟩
    refine L.nil ?_
    refine N.block ?_
    refine N.done fun _ _ => ?_
    exact ⟨b3 :: M3, X, hD2, a3, c3, M3, rfl, B3, o3, hM4, h3, E⟩
  · rintro d2 D W2 hd2 hdD hK ⟨a1, c1, MB, rfl, B3, o, hMB, h3, E⟩ _
    have hst := Still.putObj (.deferred none) hK rfl
    rw [List.take_of_length_le (by omega)] at B3 o
    refine N.block ?_
    refine N.seq ?_
    refine G.seq ?_
    refine G.region ?_
    refine L.val rfl rfl (R.ldB rfl B3 rfl) ?_
    refine L.val rfl rfl (R.as rfl) ?_
    refine L.nil ?_
    refine N.seq ?_
    refine G.ret1M rfl rfl (leave1 hK) ?_
    exact ⟨a1, c1, MB, rfl, E.transN (Ext.putObj _ _ _) (fun g hg => .inr (by rw [List.mem_singleton.1 hg]; omega)), o.still hst, fun g hg => (hMB g hg).1⟩
  · rintro _ _ _ _ _ _ _ _ _ h _
    exact h.elim

end Go.Proofs.Ytmbppidafnakhaa
/-
  The walks of package image.
-/
set_option linter.unusedVariables false
set_option linter.unusedSimpArgs false
namespace Go.Proofs.Ytmbppidafnakhaa
open Go Brv Brv.Image
theorem disk_o {w : World} {d g c : Nat} {cur : Array Value} {ps : List Nat} {x : List UInt8} (h : DiskL w d g c cur ps x) : DiskO w (some ⟨d, 0, none⟩) x := .inr ⟨d, rfl, g, c, cur, ps, h⟩
theorem ibytesS (d : Option Addr) (x : List UInt8) : SpecS Try.prog 12 [.pointer d] [sh (fun w => DiskO w d x)] (fun v H' => ∃ a c', v = .slice a x.length c' ∧ H' = [own 5 1 a x.length c' (vbs x), sh (fun w => DiskO w d x)]) :=
  SpecS.ofOwn (φ := fun a c => .slice a x.length c) fun w F S s => ibytes_ok d x w (s.sh (p := fun w => DiskO w d x) .here)

theorem ifromS (a : Option Addr) (n c : Nat) (l : List UInt8) (hc : n ≤ c) (hv : l.length = 64 * dn l ∧ 1 ≤ dn l ∧ dn l ≤ 64) : SpecS Try.prog 35 [.slice a n c] [bs a n l] (fun v H' => ∃ d g c' cur ps, v = .tuple #[.pointer (some ⟨d, 0, none⟩), .int .i64 0] ∧ H' = [sh (fun w => DiskL w d g c' cur ps l), bs a n l]) :=
  (SpecS.ofFresh (φ := fun v A => ∃ d g c' cur ps, v = .tuple #[.pointer (some ⟨d, 0, none⟩), .int .i64 0] ∧ A = sh (fun w => DiskL w d g c' cur ps l)) fun w F S s => (ifrom_okF a n c l w (s.bs .here) hc hv).mono fun v w' ⟨d, h1, h2, g, c', cur, ps, h3, h4⟩ =>
    ⟨_, [], d :: g :: ps, ⟨d, g, c', cur, ps, h1, rfl⟩, h2, fun M w'' he hA => h3.ext he hA, by simp, fun b hb => ⟨h4 b hb, h3.lt b hb⟩⟩).mono fun v H' ⟨A, ⟨d, g, c', cur, ps, h1, h2⟩, h3⟩ => ⟨d, g, c', cur, ps, h1, by rw [h3, h2]⟩
end Go.Proofs.Ytmbppidafnakhaa
/-
  The walks of package pool.
-/
set_option linter.unusedVariables false
set_option linter.unusedSimpArgs false
set_option maxRecDepth 4000
namespace Go.Proofs.Ytmbppidafnakhaa
open Go Brv Brv.Image Brv.Dev
structure CaS where
  i : Nat
  a : Option Addr
  c : Nat
/-- All bytes of rows. -/
def flR (rs : List BRow) : List UInt8 := (rs.map BRow.l).flatten
theorem flR_succ {rs : List BRow} {i : Nat} {r : BRow} (h : rs[i]? = some r) : flR (rs.take (i + 1)) = flR (rs.take i) ++ r.l := by
  unfold flR
  rw [List.take_add_one, h]; simp
theorem flR_le (rs : List BRow) (i : Nat) : (flR (rs.take i)).length ≤ (flR rs).length := by
  conv => rhs; rw [← List.take_append_drop i rs]
  unfold flR
  rw [List.map_append, List.flatten_append, List.length_append]; omega
theorem vbs_app2 (x y : List UInt8) : vbs (x ++ y) = vbs x ++ vbs y := by simp [vbs]
theorem brow_len {w : World} {rs : List BRow} {i : Nat} {r : BRow} (h : ∀ r ∈ rs, Bs w r.a r.n r.l) (hr : rs[i]? = some r) : r.n = r.l.length := (h r (List.mem_of_getElem? hr)).len

theorem grow0_ok (k : Nat) (h1 : 1 ≤ k) (h2 : k ≤ 1000000) : SpecS Try.prog 55 [.slice none 0 0, .int .i64 (k : Int)] [] (fun v H' => ∃ a c, v = .slice a 0 c ∧ H' = [own 5 1 a 0 c []]) := by
  refine SpecS.enter Try.func55 rfl 27 rfl (Nat.le_of_ble_eq_true rfl) (fun o => ?_)
  refine SG.seq ?_
  refine SG.region ?_
  refine SL.val rfl rfl (fun w9 F9 S9 s => R.as rfl) ?_
  refine SL.nil ?_
  refine SN.seq ?_
  refine SG.seq ?_
  refine SG.seq ?_
  refine SG.region ?_
  refine SL.val rfl rfl (fun w9 F9 S9 s => R.mv rfl) ?_
  refine SL.val rfl rfl (fun w9 F9 S9 s => R.lss rfl rfl) ?_
  refine SL.nil ?_
  refine SN.seq ?_
  refine SG.condP rfl (fun h0 => ?_) (fun h0 => ?_)
  · exfalso; omega
  · refine SG.skip ?_
    refine SN.seq ?_
    refine SG.seq ?_
    refine SG.seq ?_
    refine SG.region ?_
    refine SL.val rfl rfl (fun w9 F9 S9 s => R.mv rfl) ?_
    refine SL.val rfl rfl (fun w9 F9 S9 s => R.mv rfl) ?_
    refine SL.val rfl rfl (fun w9 F9 S9 s => R.capS rfl) ?_
    refine SL.val rfl rfl (fun w9 F9 S9 s => R.mv rfl) ?_
    refine SL.val rfl rfl (fun w9 F9 S9 s => R.lenS rfl) ?_
    refine SL.val rfl rfl (fun w9 F9 S9 s => R.sub' rfl rfl (by omega)) ?_
    refine SL.be 13 rfl (show _ = Value.int .i64 0 by rfl) ?_
    refine SL.val rfl rfl (fun w9 F9 S9 s => R.sub' rfl rfl (by omega)) ?_
    refine SL.be 14 rfl (show _ = Value.int .i64 (k : Int) by congr 1) ?_
    refine SL.val rfl rfl (fun w9 F9 S9 s => R.as rfl) ?_
    refine SL.nil ?_
    refine SN.seq ?_
    refine SG.seq ?_
    refine SG.region ?_
    refine SL.val rfl rfl (fun w9 F9 S9 s => R.mv rfl) ?_
    refine SL.val rfl rfl (fun w9 F9 S9 s => R.gtr rfl rfl) ?_
    refine SL.nil ?_
    refine SN.seq ?_
    refine SG.condP rfl (fun h1 => ?_) (fun h1 => ?_)
    · refine SG.region ?_
      refine SL.val rfl rfl (fun w9 F9 S9 s => R.mv rfl) ?_
      refine SL.val rfl rfl (fun w9 F9 S9 s => R.mv rfl) ?_
      refine SL.val rfl rfl (fun w9 F9 S9 s => R.capS rfl) ?_
      refine SL.val rfl rfl (fun w9 F9 S9 s => R.slH rfl rfl (by decide) (by decide)) ?_
      refine SL.be 20 rfl (show _ = Value.slice none 0 0 by rfl) ?_
      refine SL.val rfl rfl (fun w9 F9 S9 s => R.mv rfl) ?_
      refine SL.step rfl rfl (CS.appZ0 rfl rfl (by intro u hu; simp [Value.cells] at hu; subst hu; rfl) (by simp [maxLen]; omega) (by omega) (by decide) (by decide) (by omega)) ?_
      rintro _ _ ⟨a22, c22, xs22, rfl, rfl⟩
      refine SL.imp (Imp.ownPre 0 (show Sel _ (own 5 1 a22 k c22 xs22) _ from (by repeat (first | exact Sel.keep | exact Sel.here | apply Sel.there))) (by omega)) ?_
      refine SL.val rfl rfl (fun w9 F9 S9 s => R.mv rfl) ?_
      refine SL.val rfl rfl (fun w9 F9 S9 s => R.lenS rfl) ?_
      refine SL.val rfl rfl (fun w9 F9 S9 s => R.slH rfl rfl (by omega) (by omega)) ?_
      refine SL.be 25 rfl (show _ = Value.slice a22 0 c22 by rw [subA_zero, Int.toNat_natCast]) ?_
      refine SL.val rfl rfl (fun w9 F9 S9 s => R.as rfl) ?_
      refine SL.nil ?_
      refine SN.seq ?_
      refine SG.seq ?_
      refine SG.region ?_
      refine SL.val rfl rfl (fun w9 F9 S9 s => R.mv rfl) ?_
      refine SL.val rfl rfl (fun w9 F9 S9 s => R.as rfl) ?_
      refine SL.nil ?_
      refine SN.seq ?_
      exact SG.ret1 rfl rfl ((Imp.sels (by repeat (first | exact Sels.nil | apply Sels.cons | exact Sel.keep | exact Sel.here | apply Sel.there)))) (⟨a22, c22, rfl, rfl⟩)
    · exfalso; omega

theorem concat_ok (ra : Option Addr) (n c : Nat) (rs : List BRow) (hn : n = rs.length) (hn2 : n ≤ 100000) (h1 : 1 ≤ (flR rs).length) (h2 : (flR rs).length ≤ 100000) : SpecS Try.prog 36 [.slice ra n c] [sh (fun w => Cells w ra (rs.map BRow.val)), sh (fun w => ∀ r ∈ rs, Bs w r.a r.n r.l)] (fun v H' => ∃ a c, v = .slice a (flR rs).length c ∧ H' = [own 5 1 a (flR rs).length c (vbs (flR rs))]) := by
  refine SpecS.enter Try.func36 rfl 36 rfl (Nat.le_of_ble_eq_true rfl) (fun o => ?_)
  refine SG.seq ?_
  refine SG.region ?_
  refine SL.val rfl rfl (fun w9 F9 S9 s => R.as rfl) ?_
  refine SL.nil ?_
  refine SN.seq ?_
  refine SG.seq ?_
  refine SG.region ?_
  refine SL.val rfl rfl (fun w9 F9 S9 s => R.as rfl) ?_
  refine SL.nil ?_
  refine SN.seq ?_
  refine SG.seq ?_
  refine SG.seq ?_
  refine SG.region ?_
  refine SL.val rfl rfl (fun w9 F9 S9 s => R.mv rfl) ?_
  refine SL.val rfl rfl (fun w9 F9 S9 s => R.lenS rfl) ?_
  refine SL.val rfl rfl (fun w9 F9 S9 s => R.mv rfl) ?_
  refine SL.nil ?_
  refine SN.seq ?_
  refine SG.block ?_
  refine SG.loop (X := Nat) (fun i => [(0, .slice ra n c), (3, .int .i64 ((flR (rs.take i)).length : Int)), (9, .slice ra n c), (10, .int .i64 (n : Int)), (11, .int .i64 (i : Int))]) (fun i => [sh (fun w => Cells w ra (rs.map BRow.val)), sh (fun w => ∀ r ∈ rs, Bs w r.a r.n r.l)]) (fun i => i ≤ n) (fun i => n - i) (0) (Sub.cons rfl (Sub.cons rfl (Sub.cons rfl (Sub.cons rfl (Sub.cons rfl (Sub.nil _)))))) ((Imp.sels (by repeat (first | exact Sels.nil | apply Sels.cons | exact Sel.keep | exact Sel.here | apply Sel.there)))) (Nat.zero_le _) ?_
  intro i hi
  show SG _ _ _ _ _ [(0, .slice ra n c), (3, .int .i64 ((flR (rs.take i)).length : Int)), (9, .slice ra n c), (10, .int .i64 (n : Int)), (11, .int .i64 (i : Int))] [sh (fun w => Cells w ra (rs.map BRow.val)), sh (fun w => ∀ r ∈ rs, Bs w r.a r.n r.l)] _
  refine SG.seq ?_
  refine SG.region ?_
  refine SL.val rfl rfl (fun w9 F9 S9 s => R.lss rfl rfl) ?_
  refine SL.nil ?_
  refine SN.seq ?_
  refine SG.seq ?_
  refine SG.condP rfl (fun h0 => ?_) (fun h0 => ?_)
  · obtain ⟨r, hr⟩ : ∃ r, rs[i]? = some r := ⟨_, List.getElem?_eq_getElem (by omega)⟩
    refine SG.fact (fun w9 F9 S9 s => brow_pt (s.sh (p := fun w => Cells w ra (rs.map BRow.val)) (by repeat (first | exact Sel.keep | exact Sel.here | apply Sel.there))) hr) (fun hf9 => ?_)
    obtain ⟨q, hq⟩ := hf9
    refine SG.fact (fun w9 F9 S9 s => brow_len (s.sh (p := fun w => ∀ r ∈ rs, Bs w r.a r.n r.l) (by repeat (first | exact Sel.keep | exact Sel.here | apply Sel.there))) hr) (fun hf9 => ?_)
    have hrn := hf9; clear hf9
    have hfs := flR_succ hr
    have hfl := flR_le rs (i + 1)
    rw [hfs, List.length_append] at hfl
    refine SG.skip ?_
    refine SN.seq ?_
    refine SG.seq ?_
    refine SG.block ?_
    refine SG.seq ?_
    refine SG.region ?_
    refine SL.val rfl rfl (fun w9 F9 S9 s => R.idx rfl rfl (by omega) (by omega) q hq) ?_
    refine SL.val rfl rfl (fun w9 F9 S9 s => R.ld (v := r.val) rfl (brow_ld (s.sh (p := fun w => Cells w ra (rs.map BRow.val)) (by repeat (first | exact Sel.keep | exact Sel.here | apply Sel.there))) hq hr)) ?_
    refine SL.be 14 rfl (show _ = Value.slice r.a r.n r.c from rfl) ?_
    refine SL.val rfl rfl (fun w9 F9 S9 s => R.as rfl) ?_
    refine SL.nil ?_
    refine SN.seq ?_
    refine SG.seq ?_
    refine SG.region ?_
    refine SL.val rfl rfl (fun w9 F9 S9 s => R.mv rfl) ?_
    refine SL.val rfl rfl (fun w9 F9 S9 s => R.mv rfl) ?_
    refine SL.val rfl rfl (fun w9 F9 S9 s => R.lenS rfl) ?_
    refine SL.val rfl rfl (fun w9 F9 S9 s => R.add rfl rfl (by omega)) ?_
    refine SL.val rfl rfl (fun w9 F9 S9 s => R.as rfl) ?_
    refine SL.nil ?_
    refine SN.be 3 rfl (show _ = Value.int .i64 (((flR (rs.take (i + 1))).length : Nat) : Int) by rw [hfs, List.length_append]; congr 1; omega) ?_
    refine SN.seq ?_
    refine SG.seq ?_
    refine SG.region ?_
    refine SL.val rfl rfl (fun w9 F9 S9 s => R.mv rfl) ?_
    refine SL.val rfl rfl (fun w9 F9 S9 s => R.lss rfl rfl) ?_
    refine SL.nil ?_
    refine SN.seq ?_
    refine SG.condP rfl (fun h1 => ?_) (fun h1 => ?_)
    · exfalso; omega
    · refine SG.skip ?_
      refine SN.block ?_
      refine SN.seq ?_
      refine SG.region ?_
      refine SL.val rfl rfl (fun w9 F9 S9 s => R.add rfl rfl (by omega)) ?_
      refine SL.val rfl rfl (fun w9 F9 S9 s => R.mv rfl) ?_
      refine SL.nil ?_
      exact SN.again (i + 1) (by show n - (i + 1) < n - i; omega) (Sub.cons rfl (Sub.cons rfl (Sub.cons rfl (Sub.cons rfl (Sub.cons rfl (Sub.nil _)))))) ((Imp.sels (by repeat (first | exact Sels.nil | apply Sels.cons | exact Sel.keep | exact Sel.here | apply Sel.there)))) (by show i + 1 ≤ n; omega)
  · obtain rfl : i = n := by omega
    rw [List.take_of_length_le (by omega)]
    refine SG.exit _ rfl ?_
    refine SN.seq ?_
    refine SG.seq ?_
    refine SG.region ?_
    refine SL.val rfl rfl (fun w9 F9 S9 s => R.mv rfl) ?_
    refine SL.step rfl rfl (CS.call rfl go55 (grow0_ok (flR rs).length h1 (by omega)) (by repeat (first | exact Sels.nil | apply Sels.cons | exact Sel.keep | exact Sel.here | apply Sel.there))) ?_
    rintro _ _ ⟨_, ⟨a24, c24, rfl, rfl⟩, rfl⟩
    refine SL.n1 ?_
    refine SL.val rfl rfl (fun w9 F9 S9 s => R.as rfl) ?_
    refine SL.nil ?_
    refine SN.seq ?_
    refine SG.seq ?_
    refine SG.seq ?_
    refine SG.region ?_
    refine SL.val rfl rfl (fun w9 F9 S9 s => R.mv rfl) ?_
    refine SL.val rfl rfl (fun w9 F9 S9 s => R.lenS rfl) ?_
    refine SL.val rfl rfl (fun w9 F9 S9 s => R.mv rfl) ?_
    refine SL.nil ?_
    refine SN.seq ?_
    refine SG.block ?_
    obtain ⟨i0, rfl⟩ : ∃ i0, i0 = i := ⟨_, rfl⟩
    refine SG.loop (X := CaS) (fun y => [(6, .slice y.a (flR (rs.take y.i)).length y.c), (25, .slice ra i0 c), (26, .int .i64 (i0 : Int)), (27, .int .i64 (y.i : Int))]) (fun y => [own 5 1 y.a (flR (rs.take y.i)).length y.c (vbs (flR (rs.take y.i))), sh (fun w => Cells w ra (rs.map BRow.val)), sh (fun w => ∀ r ∈ rs, Bs w r.a r.n r.l)]) (fun y => y.i ≤ i0) (fun y => i0 - y.i) (⟨0, a24, c24⟩) (Sub.cons rfl (Sub.cons rfl (Sub.cons rfl (Sub.cons rfl (Sub.nil _))))) ((Imp.sels (by repeat (first | exact Sels.nil | apply Sels.cons | exact Sel.keep | exact Sel.here | apply Sel.there)))) (Nat.zero_le _) ?_
    rintro ⟨i, a9, c9⟩ hi
    dsimp only at hi
    show SG _ _ _ _ _ [(6, .slice a9 (flR (rs.take i)).length c9), (25, .slice ra i0 c), (26, .int .i64 (i0 : Int)), (27, .int .i64 (i : Int))] [own 5 1 a9 (flR (rs.take i)).length c9 (vbs (flR (rs.take i))), sh (fun w => Cells w ra (rs.map BRow.val)), sh (fun w => ∀ r ∈ rs, Bs w r.a r.n r.l)] _
    refine SG.seq ?_
    refine SG.region ?_
    refine SL.val rfl rfl (fun w9 F9 S9 s => R.lss rfl rfl) ?_
    refine SL.nil ?_
    refine SN.seq ?_
    refine SG.seq ?_
    refine SG.condP rfl (fun h2 => ?_) (fun h2 => ?_)
    · obtain ⟨r, hr⟩ : ∃ r, rs[i]? = some r := ⟨_, List.getElem?_eq_getElem (by omega)⟩
      refine SG.fact (fun w9 F9 S9 s => brow_pt (s.sh (p := fun w => Cells w ra (rs.map BRow.val)) (by repeat (first | exact Sel.keep | exact Sel.here | apply Sel.there))) hr) (fun hf9 => ?_)
      obtain ⟨q, hq⟩ := hf9
      refine SG.fact (fun w9 F9 S9 s => brow_len (s.sh (p := fun w => ∀ r ∈ rs, Bs w r.a r.n r.l) (by repeat (first | exact Sel.keep | exact Sel.here | apply Sel.there))) hr) (fun hf9 => ?_)
      have hrn := hf9; clear hf9
      have hfs := flR_succ hr
      have hfl := flR_le rs (i + 1)
      rw [hfs, List.length_append] at hfl
      refine SG.imp (Imp.weak (p := fun w => ∀ r ∈ rs, Bs w r.a r.n r.l) (q := fun w => Bs w r.a r.n r.l) (by repeat (first | exact Sel.keep | exact Sel.here | apply Sel.there)) (fun w hw => hw r (List.mem_of_getElem? hr))) ?_
      refine SG.skip ?_
      refine SN.seq ?_
      refine SG.seq ?_
      refine SG.block ?_
      refine SG.seq ?_
      refine SG.region ?_
      refine SL.val rfl rfl (fun w9 F9 S9 s => R.idx rfl rfl (by omega) (by omega) q hq) ?_
      refine SL.val rfl rfl (fun w9 F9 S9 s => R.ld (v := r.val) rfl (brow_ld (s.sh (p := fun w => Cells w ra (rs.map BRow.val)) (by repeat (first | exact Sel.keep | exact Sel.here | apply Sel.there))) hq hr)) ?_
      refine SL.be 30 rfl (show _ = Value.slice r.a r.n r.c from rfl) ?_
      refine SL.val rfl rfl (fun w9 F9 S9 s => R.as rfl) ?_
      refine SL.nil ?_
      refine SN.seq ?_
      refine SG.region ?_
      refine SL.val rfl rfl (fun w9 F9 S9 s => R.mv rfl) ?_
      refine SL.val rfl rfl (fun w9 F9 S9 s => R.mv rfl) ?_
      refine SL.step rfl rfl (CS.app rfl rfl (by repeat (first | exact Sel.keep | exact Sel.here | apply Sel.there)) (fun w9 F9 S9 s => (s.sh (p := fun w => Bs w r.a r.n r.l) (by repeat (first | exact Sel.keep | exact Sel.here | apply Sel.there))).cells) (by rw [vbs_length]; omega) (vbs_one _) (by simp [maxLen]; omega) (by omega)) ?_
      rintro _ _ ⟨a33, c33, rfl, rfl⟩
      refine SL.val rfl rfl (fun w9 F9 S9 s => R.as rfl) ?_
      refine SL.nil ?_
      refine SN.be 6 rfl (show _ = Value.slice a33 (flR (rs.take (i + 1))).length c33 by rw [hfs, List.length_append, ← hrn]) ?_
      refine SN.block ?_
      refine SN.seq ?_
      refine SG.region ?_
      refine SL.val rfl rfl (fun w9 F9 S9 s => R.add rfl rfl (by omega)) ?_
      refine SL.val rfl rfl (fun w9 F9 S9 s => R.mv rfl) ?_
      refine SL.nil ?_
      exact SN.again (⟨i + 1, a33, c33⟩) (by show i0 - (i + 1) < i0 - i; omega) (Sub.cons rfl (Sub.cons rfl (Sub.cons rfl (Sub.cons rfl (Sub.nil _))))) ((show Imp _ _ by dsimp only; rw [hfs, List.length_append, vbs_app2, ← hrn]; exact (Imp.sels (by repeat (first | exact Sels.nil | apply Sels.cons | exact Sel.keep | exact Sel.here | apply Sel.there))))) (by show i + 1 ≤ i0; omega)
    · obtain rfl : i = i0 := by omega
      rw [List.take_of_length_le (by omega)]
      refine SG.exit _ rfl ?_
      refine SN.seq ?_
      refine SG.seq ?_
      refine SG.region ?_
      refine SL.val rfl rfl (fun w9 F9 S9 s => R.mv rfl) ?_
      refine SL.val rfl rfl (fun w9 F9 S9 s => R.as rfl) ?_
      refine SL.nil ?_
      refine SN.seq ?_
      exact SG.ret1 rfl rfl ((Imp.sels (by repeat (first | exact Sels.nil | apply Sels.cons | exact Sel.keep | exact Sel.here | apply Sel.there)))) (⟨a9, c9, rfl, rfl⟩)

end Go.Proofs.Ytmbppidafnakhaa
/-
  The walks of package pool.
-/
set_option linter.unusedVariables false
set_option linter.unusedSimpArgs false
set_option maxRecDepth 4000
namespace Go.Proofs.Ytmbppidafnakhaa
open Go Brv Brv.Image Brv.Dev
structure ImS where
  i : Nat
  a : Option Addr
  c : Nat
  rs : List BRow
/-- The error of a new pool. -/
def pnewE (sz : Nat) (fr B : Int) : Int := if fr < 0 ∨ B < 1 ∨ 64 < B then 2 else if (sz : Int) - B < fr then 11 else 0
theorem flR_snoc (rs : List BRow) (r : BRow) : flR (rs ++ [r]) = flR rs ++ r.l := by simp [flR]
theorem rsPost {M : Hd} {vv : DevV} {sz fr B : Nat} {l : List UInt8} {e : Int} {q : Option Addr} {K R : List Asn} (h : pimV M vv sz fr B = (l, e)) (hK : K = sh (fun w => DiskO w q l) :: R) : ∃ q', Value.tuple #[.pointer q, .int .i64 e] = .tuple #[.pointer q', .int .i64 (pimV M vv sz fr B).2] ∧ K = sh (fun w => DiskO w q' (pimV M vv sz fr B).1) :: R := by
  rw [h]; exact ⟨q, rfl, hK⟩

theorem pnew_ok (d sz fr B : Nat) (vv : DevV) (h1 : 1 ≤ B) (h2 : B ≤ 64) (h3 : fr + B ≤ sz) (h4 : sz ≤ 4096) : SpecS Try.prog 8 [.pointer (some ⟨d, 0, none⟩), .int .i64 (fr : Int), .int .i64 (B : Int)] [dvA d vv sz] (fun v H' => ∃ p' m', v = .tuple #[.pointer (some ⟨p', 0, none⟩), .int .i64 0] ∧ H' = [blk p' [.pointer (some ⟨d, 0, none⟩), .int .i64 (fr : Int), .int .i64 (B : Int), .pointer (some ⟨m', 0, none⟩)] 78, mp (κ := Int) 110 114 2 m' (psP ([] : List (Int × HdV))), sh (fun w => ∀ t ∈ ([] : List (Int × HdV)), HdV.ok w t.2), dvA d vv sz]) := by
  refine SpecS.enter Try.func8 rfl 35 rfl (Nat.le_of_ble_eq_true rfl) (fun o => ?_)
  refine SG.seq ?_
  refine SG.region ?_
  refine SL.val rfl rfl (fun w9 F9 S9 s => R.as rfl) ?_
  refine SL.val rfl rfl (fun w9 F9 S9 s => R.as rfl) ?_
  refine SL.nil ?_
  refine SN.seq ?_
  refine SG.seq ?_
  refine SG.block ?_
  refine SG.seq ?_
  refine SG.region ?_
  refine SL.val rfl rfl (fun w9 F9 S9 s => R.mv rfl) ?_
  refine SL.val rfl rfl (fun w9 F9 S9 s => R.eqNilP rfl rfl) ?_
  refine SL.val rfl rfl (fun w9 F9 S9 s => R.as rfl) ?_
  refine SL.nil ?_
  refine SN.seq ?_
  refine SG.condF rfl ?_
  refine SG.seq ?_
  refine SG.region ?_
  refine SL.val rfl rfl (fun w9 F9 S9 s => R.mv rfl) ?_
  refine SL.val rfl rfl (fun w9 F9 S9 s => R.lss rfl rfl) ?_
  refine SL.val rfl rfl (fun w9 F9 S9 s => R.mv rfl) ?_
  refine SL.caseP 14 rfl (fun hg3_2 => ?_) (fun hg3_2 => ?_)
  · exfalso; omega
  · refine SL.val rfl rfl (fun w9 F9 S9 s => R.mv rfl) ?_
    refine SL.val rfl rfl (fun w9 F9 S9 s => R.lss rfl rfl) ?_
    first | refine SL.val rfl rfl (fun w9 F9 S9 s => R.pickT rfl rfl) ?_ | refine SL.val rfl rfl (fun w9 F9 S9 s => R.pickF rfl rfl) ?_
    refine SL.val rfl rfl (fun w9 F9 S9 s => R.mv rfl) ?_
    refine SL.caseP 18 rfl (fun hg3_6 => ?_) (fun hg3_6 => ?_)
    · exfalso; omega
    · refine SL.val rfl rfl (fun w9 F9 S9 s => R.mv rfl) ?_
      refine SL.val rfl rfl (fun w9 F9 S9 s => R.gtr rfl rfl) ?_
      first | refine SL.val rfl rfl (fun w9 F9 S9 s => R.pickT rfl rfl) ?_ | refine SL.val rfl rfl (fun w9 F9 S9 s => R.pickF rfl rfl) ?_
      refine SL.val rfl rfl (fun w9 F9 S9 s => R.as rfl) ?_
      refine SL.nil ?_
      refine SN.seq ?_
      refine SG.condP rfl (fun h1 => ?_) (fun h1 => ?_)
      · exfalso; omega
      · refine SG.seq ?_
        refine SG.region ?_
        refine SL.val rfl rfl (fun w9 F9 S9 s => R.mv rfl) ?_
        refine SL.val rfl rfl (fun w9 F9 S9 s => R.mv rfl) ?_
        refine SL.step rfl rfl (CS.callR rfl go27 (fun w9 F9 S9 s => dsizeS d vv sz w9 (s.dv (by repeat (first | exact Sel.keep | exact Sel.here | apply Sel.there))))) ?_
        rintro _ _ ⟨rfl, rfl⟩
        refine SL.val rfl rfl (fun w9 F9 S9 s => R.mv rfl) ?_
        refine SL.val rfl rfl (fun w9 F9 S9 s => R.sub' rfl rfl (by omega)) ?_
        refine SL.val rfl rfl (fun w9 F9 S9 s => R.gtr rfl rfl) ?_
        refine SL.val rfl rfl (fun w9 F9 S9 s => R.as rfl) ?_
        refine SL.nil ?_
        refine SN.seq ?_
        refine SG.condP rfl (fun h2 => ?_) (fun h2 => ?_)
        · exfalso; omega
        · refine SG.skip ?_
          refine SN.block ?_
          refine SN.seq ?_
          refine SG.seq ?_
          refine SG.region ?_
          refine SL.val rfl rfl (fun w9 F9 S9 s => R.mv rfl) ?_
          refine SL.val rfl rfl (fun w9 F9 S9 s => R.mv rfl) ?_
          refine SL.val rfl rfl (fun w9 F9 S9 s => R.mv rfl) ?_
          refine SL.step rfl rfl (CS.call rfl go28 (SpecS.ofNew (fun w => onewPoolheld_ok w)) (by repeat (first | exact Sels.nil | apply Sels.cons | exact Sel.keep | exact Sel.here | apply Sel.there))) ?_
          rintro _ _ ⟨_, ⟨m2, rfl, rfl⟩, rfl⟩
          refine SL.n1 ?_
          refine SL.imp (Imp.pure (p := fun w => ∀ t ∈ ([] : List (Int × HdV)), HdV.ok w t.2) (fun w t ht => by cases ht)) ?_
          refine SL.val rfl rfl (fun w9 F9 S9 s => R.build (cs := #[.pointer (some ⟨d, 0, none⟩), .int .i64 (fr : Int), .int .i64 (B : Int), .pointer (some ⟨m2, 0, none⟩)]) rfl rfl) ?_
          refine SL.step rfl rfl (CS.boxA rfl) ?_
          rintro _ _ ⟨b34, rfl, rfl⟩
          refine SL.val rfl rfl (fun w9 F9 S9 s => R.as rfl) ?_
          refine SL.val rfl rfl (fun w9 F9 S9 s => R.as rfl) ?_
          refine SL.nil ?_
          refine SN.seq ?_
          exact SG.ret2 rfl rfl rfl ((Imp.sels (by repeat (first | exact Sels.nil | apply Sels.cons | exact Sel.keep | exact Sel.here | apply Sel.there)))) (⟨b34, m2, rfl, rfl⟩)

theorem pnew_err (d sz : Nat) (vv : DevV) (fr B : Int) (he : pnewE sz fr B ≠ 0) (h4 : sz ≤ 4096) : SpecS Try.prog 8 [.pointer (some ⟨d, 0, none⟩), .int .i64 fr, .int .i64 B] [dvA d vv sz] (fun v H' => v = .tuple #[.pointer none, .int .i64 (pnewE sz fr B)] ∧ H' = [dvA d vv sz]) := by
  refine SpecS.enter Try.func8 rfl 35 rfl (Nat.le_of_ble_eq_true rfl) (fun o => ?_)
  refine SG.seq ?_
  refine SG.region ?_
  refine SL.val rfl rfl (fun w9 F9 S9 s => R.as rfl) ?_
  refine SL.val rfl rfl (fun w9 F9 S9 s => R.as rfl) ?_
  refine SL.nil ?_
  refine SN.seq ?_
  refine SG.seq ?_
  refine SG.block ?_
  refine SG.seq ?_
  refine SG.region ?_
  refine SL.val rfl rfl (fun w9 F9 S9 s => R.mv rfl) ?_
  refine SL.val rfl rfl (fun w9 F9 S9 s => R.eqNilP rfl rfl) ?_
  refine SL.val rfl rfl (fun w9 F9 S9 s => R.as rfl) ?_
  refine SL.nil ?_
  refine SN.seq ?_
  refine SG.condF rfl ?_
  refine SG.seq ?_
  refine SG.region ?_
  refine SL.val rfl rfl (fun w9 F9 S9 s => R.mv rfl) ?_
  refine SL.val rfl rfl (fun w9 F9 S9 s => R.lss rfl rfl) ?_
  refine SL.val rfl rfl (fun w9 F9 S9 s => R.mv rfl) ?_
  refine SL.caseP 14 rfl (fun hg3_2 => ?_) (fun hg3_2 => ?_)
  · refine SL.pass rfl rfl ?_
    refine SL.pass rfl rfl ?_
    first | refine SL.val rfl rfl (fun w9 F9 S9 s => R.pickT rfl rfl) ?_ | refine SL.val rfl rfl (fun w9 F9 S9 s => R.pickF rfl rfl) ?_
    refine SL.val rfl rfl (fun w9 F9 S9 s => R.mv rfl) ?_
    refine SL.pass rfl rfl ?_
    refine SL.pass rfl rfl ?_
    first | refine SL.val rfl rfl (fun w9 F9 S9 s => R.pickT rfl rfl) ?_ | refine SL.val rfl rfl (fun w9 F9 S9 s => R.pickF rfl rfl) ?_
    refine SL.val rfl rfl (fun w9 F9 S9 s => R.as rfl) ?_
    refine SL.nil ?_
    refine SN.seq ?_
    refine SG.condT rfl ?_
    refine SG.seq ?_
    refine SG.region ?_
    refine SL.val rfl rfl (fun w9 F9 S9 s => R.as rfl) ?_
    refine SL.val rfl rfl (fun w9 F9 S9 s => R.as rfl) ?_
    refine SL.nil ?_
    refine SN.seq ?_
    exact SG.ret2 rfl rfl rfl ((Imp.sels (by repeat (first | exact Sels.nil | apply Sels.cons | exact Sel.keep | exact Sel.here | apply Sel.there)))) (⟨congrArg (fun x => Value.tuple #[.pointer none, .int .i64 x]) (show (2 : Int) = _ from (if_pos (by omega)).symm), rfl⟩)
  · refine SL.val rfl rfl (fun w9 F9 S9 s => R.mv rfl) ?_
    refine SL.val rfl rfl (fun w9 F9 S9 s => R.lss rfl rfl) ?_
    first | refine SL.val rfl rfl (fun w9 F9 S9 s => R.pickT rfl rfl) ?_ | refine SL.val rfl rfl (fun w9 F9 S9 s => R.pickF rfl rfl) ?_
    refine SL.val rfl rfl (fun w9 F9 S9 s => R.mv rfl) ?_
    refine SL.caseP 18 rfl (fun hg3_6 => ?_) (fun hg3_6 => ?_)
    · refine SL.pass rfl rfl ?_
      refine SL.pass rfl rfl ?_
      first | refine SL.val rfl rfl (fun w9 F9 S9 s => R.pickT rfl rfl) ?_ | refine SL.val rfl rfl (fun w9 F9 S9 s => R.pickF rfl rfl) ?_
      refine SL.val rfl rfl (fun w9 F9 S9 s => R.as rfl) ?_
      refine SL.nil ?_
      refine SN.seq ?_
      refine SG.condT rfl ?_
      refine SG.seq ?_
      refine SG.region ?_
      refine SL.val rfl rfl (fun w9 F9 S9 s => R.as rfl) ?_
      refine SL.val rfl rfl (fun w9 F9 S9 s => R.as rfl) ?_
      refine SL.nil ?_
      refine SN.seq ?_
      exact SG.ret2 rfl rfl rfl ((Imp.sels (by repeat (first | exact Sels.nil | apply Sels.cons | exact Sel.keep | exact Sel.here | apply Sel.there)))) (⟨congrArg (fun x => Value.tuple #[.pointer none, .int .i64 x]) (show (2 : Int) = _ from (if_pos (by omega)).symm), rfl⟩)
    · refine SL.val rfl rfl (fun w9 F9 S9 s => R.mv rfl) ?_
      refine SL.val rfl rfl (fun w9 F9 S9 s => R.gtr rfl rfl) ?_
      first | refine SL.val rfl rfl (fun w9 F9 S9 s => R.pickT rfl rfl) ?_ | refine SL.val rfl rfl (fun w9 F9 S9 s => R.pickF rfl rfl) ?_
      refine SL.val rfl rfl (fun w9 F9 S9 s => R.as rfl) ?_
      refine SL.nil ?_
      refine SN.seq ?_
      refine SG.condP rfl (fun h1 => ?_) (fun h1 => ?_)
      · refine SG.seq ?_
        refine SG.region ?_
        refine SL.val rfl rfl (fun w9 F9 S9 s => R.as rfl) ?_
        refine SL.val rfl rfl (fun w9 F9 S9 s => R.as rfl) ?_
        refine SL.nil ?_
        refine SN.seq ?_
        exact SG.ret2 rfl rfl rfl ((Imp.sels (by repeat (first | exact Sels.nil | apply Sels.cons | exact Sel.keep | exact Sel.here | apply Sel.there)))) (⟨congrArg (fun x => Value.tuple #[.pointer none, .int .i64 x]) (show (2 : Int) = _ from (if_pos (by omega)).symm), rfl⟩)
      · refine SG.seq ?_
        refine SG.region ?_
        refine SL.val rfl rfl (fun w9 F9 S9 s => R.mv rfl) ?_
        refine SL.val rfl rfl (fun w9 F9 S9 s => R.mv rfl) ?_
        refine SL.step rfl rfl (CS.callR rfl go27 (fun w9 F9 S9 s => dsizeS d vv sz w9 (s.dv (by repeat (first | exact Sel.keep | exact Sel.here | apply Sel.there))))) ?_
        rintro _ _ ⟨rfl, rfl⟩
        refine SL.val rfl rfl (fun w9 F9 S9 s => R.mv rfl) ?_
        refine SL.val rfl rfl (fun w9 F9 S9 s => R.sub' rfl rfl (by omega)) ?_
        refine SL.val rfl rfl (fun w9 F9 S9 s => R.gtr rfl rfl) ?_
        refine SL.val rfl rfl (fun w9 F9 S9 s => R.as rfl) ?_
        refine SL.nil ?_
        refine SN.seq ?_
        refine SG.condP rfl (fun h2 => ?_) (fun h2 => ?_)
        · refine SG.seq ?_
          refine SG.region ?_
          refine SL.val rfl rfl (fun w9 F9 S9 s => R.as rfl) ?_
          refine SL.val rfl rfl (fun w9 F9 S9 s => R.as rfl) ?_
          refine SL.nil ?_
          refine SN.seq ?_
          exact SG.ret2 rfl rfl rfl ((Imp.sels (by repeat (first | exact Sels.nil | apply Sels.cons | exact Sel.keep | exact Sel.here | apply Sel.there)))) (⟨congrArg (fun x => Value.tuple #[.pointer none, .int .i64 x]) (show (11 : Int) = _ by unfold pnewE; rw [if_neg (by omega), if_pos (by omega)]), rfl⟩)
        · exfalso
          apply he
          unfold pnewE
          rw [if_neg (by omega), if_neg (by omega)]

theorem pnew_nil (x y : Value) : SpecS Try.prog 8 [.pointer none, x, y] [] (fun v H' => v = .tuple #[.pointer none, .int .i64 1] ∧ H' = []) := by
  refine SpecS.enter Try.func8 rfl 35 rfl (Nat.le_of_ble_eq_true rfl) (fun o => ?_)
  refine SG.seq ?_
  refine SG.region ?_
  refine SL.val rfl rfl (fun w9 F9 S9 s => R.as rfl) ?_
  refine SL.val rfl rfl (fun w9 F9 S9 s => R.as rfl) ?_
  refine SL.nil ?_
  refine SN.seq ?_
  refine SG.seq ?_
  refine SG.block ?_
  refine SG.seq ?_
  refine SG.region ?_
  refine SL.val rfl rfl (fun w9 F9 S9 s => R.mv rfl) ?_
  refine SL.val rfl rfl (fun w9 F9 S9 s => R.eqNilP rfl rfl) ?_
  refine SL.val rfl rfl (fun w9 F9 S9 s => R.as rfl) ?_
  refine SL.nil ?_
  refine SN.seq ?_
  refine SG.condT rfl ?_
  refine SG.seq ?_
  refine SG.region ?_
  refine SL.val rfl rfl (fun w9 F9 S9 s => R.as rfl) ?_
  refine SL.val rfl rfl (fun w9 F9 S9 s => R.as rfl) ?_
  refine SL.nil ?_
  refine SN.seq ?_
  exact SG.ret2 rfl rfl rfl ((Imp.sels (by repeat (first | exact Sels.nil | apply Sels.cons | exact Sel.keep | exact Sel.here | apply Sel.there)))) (⟨rfl, rfl⟩)

theorem pdrop_ok (p d m sz fr B : Nat) (vv : DevV) (hd : List (Int × HdV)) : SpecS Try.prog 16 [.pointer (some ⟨p, 0, none⟩)] [blk p [.pointer (some ⟨d, 0, none⟩), .int .i64 (fr : Int), .int .i64 (B : Int), .pointer (some ⟨m, 0, none⟩)] 78, mp (κ := Int) 110 114 2 m (psP hd), sh (fun w => ∀ t ∈ hd, HdV.ok w t.2), dvA d vv sz] (fun v H' => ∃ m', v = .tuple #[] ∧ H' = [blk p [.pointer (some ⟨d, 0, none⟩), .int .i64 (fr : Int), .int .i64 (B : Int), .pointer (some ⟨m', 0, none⟩)] 78, mp (κ := Int) 110 114 2 m' (psP ([] : List (Int × HdV))), sh (fun w => ∀ t ∈ ([] : List (Int × HdV)), HdV.ok w t.2), dvA d vv sz]) := by
  refine SpecS.enter Try.func16 rfl 8 rfl (Nat.le_of_ble_eq_true rfl) (fun o => ?_)
  refine SG.seq ?_
  refine SG.region ?_
  refine SL.val rfl rfl (fun w9 F9 S9 s => R.mv rfl) ?_
  refine SL.val rfl rfl (fun w9 F9 S9 s => R.neNilP rfl rfl) ?_
  refine SL.nil ?_
  refine SN.seq ?_
  refine SG.condT rfl ?_
  refine SG.region ?_
  refine SL.val rfl rfl (fun w9 F9 S9 s => R.mv rfl) ?_
  refine SL.step rfl rfl (CS.call rfl go28 (SpecS.ofNew (fun w => onewPoolheld_ok w)) (by repeat (first | exact Sels.nil | apply Sels.cons | exact Sel.keep | exact Sel.here | apply Sel.there))) ?_
  rintro _ _ ⟨_, ⟨m2, rfl, rfl⟩, rfl⟩
  refine SL.n1 ?_
  refine SL.imp (Imp.pure (p := fun w => ∀ t ∈ ([] : List (Int × HdV)), HdV.ok w t.2) (fun w t ht => by cases ht)) ?_
  refine SL.val rfl rfl (fun w9 F9 S9 s => R.nilChk rfl) ?_
  refine SL.val rfl rfl (fun w9 F9 S9 s => R.fld rfl) ?_
  refine SL.step0 rfl (CS.st rfl rfl (by repeat (first | exact Sel.keep | exact Sel.here | apply Sel.there)) (by repeat (first | exact SetAt.here | apply SetAt.there)) rfl) ?_
  rintro _ _ rfl
  refine SL.nil ?_
  exact SN.end0 rfl ((Imp.sels (by repeat (first | exact Sels.nil | apply Sels.cons | exact Sel.keep | exact Sel.here | apply Sel.there)))) (⟨m2, rfl, rfl⟩)

theorem pget_nil (x : Value) : SpecS Try.prog 19 [.pointer none, x] [] (fun v H' => v = .tuple #[.slice none 0 0, .int .i64 1] ∧ H' = []) := by
  refine SpecS.enter Try.func19 rfl 48 rfl (Nat.le_of_ble_eq_true rfl) (fun o => ?_)
  refine SG.seq ?_
  refine SG.region ?_
  refine SL.val rfl rfl (fun w9 F9 S9 s => R.as rfl) ?_
  refine SL.val rfl rfl (fun w9 F9 S9 s => R.as rfl) ?_
  refine SL.nil ?_
  refine SN.seq ?_
  refine SG.seq ?_
  refine SG.block ?_
  refine SG.seq ?_
  refine SG.region ?_
  refine SL.val rfl rfl (fun w9 F9 S9 s => R.mv rfl) ?_
  refine SL.val rfl rfl (fun w9 F9 S9 s => R.eqNilP rfl rfl) ?_
  refine SL.val rfl rfl (fun w9 F9 S9 s => R.as rfl) ?_
  refine SL.nil ?_
  refine SN.seq ?_
  refine SG.condT rfl ?_
  refine SG.seq ?_
  refine SG.region ?_
  refine SL.val rfl rfl (fun w9 F9 S9 s => R.as rfl) ?_
  refine SL.val rfl rfl (fun w9 F9 S9 s => R.as rfl) ?_
  refine SL.nil ?_
  refine SN.seq ?_
  exact SG.ret2 rfl rfl rfl ((Imp.sels (by repeat (first | exact Sels.nil | apply Sels.cons | exact Sel.keep | exact Sel.here | apply Sel.there)))) (⟨rfl, rfl⟩)

theorem pput_nil (x : Value) : SpecS Try.prog 9 [.pointer none, x] [] (fun v H' => v = .int .i64 1 ∧ H' = []) := by
  refine SpecS.enter Try.func9 rfl 43 rfl (Nat.le_of_ble_eq_true rfl) (fun o => ?_)
  refine SG.seq ?_
  refine SG.region ?_
  refine SL.val rfl rfl (fun w9 F9 S9 s => R.as rfl) ?_
  refine SL.nil ?_
  refine SN.seq ?_
  refine SG.seq ?_
  refine SG.seq ?_
  refine SG.region ?_
  refine SL.val rfl rfl (fun w9 F9 S9 s => R.mv rfl) ?_
  refine SL.val rfl rfl (fun w9 F9 S9 s => R.eqNilP rfl rfl) ?_
  refine SL.nil ?_
  refine SN.seq ?_
  refine SG.condT rfl ?_
  refine SG.seq ?_
  refine SG.region ?_
  refine SL.val rfl rfl (fun w9 F9 S9 s => R.as rfl) ?_
  refine SL.nil ?_
  refine SN.seq ?_
  exact SG.ret1 rfl rfl ((Imp.sels (by repeat (first | exact Sels.nil | apply Sels.cons | exact Sel.keep | exact Sel.here | apply Sel.there)))) (⟨rfl, rfl⟩)

theorem pdirty_nil  : SpecS Try.prog 13 [.pointer none] [] (fun v H' => v = .slice none 0 0 ∧ H' = []) := by
  refine SpecS.enter Try.func13 rfl 22 rfl (Nat.le_of_ble_eq_true rfl) (fun o => ?_)
  refine SG.seq ?_
  refine SG.region ?_
  refine SL.val rfl rfl (fun w9 F9 S9 s => R.as rfl) ?_
  refine SL.nil ?_
  refine SN.seq ?_
  refine SG.seq ?_
  refine SG.seq ?_
  refine SG.region ?_
  refine SL.val rfl rfl (fun w9 F9 S9 s => R.mv rfl) ?_
  refine SL.val rfl rfl (fun w9 F9 S9 s => R.eqNilP rfl rfl) ?_
  refine SL.nil ?_
  refine SN.seq ?_
  refine SG.condT rfl ?_
  refine SG.seq ?_
  refine SG.region ?_
  refine SL.val rfl rfl (fun w9 F9 S9 s => R.as rfl) ?_
  refine SL.nil ?_
  refine SN.seq ?_
  exact SG.ret1 rfl rfl ((Imp.sels (by repeat (first | exact Sels.nil | apply Sels.cons | exact Sel.keep | exact Sel.here | apply Sel.there)))) (⟨rfl, rfl⟩)

theorem psave_nil  : SpecS Try.prog 10 [.pointer none] [] (fun v H' => v = .int .i64 1 ∧ H' = []) := by
  refine SpecS.enter Try.func10 rfl 83 rfl (Nat.le_of_ble_eq_true rfl) (fun o => ?_)
  refine SG.seq ?_
  refine SG.region ?_
  refine SL.val rfl rfl (fun w9 F9 S9 s => R.as rfl) ?_
  refine SL.nil ?_
  refine SN.seq ?_
  refine SG.seq ?_
  refine SG.seq ?_
  refine SG.region ?_
  refine SL.val rfl rfl (fun w9 F9 S9 s => R.mv rfl) ?_
  refine SL.val rfl rfl (fun w9 F9 S9 s => R.eqNilP rfl rfl) ?_
  refine SL.nil ?_
  refine SN.seq ?_
  refine SG.condT rfl ?_
  refine SG.seq ?_
  refine SG.region ?_
  refine SL.val rfl rfl (fun w9 F9 S9 s => R.as rfl) ?_
  refine SL.nil ?_
  refine SN.seq ?_
  exact SG.ret1 rfl rfl ((Imp.sels (by repeat (first | exact Sels.nil | apply Sels.cons | exact Sel.keep | exact Sel.here | apply Sel.there)))) (⟨rfl, rfl⟩)

theorem pimage_nil  : SpecS Try.prog 11 [.pointer none] [] (fun v H' => v = .tuple #[.pointer none, .int .i64 1] ∧ H' = []) := by
  refine SpecS.enter Try.func11 rfl 36 rfl (Nat.le_of_ble_eq_true rfl) (fun o => ?_)
  refine SG.seq ?_
  refine SG.region ?_
  refine SL.val rfl rfl (fun w9 F9 S9 s => R.as rfl) ?_
  refine SL.val rfl rfl (fun w9 F9 S9 s => R.as rfl) ?_
  refine SL.nil ?_
  refine SN.seq ?_
  refine SG.seq ?_
  refine SG.seq ?_
  refine SG.region ?_
  refine SL.val rfl rfl (fun w9 F9 S9 s => R.mv rfl) ?_
  refine SL.val rfl rfl (fun w9 F9 S9 s => R.eqNilP rfl rfl) ?_
  refine SL.nil ?_
  refine SN.seq ?_
  refine SG.condT rfl ?_
  refine SG.seq ?_
  refine SG.region ?_
  refine SL.val rfl rfl (fun w9 F9 S9 s => R.as rfl) ?_
  refine SL.val rfl rfl (fun w9 F9 S9 s => R.as rfl) ?_
  refine SL.nil ?_
  refine SN.seq ?_
  exact SG.ret2 rfl rfl rfl ((Imp.sels (by repeat (first | exact Sels.nil | apply Sels.cons | exact Sel.keep | exact Sel.here | apply Sel.there)))) (⟨rfl, rfl⟩)

theorem pdrop_nil  : SpecS Try.prog 16 [.pointer none] [] (fun v H' => v = .tuple #[] ∧ H' = []) := by
  refine SpecS.enter Try.func16 rfl 8 rfl (Nat.le_of_ble_eq_true rfl) (fun o => ?_)
  refine SG.seq ?_
  refine SG.region ?_
  refine SL.val rfl rfl (fun w9 F9 S9 s => R.mv rfl) ?_
  refine SL.val rfl rfl (fun w9 F9 S9 s => R.neNilP rfl rfl) ?_
  refine SL.nil ?_
  refine SN.seq ?_
  refine SG.condF rfl ?_
  refine SG.skip ?_
  exact SN.end0 rfl ((Imp.sels (by repeat (first | exact Sels.nil | apply Sels.cons | exact Sel.keep | exact Sel.here | apply Sel.there)))) (⟨rfl, rfl⟩)

theorem pimage_ok (p d m sz fr B : Nat) (vv : DevV) (hd : List (Int × HdV)) (hfr : fr ≤ 4096) (hB1 : 1 ≤ B) (hB : B ≤ 64) (hM : ∀ t ∈ absP hd, t.2.1.length = 64) (hl : hd.length ≤ 10000) (hwb : vv.wt.length ≤ 1000000) : SpecS Try.prog 11 [.pointer (some ⟨p, 0, none⟩)] [blk p [.pointer (some ⟨d, 0, none⟩), .int .i64 (fr : Int), .int .i64 (B : Int), .pointer (some ⟨m, 0, none⟩)] 78, mp (κ := Int) 110 114 2 m (psP hd), sh (fun w => ∀ t ∈ hd, HdV.ok w t.2), dvA d vv sz] (fun v H' => ∃ q, v = .tuple #[.pointer q, .int .i64 (pimV (absP hd) vv sz fr B).2] ∧ H' = [sh (fun w => DiskO w q (pimV (absP hd) vv sz fr B).1), blk p [.pointer (some ⟨d, 0, none⟩), .int .i64 (fr : Int), .int .i64 (B : Int), .pointer (some ⟨m, 0, none⟩)] 78, mp (κ := Int) 110 114 2 m (psP hd), sh (fun w => ∀ t ∈ hd, HdV.ok w t.2), dvA d vv sz]) := by
  refine SpecS.enter Try.func11 rfl 36 rfl (Nat.le_of_ble_eq_true rfl) (fun o => ?_)
  refine SG.fact (fun w9 F9 S9 s => (s.dv (show Sel _ (dvA d vv sz) _ from (by repeat (first | exact Sel.keep | exact Sel.here | apply Sel.there)))).elim fun S9 h9 => h9.wf.1) (fun hf9 => ?_)
  have hwf := hf9; clear hf9
  refine SG.seq ?_
  refine SG.region ?_
  refine SL.val rfl rfl (fun w9 F9 S9 s => R.as rfl) ?_
  refine SL.val rfl rfl (fun w9 F9 S9 s => R.as rfl) ?_
  refine SL.nil ?_
  refine SN.seq ?_
  refine SG.seq ?_
  refine SG.seq ?_
  refine SG.region ?_
  refine SL.val rfl rfl (fun w9 F9 S9 s => R.mv rfl) ?_
  refine SL.val rfl rfl (fun w9 F9 S9 s => R.eqNilP rfl rfl) ?_
  refine SL.nil ?_
  refine SN.seq ?_
  refine SG.condF rfl ?_
  refine SG.skip ?_
  refine SN.seq ?_
  refine SG.seq ?_
  refine SG.region ?_
  refine SL.val rfl rfl (fun w9 F9 S9 s => R.as rfl) ?_
  refine SL.nil ?_
  refine SN.seq ?_
  refine SG.seq ?_
  refine SG.seq ?_
  refine SG.region ?_
  refine SL.val rfl rfl (fun w9 F9 S9 s => R.mv rfl) ?_
  refine SL.val rfl rfl (fun w9 F9 S9 s => R.nilChk rfl) ?_
  refine SL.val rfl rfl (fun w9 F9 S9 s => R.fld rfl) ?_
  refine SL.val rfl rfl (fun w9 F9 S9 s => R.ldB rfl (s.cel (by repeat (first | exact SelB.blk | exact SelB.fz | apply SelB.there))) (by rfl)) ?_
  refine SL.val rfl rfl (fun w9 F9 S9 s => R.mv rfl) ?_
  refine SL.nil ?_
  refine SN.seq ?_
  refine SG.block ?_
  refine SG.imp (Imp.ownNil 36 1) ?_
  refine SG.imp (Imp.pure (p := fun w => ∀ r ∈ ([] : List BRow), Bs w r.a r.n r.l) (fun w r hr => by cases hr)) ?_
  refine SG.loop (X := ImS) (fun y => [(0, .pointer (some ⟨p, 0, none⟩)), (4, .slice y.a y.i y.c), (13, .int .i64 (B : Int)), (14, .int .i64 (y.i : Int))]) (fun y => [own 36 1 y.a y.i y.c (y.rs.map BRow.val), sh (fun w => ∀ r ∈ y.rs, Bs w r.a r.n r.l), blk p [.pointer (some ⟨d, 0, none⟩), .int .i64 (fr : Int), .int .i64 (B : Int), .pointer (some ⟨m, 0, none⟩)] 78, mp (κ := Int) 110 114 2 m (psP hd), sh (fun w => ∀ t ∈ hd, HdV.ok w t.2), dvA d vv sz]) (fun y => y.i ≤ B ∧ y.rs.length = y.i ∧ pimL (absP hd) vv sz fr B y.i = (flR y.rs, 0) ∧ (flR y.rs).length = 64 * y.i) (fun y => B - y.i) (⟨0, none, 0, []⟩) (Sub.cons rfl (Sub.cons rfl (Sub.cons rfl (Sub.cons rfl (Sub.nil _))))) ((Imp.sels (by repeat (first | exact Sels.nil | apply Sels.cons | exact Sel.keep | exact Sel.here | apply Sel.there)))) (⟨Nat.zero_le _, rfl, rfl, rfl⟩) ?_
  rintro ⟨i, a9, c9, rs⟩ ⟨hi, hrl, hpi, hfl⟩
  dsimp only at hi hrl hpi hfl
  show SG _ _ _ _ _ [(0, .pointer (some ⟨p, 0, none⟩)), (4, .slice a9 i c9), (13, .int .i64 (B : Int)), (14, .int .i64 (i : Int))] [own 36 1 a9 i c9 (rs.map BRow.val), sh (fun w => ∀ r ∈ rs, Bs w r.a r.n r.l), blk p [.pointer (some ⟨d, 0, none⟩), .int .i64 (fr : Int), .int .i64 (B : Int), .pointer (some ⟨m, 0, none⟩)] 78, mp (κ := Int) 110 114 2 m (psP hd), sh (fun w => ∀ t ∈ hd, HdV.ok w t.2), dvA d vv sz] _
  refine SG.seq ?_
  refine SG.region ?_
  refine SL.val rfl rfl (fun w9 F9 S9 s => R.lss rfl rfl) ?_
  refine SL.nil ?_
  refine SN.seq ?_
  refine SG.seq ?_
  refine SG.condP rfl (fun h1 => ?_) (fun h1 => ?_)
  · refine SG.skip ?_
    refine SN.seq ?_
    refine SG.seq ?_
    refine SG.block ?_
    refine SG.seq ?_
    refine SG.region ?_
    refine SL.val rfl rfl (fun w9 F9 S9 s => R.mv rfl) ?_
    refine SL.val rfl rfl (fun w9 F9 S9 s => R.as rfl) ?_
    refine SL.nil ?_
    refine SN.seq ?_
    refine SG.seq ?_
    refine SG.region ?_
    refine SL.val rfl rfl (fun w9 F9 S9 s => R.mv rfl) ?_
    refine SL.val rfl rfl (fun w9 F9 S9 s => R.mv rfl) ?_
    refine SL.step rfl rfl (CS.call rfl go19 (pget_ok p d m sz fr B vv hd (i : Int) hfr hB hl hwb) (by repeat (first | exact Sels.nil | apply Sels.cons | exact Sel.keep | exact Sel.here | apply Sel.there))) ?_
    rintro _ _ ⟨_, ⟨a20, c20, rfl, rfl⟩, rfl⟩
    refine SL.n5 ?_
    refine SL.val rfl rfl (fun w9 F9 S9 s => R.mv rfl) ?_
    refine SL.val rfl rfl (fun w9 F9 S9 s => R.ext rfl rfl) ?_
    refine SL.val rfl rfl (fun w9 F9 S9 s => R.ext rfl rfl) ?_
    refine SL.val rfl rfl (fun w9 F9 S9 s => R.as rfl) ?_
    refine SL.val rfl rfl (fun w9 F9 S9 s => R.as rfl) ?_
    refine SL.nil ?_
    refine SN.seq ?_
    refine SG.seq ?_
    refine SG.seq ?_
    refine SG.region ?_
    refine SL.val rfl rfl (fun w9 F9 S9 s => R.mv rfl) ?_
    refine SL.val rfl rfl (fun w9 F9 S9 s => R.neI rfl rfl) ?_
    refine SL.nil ?_
    refine SN.seq ?_
    refine SG.condP rfl (fun h2 => ?_) (fun h2 => ?_)
    · refine SG.seq ?_
      refine SG.region ?_
      refine SL.val rfl rfl (fun w9 F9 S9 s => R.mv rfl) ?_
      refine SL.val rfl rfl (fun w9 F9 S9 s => R.as rfl) ?_
      refine SL.val rfl rfl (fun w9 F9 S9 s => R.as rfl) ?_
      refine SL.nil ?_
      refine SN.seq ?_
      exact SG.ret2 rfl rfl rfl ((Imp.pure (p := fun w => DiskO w none []) (fun w => .inl ⟨rfl, rfl⟩)).trans (Imp.sels (by repeat (first | exact Sels.nil | apply Sels.cons | exact Sel.keep | exact Sel.here | apply Sel.there)))) (rsPost (q := none) (l := []) (e := (pgetV (absP hd) vv sz fr B (i : Int)).2) (pim_err hpi (by omega) h2) rfl)
    · have h20 : (pgetV (absP hd) vv sz fr B (i : Int)).2 = 0 := Classical.not_not.1 h2
      have h64i := pget_64 hwf hM h20
      refine SG.imp (Imp.ownSh (show Sel _ (own 5 1 a20 (pgetV (absP hd) vv sz fr B (i : Int)).1.length c20 (vbs (pgetV (absP hd) vv sz fr B (i : Int)).1)) _ from (by repeat (first | exact Sel.keep | exact Sel.here | apply Sel.there))) (p := fun w => Bs w a20 (pgetV (absP hd) vv sz fr B (i : Int)).1.length (pgetV (absP hd) vv sz fr B (i : Int)).1) (fun w h => ⟨h, rfl⟩)) ?_
      refine SG.imp (Imp.both (p := fun w => ∀ r ∈ rs, Bs w r.a r.n r.l) (q := fun w => Bs w a20 (pgetV (absP hd) vv sz fr B (i : Int)).1.length (pgetV (absP hd) vv sz fr B (i : Int)).1) (by repeat (first | exact Sel.keep | exact Sel.here | apply Sel.there)) (by repeat (first | exact Sel.keep | exact Sel.here | apply Sel.there))) ?_
      refine SG.imp (Imp.weak (p := fun w => (∀ r ∈ rs, Bs w r.a r.n r.l) ∧ Bs w a20 (pgetV (absP hd) vv sz fr B (i : Int)).1.length (pgetV (absP hd) vv sz fr B (i : Int)).1) (q := fun w => ∀ r ∈ rs ++ [(⟨a20, (pgetV (absP hd) vv sz fr B (i : Int)).1.length, c20, (pgetV (absP hd) vv sz fr B (i : Int)).1⟩ : BRow)], Bs w r.a r.n r.l) (by repeat (first | exact Sel.keep | exact Sel.here | apply Sel.there)) (fun w hw r hr => (List.mem_append.1 hr).elim (hw.1 r) (fun h => by rw [List.mem_singleton.1 h]; exact hw.2))) ?_
      refine SG.skip ?_
      refine SN.seq ?_
      refine SG.region ?_
      refine SL.val rfl rfl (fun w9 F9 S9 s => R.mv rfl) ?_
      refine SL.val rfl rfl (fun w9 F9 S9 s => R.mv rfl) ?_
      refine SL.step rfl rfl (CS.buildA rfl rfl rfl rfl rfl ([(⟨a20, (pgetV (absP hd) vv sz fr B (i : Int)).1.length, c20, (pgetV (absP hd) vv sz fr B (i : Int)).1⟩ : BRow)].map BRow.val) rfl) ?_
      rintro _ _ ⟨b28, rfl, rfl⟩
      refine SL.step rfl rfl (CS.app rfl rfl (by repeat (first | exact Sel.keep | exact Sel.here | apply Sel.there)) (fun w9 F9 S9 s => s.blkC (show Sel _ (blk b28 ([(⟨a20, (pgetV (absP hd) vv sz fr B (i : Int)).1.length, c20, (pgetV (absP hd) vv sz fr B (i : Int)).1⟩ : BRow)].map BRow.val) _) _ from (by repeat (first | exact Sel.keep | exact Sel.here | apply Sel.there)))) rfl (by intro u hu; simp at hu; subst hu; rfl) (by simp [maxLen]; omega) (by omega)) ?_
      rintro _ _ ⟨a29, c29, rfl, rfl⟩
      refine SL.val rfl rfl (fun w9 F9 S9 s => R.as rfl) ?_
      refine SL.nil ?_
      refine SN.block ?_
      refine SN.seq ?_
      refine SG.region ?_
      refine SL.val rfl rfl (fun w9 F9 S9 s => R.add rfl rfl (by omega)) ?_
      refine SL.val rfl rfl (fun w9 F9 S9 s => R.mv rfl) ?_
      refine SL.nil ?_
      exact SN.again (⟨i + 1, a29, c29, rs ++ [(⟨a20, (pgetV (absP hd) vv sz fr B (i : Int)).1.length, c20, (pgetV (absP hd) vv sz fr B (i : Int)).1⟩ : BRow)]⟩) (by show B - (i + 1) < B - i; omega) (Sub.cons rfl (Sub.cons rfl (Sub.cons rfl (Sub.cons rfl (Sub.nil _))))) ((show Imp _ _ by dsimp only; rw [List.map_append]; exact (Imp.sels (by repeat (first | exact Sels.nil | apply Sels.cons | exact Sel.keep | exact Sel.here | apply Sel.there))))) (⟨by show i + 1 ≤ B; omega, by show (rs ++ [(⟨a20, (pgetV (absP hd) vv sz fr B (i : Int)).1.length, c20, (pgetV (absP hd) vv sz fr B (i : Int)).1⟩ : BRow)]).length = i + 1; rw [List.length_append, hrl]; rfl, by show pimL _ _ _ _ _ (i + 1) = (flR (rs ++ [(⟨a20, (pgetV (absP hd) vv sz fr B (i : Int)).1.length, c20, (pgetV (absP hd) vv sz fr B (i : Int)).1⟩ : BRow)]), 0); rw [pim_next hpi h20, flR_snoc], by show (flR (rs ++ [(⟨a20, (pgetV (absP hd) vv sz fr B (i : Int)).1.length, c20, (pgetV (absP hd) vv sz fr B (i : Int)).1⟩ : BRow)])).length = 64 * (i + 1); rw [flR_snoc, List.length_append, hfl]; show 64 * i + (pgetV (absP hd) vv sz fr B (i : Int)).1.length = _; omega⟩)
  · obtain rfl : i = B := by omega
    have hpv : pimV (absP hd) vv sz fr i = (flR rs, 0) := hpi
    have hdn : (flR rs).length = 64 * dn (flR rs) ∧ 1 ≤ dn (flR rs) ∧ dn (flR rs) ≤ 64 := by unfold dn; omega
    refine SG.imp (Imp.ownSh (show Sel _ (own 36 1 a9 i c9 (rs.map BRow.val)) _ from (by repeat (first | exact Sel.keep | exact Sel.here | apply Sel.there))) (p := fun w => Cells w a9 (rs.map BRow.val)) (fun w h => h)) ?_
    refine SG.exit _ rfl ?_
    refine SN.seq ?_
    refine SG.seq ?_
    refine SG.region ?_
    refine SL.val rfl rfl (fun w9 F9 S9 s => R.mv rfl) ?_
    refine SL.step rfl rfl (CS.call rfl go36 (concat_ok a9 i c9 rs hrl.symm (by omega) (by omega) (by omega)) (by repeat (first | exact Sels.nil | apply Sels.cons | exact Sel.keep | exact Sel.here | apply Sel.there))) ?_
    rintro _ _ ⟨_, ⟨a32, c32, rfl, rfl⟩, rfl⟩
    refine SL.n1 ?_
    refine SL.fact (fun w9 F9 S9 s => s.ownL (show Sel _ (own 5 1 a32 (flR rs).length c32 (vbs (flR rs))) _ from (by repeat (first | exact Sel.keep | exact Sel.here | apply Sel.there)))) (fun hf9 => ?_)
    obtain ⟨_, hc32⟩ := hf9
    refine SL.imp (Imp.ownBs (show Sel _ (own 5 1 a32 (flR rs).length c32 (vbs (flR rs))) _ from (by repeat (first | exact Sel.keep | exact Sel.here | apply Sel.there)))) ?_
    refine SL.step rfl rfl (CS.call rfl go35 (ifromS a32 (flR rs).length c32 (flR rs) hc32 hdn) (by repeat (first | exact Sels.nil | apply Sels.cons | exact Sel.keep | exact Sel.here | apply Sel.there))) ?_
    rintro _ _ ⟨_, ⟨d33, g33, c33, cur33, ps33, rfl, rfl⟩, rfl⟩
    refine SL.n2 ?_
    refine SL.val rfl rfl (fun w9 F9 S9 s => R.ext rfl rfl) ?_
    refine SL.val rfl rfl (fun w9 F9 S9 s => R.ext rfl rfl) ?_
    refine SL.val rfl rfl (fun w9 F9 S9 s => R.as rfl) ?_
    refine SL.val rfl rfl (fun w9 F9 S9 s => R.as rfl) ?_
    refine SL.nil ?_
    refine SN.seq ?_
    exact SG.ret2 rfl rfl rfl ((Imp.weak (p := fun w => DiskL w d33 g33 c33 cur33 ps33 (flR rs)) (q := fun w => DiskO w (some ⟨d33, 0, none⟩) (flR rs)) (by repeat (first | exact Sel.keep | exact Sel.here | apply Sel.there)) (fun w hw => disk_o hw)).trans (Imp.sels (by repeat (first | exact Sels.nil | apply Sels.cons | exact Sel.keep | exact Sel.here | apply Sel.there)))) (rsPost (q := some ⟨d33, 0, none⟩) hpv rfl)

end Go.Proofs.Ytmbppidafnakhaa
/-
  Laws on pools: what is put is there; saving changes nothing that is told.
-/
set_option linter.unusedVariables false
set_option linter.unusedSimpArgs false
namespace Brv
open Go Brv.Image Brv.Dev
section
variable {α : Type}
theorem lowT_cons (p : Int × α) (l : List (Int × α)) (k : Int) : lowT (p :: l) k = if p.1 < k then lowT l k + 1 else 0 := by
  unfold lowT
  rw [List.takeWhile_cons]
  by_cases h : p.1 < k
  · rw [if_pos h, if_pos (by simpa using h)]; rfl
  · rw [if_neg h, if_neg (by simpa using h)]; rfl
theorem hasT_cons (p : Int × α) (l : List (Int × α)) (k : Int) : hasT (p :: l) k = if p.1 < k then hasT l k else !decide (k < p.1) := by
  unfold hasT
  rw [lowT_cons]
  by_cases h : p.1 < k
  · rw [if_pos h, if_pos h, List.getElem?_cons_succ]
  · rw [if_neg h, if_neg h]; rfl
def insT (k : Int) (v : α) : List (Int × α) → List (Int × α)
  | [] => [(k, v)]
  | p :: l => if p.1 < k then p :: insT k v l else if k < p.1 then (k, v) :: p :: l else (k, v) :: l
theorem putT_ins (l : List (Int × α)) (k : Int) (v : α) : putT l k v = insT k v l := by
  induction l with
  | nil => rfl
  | cons p l ih =>
    unfold putT at ih ⊢
    rw [hasT_cons, lowT_cons, insT]
    by_cases h : p.1 < k
    · rw [if_pos h, if_pos h, if_pos h, ← ih]
      by_cases h2 : hasT l k = true
      · rw [if_pos h2, if_pos h2]; rfl
      · rw [if_neg h2, if_neg h2]; rfl
    · rw [if_neg h, if_neg h, if_neg h]
      by_cases h2 : k < p.1
      · rw [if_pos h2]; simp [h2]
      · rw [if_neg h2]; simp [h2]
theorem mem_ins {l : List (Int × α)} (hs : Srt l) {k : Int} {v : α} {q : Int × α} : q ∈ insT k v l ↔ q = (k, v) ∨ (q ∈ l ∧ q.1 ≠ k) := by
  unfold Srt at hs
  induction l with
  | nil => simp [insT]
  | cons p l ih =>
    rw [List.pairwise_cons] at hs
    rw [insT]
    by_cases h : p.1 < k
    · rw [if_pos h, List.mem_cons, ih hs.2, List.mem_cons]
      constructor
      · rintro (rfl | rfl | ⟨h1, h2⟩)
        · exact .inr ⟨.inl rfl, by omega⟩
        · exact .inl rfl
        · exact .inr ⟨.inr h1, h2⟩
      · rintro (rfl | ⟨rfl | h1, h2⟩)
        · exact .inr (.inl rfl)
        · exact .inl rfl
        · exact .inr (.inr ⟨h1, h2⟩)
    · rw [if_neg h]
      by_cases h2 : k < p.1
      · rw [if_pos h2, List.mem_cons]
        constructor
        · rintro (rfl | h1)
          · exact .inl rfl
          · refine .inr ⟨h1, ?_⟩
            rcases List.mem_cons.1 h1 with rfl | h1
            · omega
            · have := hs.1 q h1; omega
        · rintro (rfl | ⟨h1, _⟩)
          · exact .inl rfl
          · exact .inr h1
      · rw [if_neg h2, List.mem_cons]
        constructor
        · rintro (rfl | h1)
          · exact .inl rfl
          · exact .inr ⟨List.mem_cons_of_mem _ h1, by have := hs.1 q h1; omega⟩
        · rintro (rfl | ⟨h1, h3⟩)
          · exact .inl rfl
          · rcases List.mem_cons.1 h1 with rfl | h1
            · omega
            · exact .inr h1
theorem srt_ins {l : List (Int × α)} (hs : Srt l) (k : Int) (v : α) : Srt (insT k v l) := by
  have hs0 := hs
  unfold Srt at hs ⊢
  induction l with
  | nil => simp [insT]
  | cons p l ih =>
    rw [List.pairwise_cons] at hs
    rw [insT]
    by_cases h : p.1 < k
    · rw [if_pos h, List.pairwise_cons]
      refine ⟨fun q hq => ?_, ih hs.2 hs.2⟩
      rcases (mem_ins hs.2).1 hq with rfl | ⟨h1, _⟩
      · exact h
      · exact hs.1 q h1
    · rw [if_neg h]
      by_cases h2 : k < p.1
      · rw [if_pos h2, List.pairwise_cons, List.pairwise_cons]
        refine ⟨fun q hq => ?_, hs⟩
        rcases List.mem_cons.1 hq with rfl | hq
        · exact h2
        · have := hs.1 q hq; show k < q.1; omega
      · rw [if_neg h2, List.pairwise_cons]
        exact ⟨fun q hq => by have := hs.1 q hq; show k < q.1; omega, hs.2⟩
theorem srt_put {l : List (Int × α)} (hs : Srt l) (k : Int) (v : α) : Srt (putT l k v) := by rw [putT_ins]; exact srt_ins hs k v
theorem mem_put2 {l : List (Int × α)} (hs : Srt l) {k : Int} {v : α} {q : Int × α} : q ∈ putT l k v ↔ q = (k, v) ∨ (q ∈ l ∧ q.1 ≠ k) := by rw [putT_ins]; exact mem_ins hs
theorem getT_iff {l : List (Int × α)} (hs : Srt l) {k : Int} {v : α} : getT l k = some v ↔ (k, v) ∈ l :=
  ⟨getT_some, fun h => let ⟨i, hi⟩ := List.getElem?_of_mem h; getT_at hs hi⟩
theorem getT_put {l : List (Int × α)} (hs : Srt l) (k : Int) (v : α) (j : Int) : getT (putT l k v) j = if j = k then some v else getT l j := by
  refine Option.ext fun a => ?_
  rw [getT_iff (srt_put hs k v), mem_put2 hs]
  by_cases h : j = k
  · subst h
    rw [if_pos rfl]
    constructor
    · rintro (h | ⟨_, h⟩)
      · cases h; rfl
      · exact (h rfl).elim
    · intro h; cases h; exact .inl rfl
  · rw [if_neg h, getT_iff hs]
    constructor
    · rintro (h1 | ⟨h1, _⟩)
      · cases h1; exact (h rfl).elim
      · exact h1
    · exact fun h1 => .inr ⟨h1, h⟩
theorem srt_few {l : List (Int × α)} (hs : Srt l) {lo hi : Int} (hlh : lo ≤ hi) (h : ∀ t ∈ l, lo ≤ t.1 ∧ t.1 < hi) : (l.length : Int) ≤ hi - lo := by
  unfold Srt at hs
  induction l generalizing lo with
  | nil => simp; omega
  | cons p l ih =>
    rw [List.pairwise_cons] at hs
    have hp := h p (by simp)
    have := ih hs.2 (lo := p.1 + 1) (by omega) (fun t ht => ⟨by have := hs.1 t ht; omega, (h t (by simp [ht])).2⟩)
    rw [List.length_cons]; omega
end
/-- What lies in the window of a pool. -/
structure PKey (M : Hd) (B : Nat) : Prop where
  srt : Srt M
  key : ∀ t ∈ M, 0 ≤ t.1 ∧ t.1 < (B : Int)
  len : ∀ t ∈ M, t.2.1.length = 64
theorem PKey.nil (B : Nat) : PKey [] B := ⟨List.Pairwise.nil, by simp, by simp⟩
theorem PKey.few {M : Hd} {B : Nat} (h : PKey M B) : M.length ≤ B := by have := srt_few h.srt (by omega) h.key; omega
theorem PKey.put {M : Hd} {B : Nat} (h : PKey M B) {k : Int} {x : List UInt8 × Bool} (hk : 0 ≤ k ∧ k < (B : Int)) (hx : x.1.length = 64) : PKey (putT M k x) B :=
  ⟨srt_put h.srt k x, fun t ht => (mem_putT ht).elim (fun e => by rw [e]; exact hk) (h.key t), fun t ht => (mem_putT ht).elim (fun e => by rw [e]; exact hx) (h.len t)⟩
theorem PKey.putL {M : Hd} {B : Nat} (h : PKey M B) {l : List Wr} (hl : ∀ w ∈ l, pwE B w = 0) : PKey (putL M l) B := by
  unfold Brv.putL
  induction l generalizing M with
  | nil => exact h
  | cons w l ih => exact ih (h.put (pwE_in (hl w (by simp))).1 (pwE_in (hl w (by simp))).2) (fun w hw => hl w (by simp [hw]))
theorem PKey.pput {M : Hd} {B : Nat} (h : PKey M B) (l : List Wr) : PKey (pputV M B l) B := by
  unfold pputV
  split
  · rename_i h1; exact h.putL (pwsE_in h1)
  · exact h
theorem valH_len {M : Hd} {B : Nat} (h : PKey M B) {k : Int} (hk : k ∈ dirtyL M) : (valH M k).length = 64 := by
  unfold dirtyL at hk
  obtain ⟨t, ht, rfl⟩ := List.mem_map.1 hk
  have hm := (List.mem_filter.1 ht).1
  unfold valH
  rw [(getT_iff h.srt).2 (show (t.1, t.2) ∈ M from hm)]
  exact h.len t hm
theorem dirty_key {M : Hd} {B : Nat} (h : PKey M B) {k : Int} (hk : k ∈ dirtyL M) : 0 ≤ k ∧ k < (B : Int) := by
  unfold dirtyL at hk
  obtain ⟨t, ht, rfl⟩ := List.mem_map.1 hk
  exact h.key t (List.mem_filter.1 ht).1
theorem dirty_iff {M : Hd} (h : Srt M) {k : Int} : k ∈ dirtyL M ↔ ∃ x, getT M k = some (x, true) := by
  unfold dirtyL
  constructor
  · intro hk
    obtain ⟨t, ht, rfl⟩ := List.mem_map.1 hk
    obtain ⟨h1, h2⟩ := List.mem_filter.1 ht
    refine ⟨t.2.1, (getT_iff h).2 ?_⟩
    have h2 : t.2.2 = true := h2
    rw [← h2]; exact h1
  · rintro ⟨x, hx⟩
    exact List.mem_map.2 ⟨(k, (x, true)), List.mem_filter.2 ⟨getT_some hx, rfl⟩, rfl⟩
theorem clean_get (ks : List Int) : ∀ (M : Hd), Srt M → Srt (clean M ks) ∧ ∀ j, getT (clean M ks) j = if j ∈ ks then some (valH M j, false) else getT M j := by
  induction ks with
  | nil => exact fun M h => ⟨h, fun j => by simp [clean]⟩
  | cons k ks ih =>
    intro M h
    have hs := srt_put h k (valH M k, false)
    obtain ⟨h1, h2⟩ := ih _ hs
    have e : clean M (k :: ks) = clean (putT M k (valH M k, false)) ks := rfl
    rw [e]
    refine ⟨h1, fun j => ?_⟩
    have hv : valH (putT M k (valH M k, false)) j = valH M j := by
      unfold valH
      rw [getT_put h]
      by_cases hj : j = k
      · subst hj; rw [if_pos rfl]; rfl
      · rw [if_neg hj]
    rw [h2 j, hv]
    by_cases hj : j ∈ ks
    · rw [if_pos hj, if_pos (List.mem_cons_of_mem _ hj)]
    · rw [if_neg hj, getT_put h]
      by_cases hk : j = k
      · subst hk; rw [if_pos rfl, if_pos List.mem_cons_self]
      · rw [if_neg hk, if_neg (by simp [hj, hk])]
theorem PKey.clean {M : Hd} {B : Nat} (h : PKey M B) {ks : List Int} (hk : ∀ k ∈ ks, (0 ≤ k ∧ k < (B : Int)) ∧ (valH M k).length = 64) : PKey (clean M ks) B := by
  obtain ⟨h1, h2⟩ := clean_get ks M h.srt
  have key : ∀ t ∈ Brv.clean M ks, (0 ≤ t.1 ∧ t.1 < (B : Int)) ∧ t.2.1.length = 64 := by
    intro t ht
    have hg := (getT_iff h1).2 (show (t.1, t.2) ∈ _ from ht)
    rw [h2] at hg
    split at hg
    · rename_i hm
      have e : t.2 = (valH M t.1, false) := (Option.some.inj hg).symm
      rw [e]; exact hk _ hm
    · exact ⟨h.key (t.1, t.2) (getT_some hg), h.len (t.1, t.2) (getT_some hg)⟩
  exact ⟨h1, fun t ht => (key t ht).1, fun t ht => (key t ht).2⟩
theorem PKey.save {M : Hd} {B : Nat} (h : PKey M B) (v : DevV) (sz fr : Nat) : PKey (psaveV M v sz fr).1.1 B := by
  unfold psaveV
  split
  · exact h
  split
  · exact h
  · exact h.clean fun k hk => ⟨dirty_key h hk, valH_len h hk⟩
theorem svL_wf {M : Hd} {B sz fr : Nat} (ks : List Int) : ∀ {r : DevV × Int}, r.1.Wf sz → (ks.foldl (svS M sz fr) r).1.Wf sz := by
  induction ks with
  | nil => exact fun h => h
  | cons k ks ih =>
    intro r h
    refine ih ?_
    unfold svS
    split
    · exact writeV_wf h
    · exact h
theorem psave_wf {M : Hd} {v : DevV} {sz fr : Nat} (h : v.Wf sz) : (psaveV M v sz fr).1.2.Wf sz := by
  have h1 : (svL M v sz fr (dirtyL M)).1.Wf sz := svL_wf (B := 0) _ h
  unfold psaveV
  split
  · exact h1
  split
  · exact flushV_wf h1
  · exact flushV_wf h1
end Brv
/-
  Pools over a device that is well: what is saved is there.
-/
set_option linter.unusedVariables false
set_option linter.unusedSimpArgs false
namespace Brv
open Go Brv.Image Brv.Dev
/-- A device that is well. -/
def WellD (v : DevV) : Prop := v.off = false ∧ v.left = -1
def wrsL (M : Hd) (fr : Nat) (ks : List Int) : List (Nat × List UInt8) := ks.map fun k => (fr + k.toNat, valH M k)
theorem svL_good {M : Hd} {sz fr B : Nat} (hf : fr + B ≤ sz) : ∀ (ks : List Int) (v : DevV), WellD v → (∀ k ∈ ks, (0 ≤ k ∧ k < (B : Int)) ∧ (valH M k).length = 64) →
    ks.foldl (svS M sz fr) (v, 0) = ({ v with calls := v.calls + (ks.length : Int), wt := v.wt ++ wrsL M fr ks }, 0) := by
  intro ks
  induction ks with
  | nil => intro v _ _; simp [wrsL]
  | cons k ks ih =>
    intro v hg hk
    obtain ⟨⟨h1, h2⟩, h3⟩ := hk k (by simp)
    have e : svS M sz fr (v, 0) k = ({ v with calls := v.calls + 1, wt := v.wt ++ [(fr + k.toNat, valH M k)] }, 0) := by
      unfold svS
      rw [if_pos rfl, show (fr : Int) + k = ((fr + k.toNat : Nat) : Int) by omega, write_ok hg.1 h3 (by omega) (by rw [hg.2]; decide), hg.2]
      rw [if_neg (by decide), ← hg.2]
    rw [List.foldl_cons, e, ih { v with calls := v.calls + 1, wt := v.wt ++ [(fr + k.toNat, valH M k)] } hg (fun k hk' => hk k (by simp [hk']))]
    simp only [wrsL, List.map_cons, List.append_assoc, List.singleton_append, List.length_cons]
    refine Prod.ext ?_ rfl
    dsimp only
    congr 1
    omega
/-- The device behind saving. -/
def savedV (M : Hd) (v : DevV) (fr : Nat) : DevV := ⟨laidAll v.stay (v.wt ++ wrsL M fr (dirtyL M)), [], v.calls + ((dirtyL M).length : Int) + 1, -1, false⟩
theorem psave_good {M : Hd} {v : DevV} {sz fr B : Nat} (hM : PKey M B) (hg : WellD v) (hf : fr + B ≤ sz) : psaveV M v sz fr = ((clean M (dirtyL M), savedV M v fr), 0) := by
  have h1 : svL M v sz fr (dirtyL M) = _ := svL_good hf (dirtyL M) v hg (fun k hk => ⟨dirty_key hM hk, valH_len hM hk⟩)
  have h2 := flush_ok (v := { v with calls := v.calls + ((dirtyL M).length : Int), wt := v.wt ++ wrsL M fr (dirtyL M) }) hg.1 (by show v.left ≠ 0; rw [hg.2]; decide)
  rw [psave_ok h1 (by rw [h2]), h2]
  refine Prod.ext (Prod.ext rfl ?_) rfl
  show DevV.mk _ _ _ _ _ = _
  unfold savedV
  congr 1
  show (if 0 < v.left then v.left - 1 else v.left) = -1
  rw [hg.2]; rfl
theorem laidAll_G {N : Nat} {G : Nat → List UInt8} : ∀ (ws : List (Nat × List UInt8)) (s : List UInt8), s.length = 64 * N → (∀ x ∈ ws, x.1 < N ∧ x.2.length = 64 ∧ x.2 = G x.1) → ∀ j, ((∃ x ∈ ws, x.1 = j) → Image.blk (laidAll s ws) j = G j) ∧ ((∀ x ∈ ws, x.1 ≠ j) → Image.blk (laidAll s ws) j = Image.blk s j) := by
  intro ws
  induction ws with
  | nil => exact fun s _ _ j => ⟨by simp, fun _ => rfl⟩
  | cons x ws ih =>
    intro s hs hw j
    obtain ⟨hx1, hx2, hx3⟩ := hw x (by simp)
    have hd : x.1 < dn s := by rw [dn_of hs]; exact hx1
    obtain ⟨h1, h2⟩ := ih (laid s x.1 x.2) ((laid_length hx2 hd).trans hs) (fun y hy => hw y (by simp [hy])) j
    have e : laidAll s (x :: ws) = laidAll (laid s x.1 x.2) ws := rfl
    rw [e]
    by_cases hex : ∃ y ∈ ws, y.1 = j
    · refine ⟨fun _ => h1 hex, fun h => ?_⟩
      obtain ⟨y, hy, he⟩ := hex
      exact (h y (by simp [hy]) he).elim
    · have hno : ∀ y ∈ ws, y.1 ≠ j := fun y hy he => hex ⟨y, hy, he⟩
      rw [h2 hno, laid_blk hx2 hd]
      refine ⟨fun h => ?_, fun h => if_neg (fun e => h x (by simp) e.symm)⟩
      obtain ⟨y, hy, he⟩ := h
      rcases List.mem_cons.1 hy with rfl | hy
      · rw [if_pos he.symm, ← he]; exact hx3
      · exact (hno y hy he).elim
/-- A block that is told. -/
def vwB (M : Hd) (v : DevV) (fr k : Nat) : List UInt8 := match getT M (k : Int) with
  | some x => x.1
  | none => Image.blk (laidAll v.stay v.wt) (fr + k)
def imgL (M : Hd) (v : DevV) (fr B : Nat) : List UInt8 := ((List.range B).map (vwB M v fr)).flatten
theorem pget_good {M : Hd} {v : DevV} {sz fr B k : Nat} (hg : WellD v) (hw : v.Wf sz) (hf : fr + B ≤ sz) (hk : k < B) : pgetV M v sz fr B (k : Int) = (vwB M v fr k, 0) := by
  have hin : inP B (k : Int) = true := decide_eq_true (by omega)
  unfold vwB
  cases hgt : getT M (k : Int) with
  | some x => exact pget_hand hin hgt
  | none =>
    rw [pget_dev hin hgt]
    unfold readV
    rw [if_neg (by rw [hg.1]; decide), if_pos (show thereP sz ((fr : Int) + (k : Int)) 1 by unfold thereP; omega), show ((fr : Int) + (k : Int)).toNat = fr + k by omega]
    rfl
theorem pim_good {M : Hd} {v : DevV} {sz fr B : Nat} (hg : WellD v) (hw : v.Wf sz) (hf : fr + B ≤ sz) : pimV M v sz fr B = (imgL M v fr B, 0) := by
  have key : ∀ j, j ≤ B → pimL M v sz fr B j = (((List.range j).map (vwB M v fr)).flatten, 0) := by
    intro j
    induction j with
    | zero => intro _; rfl
    | succ j ih =>
      intro hj
      have hp := pget_good (M := M) hg hw hf (show j < B by omega)
      rw [pim_next (ih (by omega)) (by rw [hp]), hp, List.range_succ]
      simp
  exact key B (Nat.le_refl _)
/-- What is clean in hand lies on the device. -/
def Cln (M : Hd) (v : DevV) (fr : Nat) : Prop := ∀ t ∈ M, t.2.2 = false → t.2.1 = Image.blk (laidAll v.stay v.wt) (fr + t.1.toNat)
theorem Cln.nil (v : DevV) (fr : Nat) : Cln [] v fr := by intro t ht; cases ht
theorem Cln.putL {M : Hd} {v : DevV} {fr : Nat} (h : Cln M v fr) (l : List Wr) : Cln (putL M l) v fr := by
  unfold Brv.putL
  induction l generalizing M with
  | nil => exact h
  | cons w l ih =>
    refine ih fun t ht hc => ?_
    rcases mem_putT ht with rfl | ht
    · cases hc
    · exact h t ht hc
theorem Cln.pput {M : Hd} {v : DevV} {fr B : Nat} (h : Cln M v fr) (l : List Wr) : Cln (pputV M B l) v fr := by
  unfold pputV
  split
  · exact h.putL l
  · exact h
theorem saved_blk {M : Hd} {v : DevV} {sz fr B : Nat} (hM : PKey M B) (hw : v.Wf sz) (hf : fr + B ≤ sz) (j : Nat) :
    ((∃ k ∈ dirtyL M, fr + k.toNat = j) → Image.blk (savedV M v fr).stay j = valH M ((j : Int) - (fr : Int))) ∧ ((∀ k ∈ dirtyL M, fr + k.toNat ≠ j) → Image.blk (savedV M v fr).stay j = Image.blk (laidAll v.stay v.wt) j) := by
  have e : (savedV M v fr).stay = laidAll (laidAll v.stay v.wt) (wrsL M fr (dirtyL M)) := laidAll_append _ _ _
  rw [e]
  obtain ⟨h1, h2⟩ := laidAll_G (N := sz) (G := fun j => valH M ((j : Int) - (fr : Int))) (wrsL M fr (dirtyL M)) (laidAll v.stay v.wt) (laidAll_length (s := v.stay) hw.len hw.wt) (fun x hx => by
    obtain ⟨k, hk, rfl⟩ := List.mem_map.1 hx
    have := dirty_key hM hk
    exact ⟨by show fr + k.toNat < sz; omega, valH_len hM hk, by show valH M k = valH M _; congr 1; show k = ((fr + k.toNat : Nat) : Int) - (fr : Int); omega⟩) j
  refine ⟨fun ⟨k, hk, he⟩ => h1 ⟨_, List.mem_map.2 ⟨k, hk, rfl⟩, he⟩, fun h => h2 fun x hx => ?_⟩
  obtain ⟨k, hk, rfl⟩ := List.mem_map.1 hx
  exact h k hk
theorem saved_in {M : Hd} {v : DevV} {sz fr B : Nat} (hM : PKey M B) (hw : v.Wf sz) (hf : fr + B ≤ sz) (hc : Cln M v fr) {k : Nat} (hk : k < B) : Image.blk (savedV M v fr).stay (fr + k) = vwB M v fr k := by
  obtain ⟨h1, h2⟩ := saved_blk hM hw hf (fr + k)
  unfold vwB
  by_cases hd : (k : Int) ∈ dirtyL M
  · rw [h1 ⟨(k : Int), hd, by omega⟩, show ((fr + k : Nat) : Int) - (fr : Int) = (k : Int) by omega]
    obtain ⟨x, hx⟩ := (dirty_iff hM.srt).1 hd
    unfold valH
    rw [hx]; rfl
  · rw [h2 (fun z hz he => hd (by have := dirty_key hM hz; rw [show (k : Int) = z by omega]; exact hz))]
    cases hg : getT M (k : Int) with
    | none => rfl
    | some x =>
      obtain ⟨x, f⟩ := x
      have hf2 : f = false := by
        cases f with
        | false => rfl
        | true => exact (hd ((dirty_iff hM.srt).2 ⟨x, hg⟩)).elim
      exact (hc ((k : Int), (x, f)) (getT_some hg) hf2).symm
theorem saved_wf {M : Hd} {v : DevV} {sz fr B : Nat} (hM : PKey M B) (hw : v.Wf sz) (hf : fr + B ≤ sz) : (savedV M v fr).Wf sz := by
  refine ⟨laidAll_length (s := v.stay) hw.len ?_, by simp [savedV], by simp [savedV]⟩
  intro x hx
  rcases List.mem_append.1 hx with hx | hx
  · exact hw.wt x hx
  · obtain ⟨k, hk, rfl⟩ := List.mem_map.1 hx
    have := dirty_key hM hk
    exact ⟨by show fr + k.toNat < sz; omega, valH_len hM hk⟩
end Brv
namespace Brv
open Go Brv.Image Brv.Dev
theorem flat_len {l : List (List UInt8)} (h : ∀ b ∈ l, b.length = 64) : l.flatten.length = 64 * l.length := by
  induction l with
  | nil => rfl
  | cons b l ih => rw [List.flatten_cons, List.length_append, h b (by simp), ih (fun x hx => h x (by simp [hx])), List.length_cons]; omega
/-! what must be answered ahead -/
def f11W : List UInt8 := 7 :: List.replicate 63 0
def f11M : Hd := [((3 : Int), (f11W, true))]
def f11N : Hd := [((3 : Int), (f11W, false))]
def f11V : DevV := savedV f11M (newV 8) 2
theorem f11_K : PKey f11M 4 := ⟨by simp [f11M, Srt], by simp [f11M], by simp [f11M, f11W]⟩
theorem f11_s : psaveV f11M (newV 8) 8 2 = ((f11N, f11V), 0) := psave_good f11_K ⟨rfl, rfl⟩ (by decide)
theorem f11_w : f11V.Wf 8 := saved_wf f11_K (newV_wf 8) (by decide)
theorem f11_g : pgetV [] f11V 8 2 4 3 = (f11W, 0) := by
  have := pget_good (M := []) (v := f11V) (sz := 8) (fr := 2) (B := 4) (k := 3) ⟨rfl, rfl⟩ f11_w (by decide) (by decide)
  refine this.trans (Prod.ext ?_ rfl)
  have h := saved_in f11_K (newV_wf 8) (fr := 2) (by decide) (by intro t ht hc; rw [f11M, List.mem_singleton] at ht; subst ht; cases hc) (k := 3) (by decide)
  exact h
theorem f11_i : pimV [] f11V 8 2 4 = (imgL [] f11V 2 4, 0) := pim_good ⟨rfl, rfl⟩ f11_w (by decide)
theorem f11_il : (imgL [] f11V 2 4).length = 256 := by
  unfold imgL
  rw [flat_len]
  · rfl
  · intro b hb
    obtain ⟨k, hk, rfl⟩ := List.mem_map.1 hb
    have := pget_good (M := []) (v := f11V) (sz := 8) (fr := 2) (B := 4) (k := k) ⟨rfl, rfl⟩ f11_w (by decide) (List.mem_range.1 hk)
    have h2 := pget_64 (M := []) (v := f11V) (sz := 8) (fr := 2) (B := 4) (n := (k : Int)) f11_w (by simp) (by rw [this])
    rw [this] at h2; exact h2
end Brv
/-
  The walks of package pool.
-/
set_option linter.unusedVariables false
set_option linter.unusedSimpArgs false
set_option maxRecDepth 4000
namespace Go.Proofs.Ytmbppidafnakhaa
open Go Brv Brv.Image Brv.Dev
/-- A pool, what is in hand told. -/
def plA (p d fr B : Nat) (M : Hd) : Asn := pk (fun i : {i : Nat × List (Int × HdV) // absP i.2 = M} => [blk p [.pointer (some ⟨d, 0, none⟩), .int .i64 (fr : Int), .int .i64 (B : Int), .pointer (some ⟨i.1.1, 0, none⟩)] 78, mp (κ := Int) 110 114 2 i.1.1 (psP i.1.2), sh (fun w => ∀ t ∈ i.1.2, HdV.ok w t.2)])
theorem pl_close {p d fr B m : Nat} {hd : List (Int × HdV)} {M : Hd} (h : absP hd = M) (K : List Asn) : Imp (blk p [.pointer (some ⟨d, 0, none⟩), .int .i64 (fr : Int), .int .i64 (B : Int), .pointer (some ⟨m, 0, none⟩)] 78 :: mp (κ := Int) 110 114 2 m (psP hd) :: sh (fun w => ∀ t ∈ hd, HdV.ok w t.2) :: K) (plA p d fr B M :: K) := Imp.close (A := (fun i : {i : Nat × List (Int × HdV) // absP i.2 = M} => [blk p [.pointer (some ⟨d, 0, none⟩), .int .i64 (fr : Int), .int .i64 (B : Int), .pointer (some ⟨i.1.1, 0, none⟩)] 78, mp (κ := Int) 110 114 2 i.1.1 (psP i.1.2), sh (fun w => ∀ t ∈ i.1.2, HdV.ok w t.2)])) ⟨⟨m, hd⟩, h⟩ K
theorem abs_key {hd : List (Int × HdV)} {B : Nat} (h : PKey (absP hd) B) : ∀ t ∈ hd, 0 ≤ t.1 ∧ t.1 < (B : Int) := fun t ht => h.key (t.1, (t.2.d, t.2.t)) (List.mem_map.2 ⟨t, ht, rfl⟩)

theorem pgetS (p d sz fr B : Nat) (vv : DevV) (M : Hd) (n : Int) (hl : M.length ≤ 10000) (hfr : fr ≤ 4096) (hB : B ≤ 64) (hwb : vv.wt.length ≤ 1000000) : SpecS Try.prog 19 [.pointer (some ⟨p, 0, none⟩), .int .i64 n] (plA p d fr B M :: dvA d vv sz :: []) (fun v H' => ∃ a c, v = .tuple #[.slice a (pgetV M vv sz fr B n).1.length c, .int .i64 (pgetV M vv sz fr B n).2] ∧ H' = [own 5 1 a (pgetV M vv sz fr B n).1.length c (vbs (pgetV M vv sz fr B n).1), plA p d fr B M, dvA d vv sz]) :=
  SpecS.opened fun ⟨⟨m, hd⟩, hM⟩ => by
    subst hM
    have hl' : hd.length ≤ 10000 := by rw [← absP_len]; exact hl
    exact SpecS.closed (pget_ok p d m sz fr B vv hd n hfr hB hl' hwb) fun v H' ⟨a, c, h1, h3⟩ => ⟨_, by rw [h3]; exact Imp.under (pl_close rfl _), a, c, h1, rfl⟩

theorem pputS (p d sz fr B : Nat) (vv : DevV) (M : Hd) (a : Option Addr) (n c : Nat) (ws : List WriteV) (hl : M.length ≤ 10000) (hn : n ≤ 10000) : SpecS Try.prog 9 [.pointer (some ⟨p, 0, none⟩), .slice a n c] (plA p d fr B M :: dvA d vv sz :: [sh (fun w => WsP w a n ws)]) (fun v H' => v = .int .i64 (pwsE B (ws.map wv)) ∧ H' = [plA p d fr B (pputV M B (ws.map wv)), dvA d vv sz]) :=
  SpecS.opened fun ⟨⟨m, hd⟩, hM⟩ => by
    subst hM
    have hl' : hd.length ≤ 10000 := by rw [← absP_len]; exact hl
    exact SpecS.closed (pput_ok p d m sz fr B vv hd a n c ws hn hl') fun v H' ⟨hd2, h1, h2, h3⟩ => ⟨_, by rw [h3]; exact pl_close h2 _, h1, rfl⟩

theorem pdirtyS (p d sz fr B : Nat) (vv : DevV) (M : Hd) (hl : M.length ≤ 10000) : SpecS Try.prog 13 [.pointer (some ⟨p, 0, none⟩)] (plA p d fr B M :: dvA d vv sz :: []) (fun v H' => ∃ a c, v = .slice a (dirtyL M).length c ∧ H' = [own 3 1 a (dirtyL M).length c ((dirtyL M).map (Value.int .i64)), plA p d fr B M, dvA d vv sz]) :=
  SpecS.opened fun ⟨⟨m, hd⟩, hM⟩ => by
    subst hM
    have hl' : hd.length ≤ 10000 := by rw [← absP_len]; exact hl
    exact SpecS.closed (pdirty_ok p d m sz fr B vv hd hl') fun v H' ⟨a, c, h1, h3⟩ => ⟨_, by rw [h3]; exact Imp.under (pl_close rfl _), a, c, h1, rfl⟩

theorem psaveS (p d sz fr B : Nat) (vv : DevV) (M : Hd) (hl : M.length ≤ 10000) (hfr : fr ≤ 4096) (hB : B ≤ 64) (hK : PKey M B) (hcb : 0 ≤ vv.calls ∧ vv.calls ≤ 100000000) (hwb : vv.wt.length ≤ 100000) : SpecS Try.prog 10 [.pointer (some ⟨p, 0, none⟩)] (plA p d fr B M :: dvA d vv sz :: []) (fun v H' => v = .int .i64 (psaveV M vv sz fr).2 ∧ H' = [plA p d fr B (psaveV M vv sz fr).1.1, dvA d (psaveV M vv sz fr).1.2 sz]) :=
  SpecS.opened fun ⟨⟨m, hd⟩, hM⟩ => by
    subst hM
    have hl' : hd.length ≤ 10000 := by rw [← absP_len]; exact hl
    exact SpecS.closed (psave_okS p d m sz fr B vv hd hfr hB (abs_key hK) hl' hcb hwb) fun v H' ⟨hd2, h1, h2, h3⟩ => ⟨_, by rw [h3]; exact pl_close h2 _, h1, rfl⟩

theorem pdropS (p d sz fr B : Nat) (vv : DevV) (M : Hd) (hl : M.length ≤ 10000) : SpecS Try.prog 16 [.pointer (some ⟨p, 0, none⟩)] (plA p d fr B M :: dvA d vv sz :: []) (fun v H' => v = .tuple #[] ∧ H' = [plA p d fr B [], dvA d vv sz]) :=
  SpecS.opened fun ⟨⟨m, hd⟩, hM⟩ => by
    subst hM
    have hl' : hd.length ≤ 10000 := by rw [← absP_len]; exact hl
    exact SpecS.closed (pdrop_ok p d m sz fr B vv hd) fun v H' ⟨m', h1, h3⟩ => ⟨_, by rw [h3]; exact pl_close (hd := []) rfl _, h1, rfl⟩

theorem pimageS (p d sz fr B : Nat) (vv : DevV) (M : Hd) (hl : M.length ≤ 10000) (hfr : fr ≤ 4096) (hB1 : 1 ≤ B) (hB : B ≤ 64) (hK : PKey M B) (hwb : vv.wt.length ≤ 1000000) : SpecS Try.prog 11 [.pointer (some ⟨p, 0, none⟩)] (plA p d fr B M :: dvA d vv sz :: []) (fun v H' => ∃ q, v = .tuple #[.pointer q, .int .i64 (pimV M vv sz fr B).2] ∧ H' = [sh (fun w => DiskO w q (pimV M vv sz fr B).1), plA p d fr B M, dvA d vv sz]) :=
  SpecS.opened fun ⟨⟨m, hd⟩, hM⟩ => by
    subst hM
    have hl' : hd.length ≤ 10000 := by rw [← absP_len]; exact hl
    exact SpecS.closed (pimage_ok p d m sz fr B vv hd hfr hB1 hB hK.len hl' hwb) fun v H' ⟨q, h1, h3⟩ => ⟨_, by rw [h3]; exact Imp.under (pl_close rfl _), q, h1, rfl⟩

theorem pnewS (d sz fr B : Nat) (vv : DevV) (h1 : 1 ≤ B) (h2 : B ≤ 64) (h3 : fr + B ≤ sz) (h4 : sz ≤ 4096) : SpecS Try.prog 8 [.pointer (some ⟨d, 0, none⟩), .int .i64 (fr : Int), .int .i64 (B : Int)] [dvA d vv sz] (fun v H' => ∃ p, v = .tuple #[.pointer (some ⟨p, 0, none⟩), .int .i64 0] ∧ H' = [plA p d fr B [], dvA d vv sz]) :=
  SpecS.closed (pnew_ok d sz fr B vv h1 h2 h3 h4) fun v H' ⟨p, m', h1, h3⟩ => ⟨_, by rw [h3]; exact pl_close (hd := []) rfl _, p, h1, rfl⟩
theorem ws_one {H H1 H2 : List Asn} {b1 : Nat} {z : WriteV} {T : TypeId} (hb : Sel H (blk b1 (WriteV.cells z) T) H1) (hs : Sel H1 (bs z.B'a z.B'n z.B') H2) : Imp H (sh (fun w => WsP w (some ⟨b1, 0, none⟩) 1 [z]) :: H2) :=
  (Imp.blkSh (p := fun w => Cells w (some ⟨b1, 0, none⟩) (WriteV.cells z)) hb (fun w h => Cells.of_blk h 0 _ (fun j v hj => by simpa using hj))).trans ((Imp.both .here hs).trans (Imp.weak .here fun w h => ⟨⟨by simpa using h.1, rfl, fun vs hv => by simp at hv; subst hv; rfl⟩, fun x hx => by rw [List.mem_singleton.1 hx]; exact h.2⟩))

end Go.Proofs.Ytmbppidafnakhaa
/-
  The document's pool: its arrays.
-/
set_option linter.unusedVariables false
set_option linter.unusedSimpArgs false
namespace Brv
open Go Brv.Image Brv.Dev
def flagH (M : Hd) (k : Int) : Bool := ((getT M k).getD ([], false)).2
def handC (M : Hd) (B : Nat) : List Value := (List.range B).map fun (i : Nat) => .string (str (valH M (i : Int)))
def dirtC (M : Hd) (B : Nat) : List Value := (List.range B).map fun (i : Nat) => .bool (flagH M (i : Int))
theorem handC_len (M : Hd) (B : Nat) : (handC M B).length = B := by simp [handC]
theorem dirtC_len (M : Hd) (B : Nat) : (dirtC M B).length = B := by simp [dirtC]
theorem handC_get {M : Hd} {B i : Nat} (h : i < B) : (handC M B)[i]? = some (.string (str (valH M (i : Int)))) := by simp [handC, h]
theorem dirtC_get {M : Hd} {B i : Nat} (h : i < B) : (dirtC M B)[i]? = some (.bool (flagH M (i : Int))) := by simp [dirtC, h]
theorem handC_one (M : Hd) (B : Nat) : ∀ u ∈ handC M B, u.oneCell' = true := by
  intro u hu
  obtain ⟨i, _, rfl⟩ := List.mem_map.1 hu
  rfl
theorem dirtC_one (M : Hd) (B : Nat) : ∀ u ∈ dirtC M B, u.oneCell' = true := by
  intro u hu
  obtain ⟨i, _, rfl⟩ := List.mem_map.1 hu
  rfl
theorem valH_put {M : Hd} (hs : Srt M) (k : Int) (x : List UInt8 × Bool) (j : Int) : valH (putT M k x) j = if j = k then x.1 else valH M j := by
  unfold valH
  rw [getT_put hs]
  by_cases h : j = k
  · rw [if_pos h, if_pos h]; rfl
  · rw [if_neg h, if_neg h]
theorem flagH_put {M : Hd} (hs : Srt M) (k : Int) (x : List UInt8 × Bool) (j : Int) : flagH (putT M k x) j = if j = k then x.2 else flagH M j := by
  unfold flagH
  rw [getT_put hs]
  by_cases h : j = k
  · rw [if_pos h, if_pos h]; rfl
  · rw [if_neg h, if_neg h]
theorem handC_put {M : Hd} (hs : Srt M) {k B : Nat} (x : List UInt8 × Bool) : (handC M B).set k (.string (str x.1)) = handC (putT M (k : Int) x) B := by
  refine List.ext_getElem? fun i => ?_
  rw [List.getElem?_set]
  by_cases hi : i < B
  · rw [handC_get hi, handC_get hi, valH_put hs, handC_len]
    by_cases e : k = i
    · subst e; rw [if_pos rfl, if_pos hi, if_pos rfl]
    · rw [if_neg e, if_neg (by omega)]
  · rw [handC_len]
    have h1 : (handC M B)[i]? = none := List.getElem?_eq_none (by rw [handC_len]; omega)
    have h2 : (handC (putT M (k : Int) x) B)[i]? = none := List.getElem?_eq_none (by rw [handC_len]; omega)
    rw [h1, h2]
    split
    · rename_i e; subst e; rw [if_neg hi]
    · rfl
theorem dirtC_put {M : Hd} (hs : Srt M) {k B : Nat} (x : List UInt8 × Bool) : (dirtC M B).set k (.bool x.2) = dirtC (putT M (k : Int) x) B := by
  refine List.ext_getElem? fun i => ?_
  rw [List.getElem?_set]
  by_cases hi : i < B
  · rw [dirtC_get hi, dirtC_get hi, flagH_put hs, dirtC_len]
    by_cases e : k = i
    · subst e; rw [if_pos rfl, if_pos hi, if_pos rfl]
    · rw [if_neg e, if_neg (by omega)]
  · rw [dirtC_len]
    have h1 : (dirtC M B)[i]? = none := List.getElem?_eq_none (by rw [dirtC_len]; omega)
    have h2 : (dirtC (putT M (k : Int) x) B)[i]? = none := List.getElem?_eq_none (by rw [dirtC_len]; omega)
    rw [h1, h2]
    split
    · rename_i e; subst e; rw [if_neg hi]
    · rfl
theorem handC_nil (B : Nat) : handC [] B = List.replicate B (.string (str [])) := by
  refine List.ext_getElem? fun i => ?_
  by_cases hi : i < B
  · rw [handC_get hi, List.getElem?_replicate, if_pos hi]; rfl
  · rw [List.getElem?_eq_none (by rw [handC_len]; omega), List.getElem?_replicate, if_neg hi]
theorem dirtC_nil (B : Nat) : dirtC [] B = List.replicate B (.bool false) := by
  refine List.ext_getElem? fun i => ?_
  by_cases hi : i < B
  · rw [dirtC_get hi, List.getElem?_replicate, if_pos hi]; rfl
  · rw [List.getElem?_eq_none (by rw [dirtC_len]; omega), List.getElem?_replicate, if_neg hi]
theorem handC_clean {M : Hd} (hs : Srt M) (B : Nat) : handC (clean M (dirtyL M)) B = handC M B := by
  refine List.map_congr_left fun i _ => ?_
  have h2 := (clean_get (dirtyL M) M hs).2 (i : Int)
  congr 2
  unfold valH
  rw [h2]
  split
  · unfold valH; rfl
  · rfl
theorem dirtC_clean {M : Hd} (hs : Srt M) (B : Nat) : dirtC (clean M (dirtyL M)) B = List.replicate B (.bool false) := by
  rw [← dirtC_nil]
  refine List.map_congr_left fun i _ => ?_
  have h2 := (clean_get (dirtyL M) M hs).2 (i : Int)
  congr 1
  unfold flagH
  rw [h2]
  split
  · rfl
  · rename_i hn
    cases hg : getT M (i : Int) with
    | none => rfl
    | some x =>
      obtain ⟨x, f⟩ := x
      cases f with
      | false => rfl
      | true => exact (hn ((dirty_iff hs).2 ⟨x, hg⟩)).elim
theorem hand_some {M : Hd} {B : Nat} (h : PKey M B) {k : Int} : (∃ x, getT M k = some x ∧ valH M k = x.1 ∧ valH M k ≠ []) ∨ (getT M k = none ∧ valH M k = []) := by
  unfold valH
  cases hg : getT M k with
  | none => exact .inr ⟨rfl, rfl⟩
  | some x =>
    refine .inl ⟨x, rfl, rfl, fun e => ?_⟩
    have := h.len (k, x) (getT_some hg)
    have e : x.1 = [] := e
    rw [show ((k, x) : Int × (List UInt8 × Bool)).2.1 = x.1 from rfl, e] at this
    cases this
/-- Two rising lists with the same members are one. -/
theorem rise_eq : ∀ {a b : List Int}, a.Pairwise (· < ·) → b.Pairwise (· < ·) → (∀ k, k ∈ a ↔ k ∈ b) → a = b := by
  intro a
  induction a with
  | nil =>
    intro b _ _ h
    exact (List.eq_nil_iff_forall_not_mem.2 fun k hk => by have := (h k).2 hk; cases this).symm
  | cons x a ih =>
    intro b ha hb h
    rw [List.pairwise_cons] at ha
    cases b with
    | nil => have := (h x).1 (by simp); cases this
    | cons y b =>
      rw [List.pairwise_cons] at hb
      have hxy : x = y := by
        rcases List.mem_cons.1 ((h x).1 (by simp)) with e | e
        · exact e
        · rcases List.mem_cons.1 ((h y).2 (by simp)) with e2 | e2
          · exact e2.symm
          · have h1 := hb.1 x e; have h2 := ha.1 y e2; omega
      subst hxy
      congr 1
      refine ih ha.2 hb.2 fun k => ?_
      constructor
      · intro hk
        rcases List.mem_cons.1 ((h k).1 (by simp [hk])) with e | e
        · subst e; have := ha.1 k hk; omega
        · exact e
      · intro hk
        rcases List.mem_cons.1 ((h k).2 (by simp [hk])) with e | e
        · subst e; have := hb.1 k hk; omega
        · exact e
theorem dirtyL_range {M : Hd} {B : Nat} (h : PKey M B) : dirtyL M = ((List.range B).filter (fun (i : Nat) => flagH M (i : Int))).map (fun (i : Nat) => (i : Int)) := by
  refine rise_eq ?_ ?_ fun k => ?_
  · unfold dirtyL
    have hs := h.srt
    unfold Srt at hs
    rw [List.pairwise_map]
    exact hs.filter _
  · rw [List.pairwise_map]
    exact (List.pairwise_lt_range.filter _).imp fun h => by omega
  · rw [dirty_iff h.srt]
    constructor
    · rintro ⟨x, hx⟩
      have hk := h.key (k, (x, true)) (getT_some hx)
      refine List.mem_map.2 ⟨k.toNat, List.mem_filter.2 ⟨List.mem_range.2 (by have := hk.2; have := hk.1; show k.toNat < B; omega), ?_⟩, by have := hk.1; show ((k.toNat : Nat) : Int) = k; omega⟩
      have e : ((k.toNat : Nat) : Int) = k := by have := hk.1; show ((k.toNat : Nat) : Int) = k; omega
      rw [e]; unfold flagH; rw [hx]; rfl
    · intro hk
      obtain ⟨i, hi, rfl⟩ := List.mem_map.1 hk
      have hf := (List.mem_filter.1 hi).2
      unfold flagH at hf
      cases hg : getT M (i : Int) with
      | none => rw [hg] at hf; cases hf
      | some x =>
        obtain ⟨x, f⟩ := x
        rw [hg] at hf
        cases f with
        | false => cases hf
        | true => exact ⟨x, rfl⟩
/-- The dirty ones among the first. -/
def dirtN (M : Hd) (j : Nat) : List Int := ((List.range j).filter (fun (i : Nat) => flagH M (i : Int))).map (fun (i : Nat) => (i : Int))
theorem dirtN_succ (M : Hd) (j : Nat) : dirtN M (j + 1) = dirtN M j ++ if flagH M (j : Int) then [(j : Int)] else [] := by
  unfold dirtN
  rw [List.range_succ, List.filter_append, List.map_append]
  simp only [List.filter_cons, List.filter_nil]
  split <;> rfl
theorem dirtN_le (M : Hd) (j : Nat) : (dirtN M j).length ≤ j := by
  unfold dirtN
  rw [List.length_map]
  exact Nat.le_trans (List.length_filter_le _ _) (by simp)
theorem svL_snoc (M : Hd) (v : DevV) (sz fr : Nat) (ks : List Int) (k : Int) : svL M v sz fr (ks ++ [k]) = svS M sz fr (svL M v sz fr ks) k := by
  unfold svL; rw [List.foldl_append]; rfl
theorem withF_pws {B : Nat} (ws : List Wr) : ∀ {x : List UInt8}, x.length = 64 * B → (withF x ws).2 = pwsE B ws := by
  induction ws with
  | nil => intro x _; rfl
  | cons w ws ih =>
    intro x hx
    have hd : dn x = B := dn_of hx
    rw [pwsE]
    by_cases h1 : w.1 < 0 ∨ (dn x : Int) ≤ w.1
    · rw [withF_blk h1]
      have e : pwE B w = 41 := h1.elim (fun h => pwE_lo h) (fun h => pwE_hi (by rw [hd] at h; exact h))
      rw [e, if_neg (by decide)]
    · by_cases h2 : w.2.length = 64
      · rw [withF_next h1 h2, ih ((laid_length h2 (by omega)).trans hx)]
        rw [if_pos (pwE_ok (by omega) (by rw [hd] at h1; omega) h2)]
      · rw [withF_size h1 h2]
        have e : pwE B w = 42 := pwE_sz (by omega) (by rw [hd] at h1; omega) h2
        rw [e, if_neg (by decide)]
theorem psave_bd {M : Hd} {v : DevV} {sz fr B : Nat} (h : PKey M B) : v.calls ≤ (psaveV M v sz fr).1.2.calls ∧ (psaveV M v sz fr).1.2.calls ≤ v.calls + ((B + 1 : Nat) : Int) ∧ (psaveV M v sz fr).1.2.wt.length ≤ v.wt.length + B := by
  have key : ∀ (ks : List Int) (r : DevV × Int), (∀ k ∈ ks, (valH M k).length = 64) → r.1.calls ≤ (ks.foldl (svS M sz fr) r).1.calls ∧ (ks.foldl (svS M sz fr) r).1.calls ≤ r.1.calls + (ks.length : Int) ∧ (ks.foldl (svS M sz fr) r).1.wt.length ≤ r.1.wt.length + ks.length := by
    intro ks
    induction ks with
    | nil => intro r _; exact ⟨Int.le_refl _, by simp, Nat.le_refl _⟩
    | cons k ks ih =>
      intro r hk
      rw [List.foldl_cons]
      obtain ⟨h1, h2, h3⟩ := ih (svS M sz fr r k) (fun x hx => hk x (by simp [hx]))
      have hs : r.1.calls ≤ (svS M sz fr r k).1.calls ∧ (svS M sz fr r k).1.calls ≤ r.1.calls + 1 ∧ (svS M sz fr r k).1.wt.length ≤ r.1.wt.length + 1 := by
        unfold svS
        split
        · have hb := writeV_bd r.1 sz ((fr : Int) + k) (valH M k)
          rw [dn_64 (hk k (by simp))] at hb
          exact ⟨hb.1, hb.2.1, hb.2.2⟩
        · exact ⟨Int.le_refl _, by omega, by omega⟩
      rw [List.length_cons]
      exact ⟨by omega, by omega, by omega⟩
  obtain ⟨h1, h2, h3⟩ := key (dirtyL M) (v, 0) (fun k hk => valH_len h hk)
  have hd : (dirtyL M).length ≤ B := Nat.le_trans (dirtyL_le M) h.few
  have hf := flushV_bd (svL M v sz fr (dirtyL M)).1
  have e : ∀ x : DevV × Int, svL M v sz fr (dirtyL M) = x → (dirtyL M).foldl (svS M sz fr) (v, 0) = x := fun x hx => hx
  have h4 : v.calls ≤ (svL M v sz fr (dirtyL M)).1.calls ∧ (svL M v sz fr (dirtyL M)).1.calls ≤ v.calls + (B : Int) ∧ (svL M v sz fr (dirtyL M)).1.wt.length ≤ v.wt.length + B := ⟨h1, by have : (svL M v sz fr (dirtyL M)).1.calls ≤ v.calls + ((dirtyL M).length : Int) := h2; omega, by have : (svL M v sz fr (dirtyL M)).1.wt.length ≤ v.wt.length + (dirtyL M).length := h3; omega⟩
  obtain ⟨f1, f2, f3⟩ := hf
  unfold psaveV
  split
  · exact ⟨h4.1, by dsimp only; omega, h4.2.2⟩
  split
  · exact ⟨by dsimp only; omega, by dsimp only; omega, by dsimp only; omega⟩
  · exact ⟨by dsimp only; omega, by dsimp only; omega, by dsimp only; omega⟩
end Brv
/-
  The walks of package pool.
-/
set_option linter.unusedVariables false
set_option linter.unusedSimpArgs false
set_option maxRecDepth 4000
namespace Go.Proofs.Ytmbppidafnakhaa
open Go Brv Brv.Image Brv.Dev
theorem RefAt.extS {w w' : World} {wt : List (Nat × List UInt8)} {wa : Option Addr} {M : List Nat} (h : RefAt w wt wa) (he : Ext M w w') (hn : ∀ p, wa = some p → p.block ∉ M) : RefAt w' wt wa :=
  ⟨⟨h.1.cells.ext he hn, h.1.len, h.1.each⟩, fun p hp => let ⟨cs, hb⟩ := h.2 p hp; ⟨cs, hb.ext he (hn p hp)⟩⟩
theorem RefAt.inS {w : World} {wt : List (Nat × List UInt8)} {wa : Option Addr} {S1 : List Nat} (h : ∀ M w', Ext M w w' → Apart S1 M → RefAt w' wt wa) : ∀ p, wa = some p → p.block ∈ S1 := by
  intro p hp
  refine Classical.byContradiction fun hn => ?_
  obtain ⟨cs, hb⟩ := (h [] w (Ext.refl _ _) (Apart.nilR _)).2 p hp
  obtain ⟨cs2, hb2⟩ := (h [p.block] (w.putObj p.block (.deferred none)) (Ext.putObj w _ _) (fun z hz hz2 => hn (by rw [← List.mem_singleton.1 hz2]; exact hz))).2 p hp
  have hlt := hb.lt
  have e : (w.putObj p.block (.deferred none)).heap[p.block]? = some (.deferred none) := World.putObj_heap_same hlt
  have e2 : (w.putObj p.block (.deferred none)).heap[p.block]? = some (.cells cs2 106 (0, 0)) := hb2
  rw [e] at e2
  cases e2
/-- A contract by which the document's device goes over into another one. -/
theorem refS {f : FuncId} {vs : List Value} {wt wt2 : List (Nat × List UInt8)} {wa : Option Addr} {φ : Value → Option Addr → Nat → Prop} {q : World → Prop}
    (h : ∀ w, RefAt w wt wa → q w → Meets Try.prog f vs w (fun r w' => ∃ wa' wc', φ r wa' wc' ∧ Ext [] w w' ∧ RefAt w' wt2 wa' ∧ (wa' = wa ∨ ∀ p, wa' = some p → w.heap.size ≤ p.block))) :
    SpecS Try.prog f vs [sh (fun w => RefAt w wt wa), sh q] (fun r H' => ∃ wa' wc', φ r wa' wc' ∧ H' = [sh (fun w => RefAt w wt2 wa')]) := fun w F S st => by
  obtain ⟨F1, S1, F2, S2, ⟨_, _, c, d⟩, _, hR, F3, S3, _, _, ⟨_, _, c3, _⟩, _, hq, _⟩ := st.sep
  refine (h w (hR [] w (Ext.refl _ _) (Apart.nilR _)) (hq [] w (Ext.refl _ _) (Apart.nilR _))).mono ?_
  rintro r w' ⟨wa', wc', h1, he, hr, hor⟩
  rcases hor with rfl | hfr
  · have hin := RefAt.inS hR
    exact ⟨_, [], S1, ⟨wa', wc', h1, rfl⟩, st_one (A := sh (fun w => RefAt w wt2 wa')) (fun M w'' he' hA => hr.extS he' (fun p hp => hA _ (hin p hp))) (by simp) (fun b hb => Nat.lt_of_lt_of_le (st.ltS b (c hb)) he.size), ⟨he.mono (by simp), by simp, fun x hx => .inl (c hx)⟩⟩
  · cases hwa : wa' with
    | none => exact ⟨_, [], [], ⟨none, wc', hwa ▸ h1, rfl⟩, st_one (A := sh (fun w => RefAt w wt2 none)) (fun M w'' he' hA => (hwa ▸ hr).extS he' (fun p hp => by cases hp)) (by simp) (by simp), ⟨he.mono (by simp), by simp, by simp⟩⟩
    | some p =>
      obtain ⟨cs, hb⟩ := hr.2 p hwa
      have hlt := hb.lt
      have hge := hfr p hwa
      exact ⟨_, [], [p.block], ⟨some p, wc', hwa ▸ h1, rfl⟩, st_one (A := sh (fun w => RefAt w wt2 (some p))) (fun M w'' he' hA => (hwa ▸ hr).extS he' (fun p' hp => by cases hp; exact hA _ (by simp))) (by simp) (fun b hb => by rw [List.mem_singleton.1 hb]; exact hlt), ⟨he.mono (by simp), by simp, fun x hx => by rw [List.mem_singleton.1 hx]; exact .inr (.inr hge)⟩⟩
theorem _root_.Brv.St.left {H H' : List Asn} {b : Nat} {cs vs rest : List Value} {T : TypeId} {F S : List Nat} {w : World} (s : St H F S w) (h : Sel H (Brv.blk b cs T) H') (e : vs ++ rest = cs) : Cells w (some ⟨b, 0, none⟩) vs := by
  have hc : Cells w (some ⟨b, 0, none⟩) cs := s.blkC h
  subst e
  intro j v hj
  exact hc j v (by rw [List.getElem?_append_left (List.getElem?_eq_some_iff.1 hj).1]; exact hj)
theorem rwriteS (vv : DevV) (sz : Nat) (wa : Option Addr) (wc : Nat) (p : Int) (ba : Option Addr) (bn bc : Nat) (l : List UInt8) (hwf : vv.Wf sz) (hz : sz ≤ 4096) (hcb : 0 ≤ vv.calls ∧ vv.calls ≤ 1000000000) (hwb : vv.wt.length ≤ 1000000) (hbc : bn ≤ bc) (hbn : bn ≤ 100000) :
    SpecS Try.prog 45 [.agg (rdC vv wa wc), .int .i64 p, .slice ba bn bc] [sh (fun w => RefAt w vv.wt wa), sh (fun w => Bs w ba bn l)] (fun r H' => ∃ wa' wc', r = .tuple #[.agg (rdC (writeV vv sz p l).1 wa' wc'), .int .i64 (writeV vv sz p l).2] ∧ H' = [sh (fun w => RefAt w (writeV vv sz p l).1.wt wa')]) :=
  refS fun w h1 h2 => rdwrite_okF vv sz wa wc p ba bn bc l w hwf hz h1 hcb hwb h2 hbc hbn
theorem rflushS (vv : DevV) (sz : Nat) (wa : Option Addr) (wc : Nat) (hwf : vv.Wf sz) (hz : sz ≤ 4096) (hcb : 0 ≤ vv.calls ∧ vv.calls ≤ 1000000000) (hwb : vv.wt.length ≤ 1000000) :
    SpecS Try.prog 46 [.agg (rdC vv wa wc)] [sh (fun w => RefAt w vv.wt wa), sh (fun w => True)] (fun r H' => ∃ wa' wc', r = .tuple #[.agg (rdC (flushV vv).1 wa' wc'), .int .i64 (flushV vv).2] ∧ H' = [sh (fun w => RefAt w (flushV vv).1.wt wa')]) :=
  refS fun w h1 _ => rdflush_okF vv sz wa wc w hwf hz h1 hcb hwb
theorem hand_pt {w : World} {a : Option Addr} {M : Hd} {B i : Nat} (h : Cells w a (handC M B)) (hi : i < B) : ∃ q, a = some q :=
  let ⟨q, hq, _⟩ := h i _ (handC_get hi); ⟨q, hq⟩
theorem hand_ld {w : World} {a : Option Addr} {M : Hd} {B i : Nat} {q : Addr} (h : Cells w a (handC M B)) (hq : a = some q) (hi : i < B) : w.cell? (q.add ((i : Int).toNat * 1)) = some (.string (str (valH M (i : Int)))) := by
  obtain ⟨p, hp, hc⟩ := h i _ (handC_get hi)
  rw [hq] at hp; cases hp
  rw [Int.toNat_natCast, Nat.mul_one]; exact hc
theorem dirt_pt {w : World} {a : Option Addr} {M : Hd} {B i : Nat} (h : Cells w a (dirtC M B)) (hi : i < B) : ∃ q, a = some q :=
  let ⟨q, hq, _⟩ := h i _ (dirtC_get hi); ⟨q, hq⟩
theorem dirt_ld {w : World} {a : Option Addr} {M : Hd} {B i : Nat} {q : Addr} (h : Cells w a (dirtC M B)) (hq : a = some q) (hi : i < B) : w.cell? (q.add ((i : Int).toNat * 1)) = some (.bool (flagH M (i : Int))) := by
  obtain ⟨p, hp, hc⟩ := h i _ (dirtC_get hi)
  rw [hq] at hp; cases hp
  rw [Int.toNat_natCast, Nat.mul_one]; exact hc
theorem rgPost {M : Hd} {vv : DevV} {sz fr B : Nat} {n : Int} {l : List UInt8} {e : Int} {K : List Asn} (h : pgetV M vv sz fr B n = (l, e)) (hK : K = []) : Value.tuple #[.string (str l), .int .i64 e] = .tuple #[.string (str (pgetV M vv sz fr B n).1), .int .i64 (pgetV M vv sz fr B n).2] ∧ K = [] := by
  rw [h]; exact ⟨rfl, hK⟩

theorem rpget_ok (fr B sz : Nat) (vv : DevV) (M : Hd) (wa : Option Addr) (wc : Nat) (ha : Option Addr) (hc : Nat) (da : Option Addr) (dc : Nat) (n : Int) (hK : PKey M B) (hB : B ≤ 64) (hfr : fr ≤ 4096) (hwf : vv.Wf sz) (hz : sz ≤ 4096) (hwb : vv.wt.length ≤ 1000000) : SpecS Try.prog 21 [.agg ([.string (str vv.stay), .slice wa vv.wt.length wc, .int .i64 vv.calls, .int .i64 vv.left, .bool vv.off, .int .i64 (fr : Int), .slice ha B hc, .slice da B dc]).toArray, .int .i64 n] [sh (fun w => RefAt w vv.wt wa), sh (fun w => Cells w ha (handC M B)), sh (fun w => Cells w da (dirtC M B))] (fun v H' => v = .tuple #[.string (str (pgetV M vv sz fr B n).1), .int .i64 (pgetV M vv sz fr B n).2] ∧ H' = []) := by
  refine SpecS.enter Try.func21 rfl 35 rfl (Nat.le_of_ble_eq_true rfl) (fun o => ?_)
  refine SG.seq ?_
  refine SG.region ?_
  refine SL.step rfl rfl (CS.boxA rfl) ?_
  rintro _ _ ⟨b2, rfl, rfl⟩
  refine SL.val rfl rfl (fun w9 F9 S9 s => R.as rfl) ?_
  refine SL.val rfl rfl (fun w9 F9 S9 s => R.as rfl) ?_
  refine SL.nil ?_
  refine SN.seq ?_
  refine SG.seq ?_
  refine SG.seq ?_
  refine SG.region ?_
  refine SL.val rfl rfl (fun w9 F9 S9 s => R.mv rfl) ?_
  refine SL.val rfl rfl (fun w9 F9 S9 s => R.lss rfl rfl) ?_
  refine SL.val rfl rfl (fun w9 F9 S9 s => R.mv rfl) ?_
  refine SL.caseP 8 rfl (fun hg1_2 => ?_) (fun hg1_2 => ?_)
  · refine SL.pass rfl rfl ?_
    refine SL.pass rfl rfl ?_
    refine SL.pass rfl rfl ?_
    refine SL.pass rfl rfl ?_
    refine SL.pass rfl rfl ?_
    first | refine SL.val rfl rfl (fun w9 F9 S9 s => R.pickT rfl rfl) ?_ | refine SL.val rfl rfl (fun w9 F9 S9 s => R.pickF rfl rfl) ?_
    refine SL.nil ?_
    refine SN.seq ?_
    refine SG.condT rfl ?_
    refine SG.seq ?_
    refine SG.region ?_
    refine SL.val rfl rfl (fun w9 F9 S9 s => R.as rfl) ?_
    refine SL.val rfl rfl (fun w9 F9 S9 s => R.as rfl) ?_
    refine SL.nil ?_
    refine SN.seq ?_
    exact SG.ret2 rfl rfl rfl (Imp.sels Sels.nil) (rgPost (pget_out (inP_lo hg1_2)) rfl)
  · refine SL.val rfl rfl (fun w9 F9 S9 s => R.mv rfl) ?_
    refine SL.val rfl rfl (fun w9 F9 S9 s => R.fld rfl) ?_
    refine SL.val rfl rfl (fun w9 F9 S9 s => R.ldB (v := .slice ha B hc) rfl (s.cel (by repeat (first | exact SelB.blk | exact SelB.fz | apply SelB.there))) (by rfl)) ?_
    refine SL.val rfl rfl (fun w9 F9 S9 s => R.lenS rfl) ?_
    refine SL.val rfl rfl (fun w9 F9 S9 s => R.geq rfl rfl) ?_
    first | refine SL.val rfl rfl (fun w9 F9 S9 s => R.pickT rfl rfl) ?_ | refine SL.val rfl rfl (fun w9 F9 S9 s => R.pickF rfl rfl) ?_
    refine SL.nil ?_
    refine SN.seq ?_
    refine SG.condP rfl (fun h0 => ?_) (fun h0 => ?_)
    · refine SG.seq ?_
      refine SG.region ?_
      refine SL.val rfl rfl (fun w9 F9 S9 s => R.as rfl) ?_
      refine SL.val rfl rfl (fun w9 F9 S9 s => R.as rfl) ?_
      refine SL.nil ?_
      refine SN.seq ?_
      exact SG.ret2 rfl rfl rfl (Imp.sels Sels.nil) (rgPost (pget_out (inP_hi h0)) rfl)
    · obtain ⟨i, rfl⟩ := Int.eq_ofNat_of_zero_le (show 0 ≤ n by omega)
      have hin : inP B ((i : Nat) : Int) = true := decide_eq_true (by omega)
      refine SG.fact (fun w9 F9 S9 s => hand_pt (s.sh (p := fun w => Cells w ha (handC M B)) (by repeat (first | exact Sel.keep | exact Sel.here | apply Sel.there))) (show i < B by omega)) (fun hf9 => ?_)
      obtain ⟨q, hq⟩ := hf9
      refine SG.skip ?_
      refine SN.seq ?_
      refine SG.seq ?_
      refine SG.seq ?_
      refine SG.region ?_
      refine SL.val rfl rfl (fun w9 F9 S9 s => R.fld rfl) ?_
      refine SL.val rfl rfl (fun w9 F9 S9 s => R.ldB (v := .slice ha B hc) rfl (s.cel (by repeat (first | exact SelB.blk | exact SelB.fz | apply SelB.there))) (by rfl)) ?_
      refine SL.val rfl rfl (fun w9 F9 S9 s => R.mv rfl) ?_
      refine SL.val rfl rfl (fun w9 F9 S9 s => R.idx (i := (i : Int)) rfl rfl (by omega) (by omega) q hq) ?_
      refine SL.val rfl rfl (fun w9 F9 S9 s => R.ld (v := .string (str (valH M (i : Int)))) rfl (hand_ld (s.sh (p := fun w => Cells w ha (handC M B)) (by repeat (first | exact Sel.keep | exact Sel.here | apply Sel.there))) hq (by omega))) ?_
      refine SL.val rfl rfl (fun w9 F9 S9 s => R.neStr rfl rfl) ?_
      refine SL.nil ?_
      refine SN.seq ?_
      refine SG.condP rfl (fun h1 => ?_) (fun h1 => ?_)
      · obtain ⟨x, hx, hxv, _⟩ : ∃ x, getT M (i : Int) = some x ∧ valH M (i : Int) = x.1 ∧ valH M (i : Int) ≠ [] := (hand_some hK).resolve_right (fun h => h1 h.2)
        have hpg := pget_hand (v := vv) (sz := sz) (fr := fr) hin hx
        rw [← hxv] at hpg
        refine SG.seq ?_
        refine SG.region ?_
        refine SL.val rfl rfl (fun w9 F9 S9 s => R.fld rfl) ?_
        refine SL.val rfl rfl (fun w9 F9 S9 s => R.ldB (v := .slice ha B hc) rfl (s.cel (by repeat (first | exact SelB.blk | exact SelB.fz | apply SelB.there))) (by rfl)) ?_
        refine SL.val rfl rfl (fun w9 F9 S9 s => R.mv rfl) ?_
        refine SL.val rfl rfl (fun w9 F9 S9 s => R.idx (i := (i : Int)) rfl rfl (by omega) (by omega) q hq) ?_
        refine SL.val rfl rfl (fun w9 F9 S9 s => R.ld (v := .string (str (valH M (i : Int)))) rfl (hand_ld (s.sh (p := fun w => Cells w ha (handC M B)) (by repeat (first | exact Sel.keep | exact Sel.here | apply Sel.there))) hq (by omega))) ?_
        refine SL.val rfl rfl (fun w9 F9 S9 s => R.as rfl) ?_
        refine SL.val rfl rfl (fun w9 F9 S9 s => R.as rfl) ?_
        refine SL.nil ?_
        refine SN.seq ?_
        exact SG.ret2 rfl rfl rfl (Imp.sels Sels.nil) (rgPost (hpg) rfl)
      · have hpg := pget_dev (v := vv) (sz := sz) (fr := fr) hin (((hand_some hK).resolve_left (fun ⟨x, h2, h3, h4⟩ => h4 (Classical.not_not.1 h1))).1)
        refine SG.skip ?_
        refine SN.seq ?_
        refine SG.seq ?_
        refine SG.region ?_
        refine SL.val rfl rfl (fun w9 F9 S9 s => R.fld rfl) ?_
        refine SL.val rfl rfl (fun w9 F9 S9 s => R.ldN (vs := (rdC vv wa wc).toList) rfl (s.left (show Sel _ (blk b2 _ _) _ from (by repeat (first | exact Sel.keep | exact Sel.here | apply Sel.there))) rfl) rfl) ?_
        refine SL.val rfl rfl (fun w9 F9 S9 s => R.fld rfl) ?_
        refine SL.val rfl rfl (fun w9 F9 S9 s => R.ldB rfl (s.cel (by repeat (first | exact SelB.blk | exact SelB.fz | apply SelB.there))) (by rfl)) ?_
        refine SL.val rfl rfl (fun w9 F9 S9 s => R.mv rfl) ?_
        refine SL.val rfl rfl (fun w9 F9 S9 s => R.add rfl rfl (by omega)) ?_
        refine SL.step rfl rfl (CS.callR rfl go44 (fun w9 F9 S9 s => rdread_ok vv sz wa wc ((fr : Int) + (i : Int)) 1 w9 hwf hz (s.sh (p := fun w => RefAt w vv.wt wa) (by repeat (first | exact Sel.keep | exact Sel.here | apply Sel.there))) (by decide) hwb)) ?_
        rintro _ _ ⟨rfl, rfl⟩
        refine SL.val rfl rfl (fun w9 F9 S9 s => R.ext rfl rfl) ?_
        refine SL.val rfl rfl (fun w9 F9 S9 s => R.ext rfl rfl) ?_
        refine SL.val rfl rfl (fun w9 F9 S9 s => R.as rfl) ?_
        refine SL.val rfl rfl (fun w9 F9 S9 s => R.as rfl) ?_
        refine SL.nil ?_
        refine SN.seq ?_
        exact SG.ret2 rfl rfl rfl (Imp.sels Sels.nil) (rgPost (hpg) rfl)

end Go.Proofs.Ytmbppidafnakhaa
/-
  The walks of package pool.
-/
set_option linter.unusedVariables false
set_option linter.unusedSimpArgs false
set_option maxRecDepth 4000
namespace Go.Proofs.Ytmbppidafnakhaa
open Go Brv Brv.Image Brv.Dev
theorem madeCells_one (v : Value) (m : Nat) : (madeCells #[v] m).toList = List.replicate m v := by
  refine List.ext_getElem (by simp [madeCells]) (fun i h1 h2 => ?_)
  simp [madeCells, Nat.mod_one]
theorem made_hand (B : Nat) : (madeCells (Value.string (str [])).cells (((B : Nat) : Int).toNat * 1)).toList = handC [] B := by
  rw [handC_nil, Int.toNat_natCast, Nat.mul_one]; exact madeCells_one _ _
theorem made_dirt (B : Nat) : (madeCells (Value.bool false).cells (((B : Nat) : Int).toNat * 1)).toList = dirtC [] B := by
  rw [dirtC_nil, Int.toNat_natCast, Nat.mul_one]; exact madeCells_one _ _
theorem blk_cells {H H' : List Asn} {b : Nat} {cs : List Value} {T : TypeId} (h : Sel H (Brv.blk b cs T) H') : Imp H (sh (fun w => Cells w (some ⟨b, 0, none⟩) cs) :: H') := Imp.blkSh h fun w h => Cells.of_blk h 0 _ (fun j v hj => by simpa using hj)
theorem rnPost {sz : Nat} {fr B e : Int} {x : Value} {K : List Asn} (h : pnewE sz fr B = e) (hK : K = []) : Value.tuple #[x, .int .i64 e] = .tuple #[x, .int .i64 (pnewE sz fr B)] ∧ K = [] := by
  rw [h]; exact ⟨rfl, hK⟩

theorem rpnew_ok (fr B sz : Nat) (vv : DevV) (wa : Option Addr) (wc : Nat) (hwf : vv.Wf sz) (h1 : 1 ≤ B) (h2 : B ≤ 64) (h3 : fr + B ≤ sz) (h4 : sz ≤ 4096) : SpecS Try.prog 17 [.agg (rdC vv wa wc), .int .i64 (fr : Int), .int .i64 (B : Int)] [sh (fun w => RefAt w vv.wt wa)] (fun v H' => ∃ ha hc da dc, v = .tuple #[.agg ([.string (str vv.stay), .slice wa vv.wt.length wc, .int .i64 vv.calls, .int .i64 vv.left, .bool vv.off, .int .i64 (fr : Int), .slice ha B hc, .slice da B dc]).toArray, .int .i64 0] ∧ H' = [sh (fun w => RefAt w vv.wt wa), sh (fun w => Cells w ha (handC [] B)), sh (fun w => Cells w da (dirtC [] B))]) := by
  refine SpecS.enter Try.func17 rfl 35 rfl (Nat.le_of_ble_eq_true rfl) (fun o => ?_)
  have hln := hwf.len
  refine SG.seq ?_
  refine SG.region ?_
  refine SL.step rfl rfl (CS.boxA rfl) ?_
  rintro _ _ ⟨b3, rfl, rfl⟩
  refine SL.step rfl rfl (CS.alloc [.string ByteArray.empty, .slice none 0 0, .int .i64 0, .int .i64 0, .bool false, .int .i64 0, .slice none 0 0, .slice none 0 0] rfl) ?_
  rintro _ _ ⟨b6, rfl, rfl⟩
  refine SL.val rfl rfl (fun w9 F9 S9 s => R.as rfl) ?_
  refine SL.nil ?_
  refine SN.seq ?_
  refine SG.seq ?_
  refine SG.seq ?_
  refine SG.region ?_
  refine SL.val rfl rfl (fun w9 F9 S9 s => R.mv rfl) ?_
  refine SL.val rfl rfl (fun w9 F9 S9 s => R.lss rfl rfl) ?_
  refine SL.val rfl rfl (fun w9 F9 S9 s => R.mv rfl) ?_
  refine SL.caseP 10 rfl (fun hg1_2 => ?_) (fun hg1_2 => ?_)
  · exfalso; omega
  · refine SL.val rfl rfl (fun w9 F9 S9 s => R.mv rfl) ?_
    refine SL.val rfl rfl (fun w9 F9 S9 s => R.lss rfl rfl) ?_
    first | refine SL.val rfl rfl (fun w9 F9 S9 s => R.pickT rfl rfl) ?_ | refine SL.val rfl rfl (fun w9 F9 S9 s => R.pickF rfl rfl) ?_
    refine SL.val rfl rfl (fun w9 F9 S9 s => R.mv rfl) ?_
    refine SL.caseP 14 rfl (fun hg1_6 => ?_) (fun hg1_6 => ?_)
    · exfalso; omega
    · refine SL.val rfl rfl (fun w9 F9 S9 s => R.mv rfl) ?_
      refine SL.val rfl rfl (fun w9 F9 S9 s => R.gtr rfl rfl) ?_
      first | refine SL.val rfl rfl (fun w9 F9 S9 s => R.pickT rfl rfl) ?_ | refine SL.val rfl rfl (fun w9 F9 S9 s => R.pickF rfl rfl) ?_
      refine SL.nil ?_
      refine SN.seq ?_
      refine SG.condP rfl (fun h0 => ?_) (fun h0 => ?_)
      · exfalso; omega
      · refine SG.skip ?_
        refine SN.seq ?_
        refine SG.seq ?_
        refine SG.seq ?_
        refine SG.region ?_
        refine SL.val rfl rfl (fun w9 F9 S9 s => R.mv rfl) ?_
        refine SL.val rfl rfl (fun w9 F9 S9 s => R.fld rfl) ?_
        refine SL.val rfl rfl (fun w9 F9 S9 s => R.ldB (v := .string (str vv.stay)) rfl (s.cel (by repeat (first | exact SelB.blk | exact SelB.fz | apply SelB.there))) (by rfl)) ?_
        refine SL.val rfl rfl (fun w9 F9 S9 s => R.lenT rfl) ?_
        refine SL.val rfl rfl (fun w9 F9 S9 s => R.quo rfl rfl (by omega) (by omega)) ?_
        refine SL.val rfl rfl (fun w9 F9 S9 s => R.mv rfl) ?_
        refine SL.val rfl rfl (fun w9 F9 S9 s => R.sub' rfl rfl (by omega)) ?_
        refine SL.val rfl rfl (fun w9 F9 S9 s => R.gtr rfl rfl) ?_
        refine SL.nil ?_
        refine SN.seq ?_
        refine SG.condP rfl (fun h1 => ?_) (fun h1 => ?_)
        · exfalso; omega
        · refine SG.skip ?_
          refine SN.seq ?_
          refine SG.seq ?_
          refine SG.drawT (.flo 0 (.flo 1 (.flo 2 (.flo 4 (.alt 3 (.alt 5 (.flo 6 (.alt 7 (.flo 8 .nil) .stop)) .stop) (.alt 5 (.alt 3 (.flo 6 (.alt 7 (.flo 8 .nil) .stop)) .stop) .stop)))))) (by decide +kernel) rfl ?_
          refine TW.read rfl rfl rfl rfl (fun w9 F9 S9 s => R.ldBN (cs := (rdC vv wa wc)) rfl (s.cel (by repeat (first | exact SelB.blk | exact SelB.fz | apply SelB.there))) (by rfl)) ?_
          refine TW.pure rfl rfl rfl rfl (fun w9 => R.mv rfl) ?_
          refine TW.pure rfl rfl rfl rfl (fun w9 => R.mv rfl) ?_
          refine TW.pure rfl rfl rfl rfl (fun w9 => R.mv rfl) ?_
          refine TW.or ?_ ?_
          · refine TW.step rfl rfl rfl rfl (CS.make rfl rfl (by omega) (Int.le_refl _) (by omega) (by omega) (handC [] B) (made_hand B)) ?_
            rintro _ _ ⟨b31, rfl, rfl⟩
            refine ⟨⟨.inr (fun w9 F9 S9 s => R.ldBN (cs := (rdC vv wa wc)) rfl (s.cel (by repeat (first | exact SelB.blk | exact SelB.fz | apply SelB.there))) (by rfl)), trivial⟩, ?_⟩
            refine TW.be 31 rfl (show _ = Value.slice (some ⟨b31, 0, none⟩) B B by rw [Int.toNat_natCast]) ?_
            refine TW.step rfl rfl rfl rfl (CS.make rfl rfl (by omega) (Int.le_refl _) (by omega) (by omega) (dirtC [] B) (made_dirt B)) ?_
            rintro _ _ ⟨b33, rfl, rfl⟩
            refine ⟨⟨.inr (fun w9 F9 S9 s => R.ldBN (cs := (rdC vv wa wc)) rfl (s.cel (by repeat (first | exact SelB.blk | exact SelB.fz | apply SelB.there))) (by rfl)), trivial⟩, ?_⟩
            refine TW.be 33 rfl (show _ = Value.slice (some ⟨b33, 0, none⟩) B B by rw [Int.toNat_natCast]) ?_
            refine TW.pure rfl rfl rfl rfl (fun w9 => R.buildN (l := [.string (str vv.stay), .slice wa vv.wt.length wc, .int .i64 vv.calls, .int .i64 vv.left, .bool vv.off, .int .i64 (fr : Int), .slice (some ⟨b31, 0, none⟩) B B, .slice (some ⟨b33, 0, none⟩) B B]) rfl rfl) ?_
            refine TW.step0 rfl rfl rfl (CS.stA (vs := [.string (str vv.stay), .slice wa vv.wt.length wc, .int .i64 vv.calls, .int .i64 vv.left, .bool vv.off, .int .i64 (fr : Int), .slice (some ⟨b31, 0, none⟩) B B, .slice (some ⟨b33, 0, none⟩) B B]) rfl rfl (by repeat (first | exact Sel.keep | exact Sel.here | apply Sel.there)) (by rfl) (by rfl) (by intro u hu; simp only [List.mem_cons, List.not_mem_nil, or_false] at hu; rcases hu with rfl | rfl | rfl | rfl | rfl | rfl | rfl | rfl <;> rfl)) ?_
            rintro _ _ rfl
            refine ⟨⟨.inl (by decide +kernel), trivial⟩, ?_⟩
            refine TW.pure rfl rfl rfl rfl (fun w9 => R.as rfl) ?_
            refine TW.nil ?_
            refine SN.imp (blk_cells (show Sel _ (blk b31 (handC [] B) _) _ from (by repeat (first | exact Sel.keep | exact Sel.here | apply Sel.there)))) ?_
            refine SN.imp (blk_cells (show Sel _ (blk b33 (dirtC [] B) _) _ from (by repeat (first | exact Sel.keep | exact Sel.here | apply Sel.there)))) ?_
            refine SN.seq ?_
            exact SG.retCT rfl rfl rfl (by repeat (first | exact Sel.keep | exact Sel.here | apply Sel.there)) (by rfl) ((Imp.sels (by repeat (first | exact Sels.nil | apply Sels.cons | exact Sel.keep | exact Sel.here | apply Sel.there)))) (⟨_, B, _, B, rfl, rfl⟩)
          refine TW.step rfl rfl rfl rfl (CS.make rfl rfl (by omega) (Int.le_refl _) (by omega) (by omega) (dirtC [] B) (made_dirt B)) ?_
          rintro _ _ ⟨b33, rfl, rfl⟩
          refine ⟨⟨.inr (fun w9 F9 S9 s => R.ldBN (cs := (rdC vv wa wc)) rfl (s.cel (by repeat (first | exact SelB.blk | exact SelB.fz | apply SelB.there))) (by rfl)), trivial⟩, ?_⟩
          refine TW.be 33 rfl (show _ = Value.slice (some ⟨b33, 0, none⟩) B B by rw [Int.toNat_natCast]) ?_
          refine TW.step rfl rfl rfl rfl (CS.make rfl rfl (by omega) (Int.le_refl _) (by omega) (by omega) (handC [] B) (made_hand B)) ?_
          rintro _ _ ⟨b31, rfl, rfl⟩
          refine ⟨⟨.inr (fun w9 F9 S9 s => R.ldBN (cs := (rdC vv wa wc)) rfl (s.cel (by repeat (first | exact SelB.blk | exact SelB.fz | apply SelB.there))) (by rfl)), trivial⟩, ?_⟩
          refine TW.be 31 rfl (show _ = Value.slice (some ⟨b31, 0, none⟩) B B by rw [Int.toNat_natCast]) ?_
          refine TW.pure rfl rfl rfl rfl (fun w9 => R.buildN (l := [.string (str vv.stay), .slice wa vv.wt.length wc, .int .i64 vv.calls, .int .i64 vv.left, .bool vv.off, .int .i64 (fr : Int), .slice (some ⟨b31, 0, none⟩) B B, .slice (some ⟨b33, 0, none⟩) B B]) rfl rfl) ?_
          refine TW.step0 rfl rfl rfl (CS.stA (vs := [.string (str vv.stay), .slice wa vv.wt.length wc, .int .i64 vv.calls, .int .i64 vv.left, .bool vv.off, .int .i64 (fr : Int), .slice (some ⟨b31, 0, none⟩) B B, .slice (some ⟨b33, 0, none⟩) B B]) rfl rfl (by repeat (first | exact Sel.keep | exact Sel.here | apply Sel.there)) (by rfl) (by rfl) (by intro u hu; simp only [List.mem_cons, List.not_mem_nil, or_false] at hu; rcases hu with rfl | rfl | rfl | rfl | rfl | rfl | rfl | rfl <;> rfl)) ?_
          rintro _ _ rfl
          refine ⟨⟨.inl (by decide +kernel), trivial⟩, ?_⟩
          refine TW.pure rfl rfl rfl rfl (fun w9 => R.as rfl) ?_
          refine TW.nil ?_
          refine SN.imp (blk_cells (show Sel _ (blk b31 (handC [] B) _) _ from (by repeat (first | exact Sel.keep | exact Sel.here | apply Sel.there)))) ?_
          refine SN.imp (blk_cells (show Sel _ (blk b33 (dirtC [] B) _) _ from (by repeat (first | exact Sel.keep | exact Sel.here | apply Sel.there)))) ?_
          refine SN.seq ?_
          exact SG.retCT rfl rfl rfl (by repeat (first | exact Sel.keep | exact Sel.here | apply Sel.there)) (by rfl) ((Imp.sels (by repeat (first | exact Sels.nil | apply Sels.cons | exact Sel.keep | exact Sel.here | apply Sel.there)))) (⟨_, B, _, B, rfl, rfl⟩)

theorem rpnew_err (sz : Nat) (fr B : Int) (vv : DevV) (wa : Option Addr) (wc : Nat) (hwf : vv.Wf sz) (he : pnewE sz fr B ≠ 0) (h4 : sz ≤ 4096) : SpecS Try.prog 17 [.agg (rdC vv wa wc), .int .i64 fr, .int .i64 B] [sh (fun w => RefAt w vv.wt wa)] (fun v H' => v = .tuple #[.agg ([.string (str []), .slice none 0 0, .int .i64 0, .int .i64 0, .bool false, .int .i64 0, .slice none 0 0, .slice none 0 0]).toArray, .int .i64 (pnewE sz fr B)] ∧ H' = []) := by
  refine SpecS.enter Try.func17 rfl 35 rfl (Nat.le_of_ble_eq_true rfl) (fun o => ?_)
  have hln := hwf.len
  refine SG.seq ?_
  refine SG.region ?_
  refine SL.step rfl rfl (CS.boxA rfl) ?_
  rintro _ _ ⟨b3, rfl, rfl⟩
  refine SL.step rfl rfl (CS.alloc [.string ByteArray.empty, .slice none 0 0, .int .i64 0, .int .i64 0, .bool false, .int .i64 0, .slice none 0 0, .slice none 0 0] rfl) ?_
  rintro _ _ ⟨b6, rfl, rfl⟩
  refine SL.val rfl rfl (fun w9 F9 S9 s => R.as rfl) ?_
  refine SL.nil ?_
  refine SN.seq ?_
  refine SG.seq ?_
  refine SG.seq ?_
  refine SG.region ?_
  refine SL.val rfl rfl (fun w9 F9 S9 s => R.mv rfl) ?_
  refine SL.val rfl rfl (fun w9 F9 S9 s => R.lss rfl rfl) ?_
  refine SL.val rfl rfl (fun w9 F9 S9 s => R.mv rfl) ?_
  refine SL.caseP 10 rfl (fun hg1_2 => ?_) (fun hg1_2 => ?_)
  · refine SL.pass rfl rfl ?_
    refine SL.pass rfl rfl ?_
    first | refine SL.val rfl rfl (fun w9 F9 S9 s => R.pickT rfl rfl) ?_ | refine SL.val rfl rfl (fun w9 F9 S9 s => R.pickF rfl rfl) ?_
    refine SL.val rfl rfl (fun w9 F9 S9 s => R.mv rfl) ?_
    refine SL.pass rfl rfl ?_
    refine SL.pass rfl rfl ?_
    first | refine SL.val rfl rfl (fun w9 F9 S9 s => R.pickT rfl rfl) ?_ | refine SL.val rfl rfl (fun w9 F9 S9 s => R.pickF rfl rfl) ?_
    refine SL.nil ?_
    refine SN.seq ?_
    refine SG.condT rfl ?_
    refine SG.seq ?_
    refine SG.region ?_
    refine SL.val rfl rfl (fun w9 F9 S9 s => R.build (cs := [.string ByteArray.empty, .slice none 0 0, .int .i64 0, .int .i64 0, .bool false, .int .i64 0, .slice none 0 0, .slice none 0 0].toArray) rfl rfl) ?_
    refine SL.step0 rfl (CS.stA (vs := [.string (str []), .slice none 0 0, .int .i64 0, .int .i64 0, .bool false, .int .i64 0, .slice none 0 0, .slice none 0 0]) rfl rfl (by repeat (first | exact Sel.keep | exact Sel.here | apply Sel.there)) (by rfl) (by rfl) (by intro u hu; simp only [List.mem_cons, List.not_mem_nil, or_false] at hu; rcases hu with rfl | rfl | rfl | rfl | rfl | rfl | rfl | rfl <;> rfl)) ?_
    rintro _ _ rfl
    refine SL.val rfl rfl (fun w9 F9 S9 s => R.as rfl) ?_
    refine SL.nil ?_
    refine SN.seq ?_
    exact SG.retCT rfl rfl rfl (by repeat (first | exact Sel.keep | exact Sel.here | apply Sel.there)) (by rfl) (Imp.sels Sels.nil) (rnPost (show pnewE sz fr B = 2 by unfold pnewE; exact if_pos (by omega)) rfl)
  · refine SL.val rfl rfl (fun w9 F9 S9 s => R.mv rfl) ?_
    refine SL.val rfl rfl (fun w9 F9 S9 s => R.lss rfl rfl) ?_
    first | refine SL.val rfl rfl (fun w9 F9 S9 s => R.pickT rfl rfl) ?_ | refine SL.val rfl rfl (fun w9 F9 S9 s => R.pickF rfl rfl) ?_
    refine SL.val rfl rfl (fun w9 F9 S9 s => R.mv rfl) ?_
    refine SL.caseP 14 rfl (fun hg1_6 => ?_) (fun hg1_6 => ?_)
    · refine SL.pass rfl rfl ?_
      refine SL.pass rfl rfl ?_
      first | refine SL.val rfl rfl (fun w9 F9 S9 s => R.pickT rfl rfl) ?_ | refine SL.val rfl rfl (fun w9 F9 S9 s => R.pickF rfl rfl) ?_
      refine SL.nil ?_
      refine SN.seq ?_
      refine SG.condT rfl ?_
      refine SG.seq ?_
      refine SG.region ?_
      refine SL.val rfl rfl (fun w9 F9 S9 s => R.build (cs := [.string ByteArray.empty, .slice none 0 0, .int .i64 0, .int .i64 0, .bool false, .int .i64 0, .slice none 0 0, .slice none 0 0].toArray) rfl rfl) ?_
      refine SL.step0 rfl (CS.stA (vs := [.string (str []), .slice none 0 0, .int .i64 0, .int .i64 0, .bool false, .int .i64 0, .slice none 0 0, .slice none 0 0]) rfl rfl (by repeat (first | exact Sel.keep | exact Sel.here | apply Sel.there)) (by rfl) (by rfl) (by intro u hu; simp only [List.mem_cons, List.not_mem_nil, or_false] at hu; rcases hu with rfl | rfl | rfl | rfl | rfl | rfl | rfl | rfl <;> rfl)) ?_
      rintro _ _ rfl
      refine SL.val rfl rfl (fun w9 F9 S9 s => R.as rfl) ?_
      refine SL.nil ?_
      refine SN.seq ?_
      exact SG.retCT rfl rfl rfl (by repeat (first | exact Sel.keep | exact Sel.here | apply Sel.there)) (by rfl) (Imp.sels Sels.nil) (rnPost (show pnewE sz fr B = 2 by unfold pnewE; exact if_pos (by omega)) rfl)
    · refine SL.val rfl rfl (fun w9 F9 S9 s => R.mv rfl) ?_
      refine SL.val rfl rfl (fun w9 F9 S9 s => R.gtr rfl rfl) ?_
      first | refine SL.val rfl rfl (fun w9 F9 S9 s => R.pickT rfl rfl) ?_ | refine SL.val rfl rfl (fun w9 F9 S9 s => R.pickF rfl rfl) ?_
      refine SL.nil ?_
      refine SN.seq ?_
      refine SG.condP rfl (fun h0 => ?_) (fun h0 => ?_)
      · refine SG.seq ?_
        refine SG.region ?_
        refine SL.val rfl rfl (fun w9 F9 S9 s => R.build (cs := [.string ByteArray.empty, .slice none 0 0, .int .i64 0, .int .i64 0, .bool false, .int .i64 0, .slice none 0 0, .slice none 0 0].toArray) rfl rfl) ?_
        refine SL.step0 rfl (CS.stA (vs := [.string (str []), .slice none 0 0, .int .i64 0, .int .i64 0, .bool false, .int .i64 0, .slice none 0 0, .slice none 0 0]) rfl rfl (by repeat (first | exact Sel.keep | exact Sel.here | apply Sel.there)) (by rfl) (by rfl) (by intro u hu; simp only [List.mem_cons, List.not_mem_nil, or_false] at hu; rcases hu with rfl | rfl | rfl | rfl | rfl | rfl | rfl | rfl <;> rfl)) ?_
        rintro _ _ rfl
        refine SL.val rfl rfl (fun w9 F9 S9 s => R.as rfl) ?_
        refine SL.nil ?_
        refine SN.seq ?_
        exact SG.retCT rfl rfl rfl (by repeat (first | exact Sel.keep | exact Sel.here | apply Sel.there)) (by rfl) (Imp.sels Sels.nil) (rnPost (show pnewE sz fr B = 2 by unfold pnewE; exact if_pos (by omega)) rfl)
      · refine SG.skip ?_
        refine SN.seq ?_
        refine SG.seq ?_
        refine SG.seq ?_
        refine SG.region ?_
        refine SL.val rfl rfl (fun w9 F9 S9 s => R.mv rfl) ?_
        refine SL.val rfl rfl (fun w9 F9 S9 s => R.fld rfl) ?_
        refine SL.val rfl rfl (fun w9 F9 S9 s => R.ldB (v := .string (str vv.stay)) rfl (s.cel (by repeat (first | exact SelB.blk | exact SelB.fz | apply SelB.there))) (by rfl)) ?_
        refine SL.val rfl rfl (fun w9 F9 S9 s => R.lenT rfl) ?_
        refine SL.val rfl rfl (fun w9 F9 S9 s => R.quo rfl rfl (by omega) (by omega)) ?_
        refine SL.val rfl rfl (fun w9 F9 S9 s => R.mv rfl) ?_
        refine SL.val rfl rfl (fun w9 F9 S9 s => R.sub' rfl rfl (by omega)) ?_
        refine SL.val rfl rfl (fun w9 F9 S9 s => R.gtr rfl rfl) ?_
        refine SL.nil ?_
        refine SN.seq ?_
        refine SG.condP rfl (fun h1 => ?_) (fun h1 => ?_)
        · refine SG.seq ?_
          refine SG.region ?_
          refine SL.val rfl rfl (fun w9 F9 S9 s => R.build (cs := [.string ByteArray.empty, .slice none 0 0, .int .i64 0, .int .i64 0, .bool false, .int .i64 0, .slice none 0 0, .slice none 0 0].toArray) rfl rfl) ?_
          refine SL.step0 rfl (CS.stA (vs := [.string (str []), .slice none 0 0, .int .i64 0, .int .i64 0, .bool false, .int .i64 0, .slice none 0 0, .slice none 0 0]) rfl rfl (by repeat (first | exact Sel.keep | exact Sel.here | apply Sel.there)) (by rfl) (by rfl) (by intro u hu; simp only [List.mem_cons, List.not_mem_nil, or_false] at hu; rcases hu with rfl | rfl | rfl | rfl | rfl | rfl | rfl | rfl <;> rfl)) ?_
          rintro _ _ rfl
          refine SL.val rfl rfl (fun w9 F9 S9 s => R.as rfl) ?_
          refine SL.nil ?_
          refine SN.seq ?_
          exact SG.retCT rfl rfl rfl (by repeat (first | exact Sel.keep | exact Sel.here | apply Sel.there)) (by rfl) (Imp.sels Sels.nil) (rnPost (show pnewE sz fr B = 11 by unfold pnewE; rw [if_neg (by omega), if_pos (by omega)]) rfl)
        · exfalso
          apply he
          unfold pnewE
          rw [if_neg (by omega), if_neg (by omega)]

theorem rpdrop_ok (fr B sz : Nat) (vv : DevV) (M : Hd) (wa : Option Addr) (wc : Nat) (ha : Option Addr) (hc : Nat) (da : Option Addr) (dc : Nat) (hB : B ≤ 64) : SpecS Try.prog 23 [.agg ([.string (str vv.stay), .slice wa vv.wt.length wc, .int .i64 vv.calls, .int .i64 vv.left, .bool vv.off, .int .i64 (fr : Int), .slice ha B hc, .slice da B dc]).toArray] [sh (fun w => RefAt w vv.wt wa), sh (fun w => Cells w ha (handC M B)), sh (fun w => Cells w da (dirtC M B))] (fun v H' => ∃ ha hc da dc, v = .agg ([.string (str vv.stay), .slice wa vv.wt.length wc, .int .i64 vv.calls, .int .i64 vv.left, .bool vv.off, .int .i64 (fr : Int), .slice ha B hc, .slice da B dc]).toArray ∧ H' = [sh (fun w => RefAt w vv.wt wa), sh (fun w => Cells w ha (handC [] B)), sh (fun w => Cells w da (dirtC [] B))]) := by
  refine SpecS.enter Try.func23 rfl 14 rfl (Nat.le_of_ble_eq_true rfl) (fun o => ?_)
  refine SG.seq ?_
  refine SG.region ?_
  refine SL.step rfl rfl (CS.boxA rfl) ?_
  rintro _ _ ⟨b1, rfl, rfl⟩
  refine SL.step rfl rfl (CS.alloc [.string ByteArray.empty, .slice none 0 0, .int .i64 0, .int .i64 0, .bool false, .int .i64 0, .slice none 0 0, .slice none 0 0] rfl) ?_
  rintro _ _ ⟨b2, rfl, rfl⟩
  refine SL.nil ?_
  refine SN.seq ?_
  refine SG.seq ?_
  refine SG.region ?_
  refine SL.val rfl rfl (fun w9 F9 S9 s => R.fld rfl) ?_
  refine SL.val rfl rfl (fun w9 F9 S9 s => R.ldB (v := .slice ha B hc) rfl (s.cel (by repeat (first | exact SelB.blk | exact SelB.fz | apply SelB.there))) (by rfl)) ?_
  refine SL.val rfl rfl (fun w9 F9 S9 s => R.lenS rfl) ?_
  refine SL.step rfl rfl (CS.make rfl rfl (by omega) (Int.le_refl _) (by omega) (by omega) (handC [] B) (made_hand B)) ?_
  rintro _ _ ⟨b6, rfl, rfl⟩
  refine SL.be 6 rfl (show _ = Value.slice (some ⟨b6, 0, none⟩) B B by rw [Int.toNat_natCast]) ?_
  refine SL.val rfl rfl (fun w9 F9 S9 s => R.fld rfl) ?_
  refine SL.step0 rfl (CS.st rfl rfl (by repeat (first | exact Sel.keep | exact Sel.here | apply Sel.there)) (by repeat (first | exact SetAt.here | apply SetAt.there)) rfl) ?_
  rintro _ _ rfl
  refine SL.nil ?_
  refine SN.seq ?_
  refine SG.seq ?_
  refine SG.region ?_
  refine SL.val rfl rfl (fun w9 F9 S9 s => R.fld rfl) ?_
  refine SL.val rfl rfl (fun w9 F9 S9 s => R.ldB (v := .slice (some ⟨b6, 0, none⟩) B B) rfl (s.cel (by repeat (first | exact SelB.blk | exact SelB.fz | apply SelB.there))) (by rfl)) ?_
  refine SL.val rfl rfl (fun w9 F9 S9 s => R.lenS rfl) ?_
  refine SL.step rfl rfl (CS.make rfl rfl (by omega) (Int.le_refl _) (by omega) (by omega) (dirtC [] B) (made_dirt B)) ?_
  rintro _ _ ⟨b11, rfl, rfl⟩
  refine SL.be 11 rfl (show _ = Value.slice (some ⟨b11, 0, none⟩) B B by rw [Int.toNat_natCast]) ?_
  refine SL.val rfl rfl (fun w9 F9 S9 s => R.fld rfl) ?_
  refine SL.step0 rfl (CS.st rfl rfl (by repeat (first | exact Sel.keep | exact Sel.here | apply Sel.there)) (by repeat (first | exact SetAt.here | apply SetAt.there)) rfl) ?_
  rintro _ _ rfl
  refine SL.nil ?_
  refine SN.seq ?_
  refine SG.seq ?_
  refine SG.region ?_
  refine SL.val rfl rfl (fun w9 F9 S9 s => R.ldBN (cs := ([.string (str vv.stay), .slice wa vv.wt.length wc, .int .i64 vv.calls, .int .i64 vv.left, .bool vv.off, .int .i64 (fr : Int), .slice (some ⟨b6, 0, none⟩) B B, .slice (some ⟨b11, 0, none⟩) B B]).toArray) rfl (s.cel (by repeat (first | exact SelB.blk | exact SelB.fz | apply SelB.there))) (by rfl)) ?_
  refine SL.step0 rfl (CS.stA (vs := [.string (str vv.stay), .slice wa vv.wt.length wc, .int .i64 vv.calls, .int .i64 vv.left, .bool vv.off, .int .i64 (fr : Int), .slice (some ⟨b6, 0, none⟩) B B, .slice (some ⟨b11, 0, none⟩) B B]) rfl rfl (by repeat (first | exact Sel.keep | exact Sel.here | apply Sel.there)) (by rfl) (by rfl) (by intro u hu; simp only [List.mem_cons, List.not_mem_nil, or_false] at hu; rcases hu with rfl | rfl | rfl | rfl | rfl | rfl | rfl | rfl <;> rfl)) ?_
  rintro _ _ rfl
  refine SL.nil ?_
  refine SN.imp (blk_cells (show Sel _ (blk b6 (handC [] B) _) _ from (by repeat (first | exact Sel.keep | exact Sel.here | apply Sel.there)))) ?_
  refine SN.imp (blk_cells (show Sel _ (blk b11 (dirtC [] B) _) _ from (by repeat (first | exact Sel.keep | exact Sel.here | apply Sel.there)))) ?_
  refine SN.seq ?_
  exact SG.retC rfl rfl (by repeat (first | exact Sel.keep | exact Sel.here | apply Sel.there)) (by rfl) ((Imp.sels (by repeat (first | exact Sels.nil | apply Sels.cons | exact Sel.keep | exact Sel.here | apply Sel.there)))) (⟨_, B, _, B, rfl, rfl⟩)

end Go.Proofs.Ytmbppidafnakhaa
