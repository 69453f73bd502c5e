/-
  Texts of this claim, put together.
-/
import Derived.Test.YtlhkpakbenghgaaGreatStaTLz2
/-
  The walks of package order.
-/
set_option linter.unusedVariables false
set_option linter.unusedSimpArgs false
set_option maxRecDepth 4000
namespace Go.Proofs.YtlhkpakbenghgaaGreat
open Go Brv
theorem find1ApiBusy_ok (p : Pr (Int)) (k : Int) (w : World) : Meets Tryz.prog 78 [.agg (pcell p).toArray, .int .i64 k] w (fun v w' => v = .int .i64 (cmpF p.1 k) ∧ Ext [] w w') := by
  refine Meets.enter Tryz.func78 rfl 9 rfl (Nat.le_of_ble_eq_true rfl) ?_
  have E := Ext.refl [] w
  refine G.seq ?_
  refine G.region ?_
  refine L.do rfl rfl (R.box rfl) ?_
  rintro _ w1 ⟨b2, rfl, hb2, hs2, e1, B2⟩
  replace B2 : Blk w1 b2 (pcell p).toArray 117 (0, 0) := B2
  replace E := E.trans0 e1
  refine L.val rfl rfl (R.as rfl) ?_
  refine L.nil ?_
  refine N.seq ?_
  refine G.seq ?_
  refine G.region ?_
  refine L.val rfl rfl (R.fld rfl) ?_
  refine L.val rfl rfl (R.ldB (v := .int .i64 p.1) rfl B2 rfl) ?_
  refine L.val rfl rfl (R.mv rfl) ?_
  refine L.callF rfl rfl rfl go28 (cmpI_ok _ _ _) ?_
  rintro _ _ ⟨rfl, hw⟩
  obtain rfl := hw.symm
  refine L.val rfl rfl (R.as rfl) ?_
  refine L.nil ?_
  refine N.seq ?_
  refine G.ret1 rfl rfl ?_
  exact ⟨rfl, E⟩

theorem bsApiBusy_ok (a : Option Addr) (n c : Nat) (ps : List (Pr (Int))) (k : Int) (w : World) (hc : Cells w a (pcells ps)) (hn : n = ps.length) (hok : OkP 3 ps) (hs : Sorted ps) (hnl : n ≤ 1000000) : Meets Tryz.prog 77 [.slice a n c, .int .i64 k, .func (.func 78) #[] #[]] w (fun v w' => v = .tuple #[.int .i64 (low ps k : Int), .bool (hasK ps k)] ∧ Ext [] w w') := by
  refine Meets.enter Tryz.func77 rfl 49 rfl (Nat.le_of_ble_eq_true rfl) ?_
  have E := Ext.refl [] w
  have hT := Tab.pairs hc hn hok
  have hlo := low_le ps k
  refine G.seq ?_
  refine G.region ?_
  refine L.val rfl rfl (R.as rfl) ?_
  refine L.val rfl rfl (R.as rfl) ?_
  refine L.nil ?_
  refine N.seq ?_
  refine G.seq ?_
  refine G.region ?_
  refine L.val rfl rfl (R.mv rfl) ?_
  refine L.val rfl rfl (R.lenS rfl) ?_
  refine L.val rfl rfl (R.as rfl) ?_
  refine L.nil ?_
  refine N.seq ?_
  refine G.seq ?_
  refine G.region ?_
  refine L.val rfl rfl (R.mv rfl) ?_
  refine L.val rfl rfl (R.as rfl) ?_
  refine L.val rfl rfl (R.as rfl) ?_
  refine L.nil ?_
  refine N.seq ?_
  refine G.seq ?_
  refine G.block ?_
  refine G.loop (X := Nat × Nat) (fun s => [(0, .slice a n c), (1, .int .i64 k), (2, .func (.func 78) #[] #[]), (8, .int .i64 (n : Int)), (9, .int .i64 (s.1 : Int)), (10, .int .i64 (s.2 : Int))]) (fun s w' => s.1 ≤ s.2 ∧ s.2 ≤ n ∧ s.1 ≤ low ps k ∧ low ps k ≤ s.2 ∧ Ext [] w w') (fun s => s.2 - s.1) ((0, n)) (Sub.cons rfl (Sub.cons rfl (Sub.cons rfl (Sub.cons rfl (Sub.cons rfl (Sub.cons rfl (Sub.nil _))))))) ⟨Nat.zero_le _, Nat.le_refl _, Nat.zero_le _, by show low ps k ≤ n; omega, E⟩ ?_
  rintro ⟨i, j⟩ w1 ⟨hi1, hi2, hi3, hi4, E⟩
  dsimp only at hi1 hi2 hi3 hi4
  refine G.sub [(0, .slice a n c), (1, .int .i64 k), (2, .func (.func 78) #[] #[]), (8, .int .i64 (n : Int)), (9, .int .i64 (i : Int)), (10, .int .i64 (j : Int))] (Sub.cons rfl (Sub.cons rfl (Sub.cons rfl (Sub.cons rfl (Sub.cons rfl (Sub.cons rfl (Sub.nil _))))))) ?_
  refine G.seq ?_
  refine G.seq ?_
  refine G.region ?_
  refine L.val rfl rfl (R.mv rfl) ?_
  refine L.val rfl rfl (R.mv rfl) ?_
  refine L.val rfl rfl (R.lss rfl rfl) ?_
  refine L.nil ?_
  refine N.seq ?_
  refine G.condP rfl (fun h0 => ?_) (fun h0 => ?_)
  · have hij : i < j := by omega
    obtain ⟨hm, hhm⟩ : ∃ hm, hm = (i + j) / 2 := ⟨_, rfl⟩
    have hm1 : i ≤ hm := by omega
    have hm2 : hm < j := by omega
    refine G.skip ?_
    refine N.seq ?_
    refine G.block ?_
    refine G.seq ?_
    refine G.region ?_
    refine L.val rfl rfl (R.mv rfl) ?_
    refine L.val rfl rfl (R.mv rfl) ?_
    refine L.val rfl rfl (R.add rfl rfl (by omega)) ?_
    refine L.val rfl rfl (R.conv rfl ((i + j : Nat) : Int) (by rw [wrap_u64 (by omega)]; omega)) ?_
    refine L.val rfl rfl (R.shrW rfl rfl (by decide) (hm : Int) (by rw [shr1]; omega)) ?_
    refine L.val rfl rfl (R.conv rfl (hm : Int) (wrap_i64 (by omega))) ?_
    refine L.val rfl rfl (R.as rfl) ?_
    refine L.nil ?_
    refine N.seq ?_
    refine G.seq ?_
    refine G.region ?_
    refine L.val rfl rfl (R.mv rfl) ?_
    refine L.val rfl rfl (R.mv rfl) ?_
    refine L.val rfl rfl (R.mv rfl) ?_
    obtain ⟨p1, hp1⟩ : ∃ p, ps[hm]? = some p := ⟨_, List.getElem?_eq_getElem (by omega)⟩
    obtain ⟨qp1, hqp1, hclp1⟩ := hT.at (by decide) hm (by rw [List.length_map]; omega)
    have hep1 : (ps.map pcell)[hm]'(by rw [List.length_map]; omega) = pcell p1 := by rw [List.getElem_map]; exact congrArg pcell (List.getElem?_eq_some_iff.1 hp1).2
    rw [hep1] at hclp1
    have hszp1 : (pcell p1).length = 4 := by show p1.2.length + 1 = _; rw [(hok p1 (List.mem_of_getElem? hp1)).1]
    refine L.val rfl rfl (R.idx rfl rfl (by omega) (by omega) qp1 hqp1) ?_
    refine L.val rfl rfl (R.ldN (vs := pcell p1) rfl (hclp1.ext0 E) hszp1) ?_
    refine L.val rfl rfl (R.mv rfl) ?_
    refine L.callV rfl rfl rfl rfl rfl go78 (find1ApiBusy_ok p1 k _) ?_
    rintro _ w2 ⟨rfl, e2⟩
    replace E := E.trans0 e2
    refine L.val rfl rfl (R.lss rfl rfl) ?_
    refine L.nil ?_
    refine N.seq ?_
    refine G.condP rfl (fun h1 => ?_) (fun h1 => ?_)
    · have hcmp : cmpF p1.1 k < 0 := h1
      refine G.region ?_
      refine L.val rfl rfl (R.mv rfl) ?_
      refine L.val rfl rfl (R.add rfl rfl (by omega)) ?_
      refine L.val rfl rfl (R.as rfl) ?_
      refine L.nil ?_
      refine N.block ?_
      first
        | exact N.again (hm + 1, j) (by show j - (hm + 1) < j - i; omega) (Sub.cons rfl (Sub.cons rfl (Sub.cons rfl (Sub.cons rfl (Sub.cons rfl (Sub.cons rfl (Sub.nil _))))))) ⟨by show hm + 1 ≤ j; omega, hi2, by show hm + 1 ≤ low ps k; have := (lt_low hs hp1).1 hcmp; omega, hi4, E⟩
        | exact N.again (i, hm) (by show hm - i < j - i; omega) (Sub.cons rfl (Sub.cons rfl (Sub.cons rfl (Sub.cons rfl (Sub.cons rfl (Sub.cons rfl (Sub.nil _))))))) ⟨by show i ≤ hm; omega, by show hm ≤ n; omega, hi3, by show low ps k ≤ hm; have : ¬ hm < low ps k := fun h9 => hcmp ((lt_low hs hp1).2 h9); omega, E⟩
    · have hcmp : ¬ cmpF p1.1 k < 0 := h1
      refine G.region ?_
      refine L.val rfl rfl (R.mv rfl) ?_
      refine L.val rfl rfl (R.as rfl) ?_
      refine L.nil ?_
      refine N.block ?_
      first
        | exact N.again (hm + 1, j) (by show j - (hm + 1) < j - i; omega) (Sub.cons rfl (Sub.cons rfl (Sub.cons rfl (Sub.cons rfl (Sub.cons rfl (Sub.cons rfl (Sub.nil _))))))) ⟨by show hm + 1 ≤ j; omega, hi2, by show hm + 1 ≤ low ps k; have := (lt_low hs hp1).1 hcmp; omega, hi4, E⟩
        | exact N.again (i, hm) (by show hm - i < j - i; omega) (Sub.cons rfl (Sub.cons rfl (Sub.cons rfl (Sub.cons rfl (Sub.cons rfl (Sub.cons rfl (Sub.nil _))))))) ⟨by show i ≤ hm; omega, by show hm ≤ n; omega, hi3, by show low ps k ≤ hm; have : ¬ hm < low ps k := fun h9 => hcmp ((lt_low hs hp1).2 h9); omega, E⟩
  · have hij : i = low ps k := by omega
    refine G.exit _ rfl ?_
    refine N.seq ?_
    refine G.seq ?_
    refine G.region ?_
    refine L.val rfl rfl (R.mv rfl) ?_
    refine L.val rfl rfl (R.mv rfl) ?_
    refine L.val rfl rfl (R.mv rfl) ?_
    refine L.val rfl rfl (R.lss rfl rfl) ?_
    refine L.val rfl rfl (R.mv rfl) ?_
    refine L.caseP 39 rfl (fun hg8_4 => ?_) (fun hg8_4 => ?_)
    · refine L.val rfl rfl (R.mv rfl) ?_
      refine L.val rfl rfl (R.mv rfl) ?_
      refine L.val rfl rfl (R.mv rfl) ?_
      obtain ⟨p2, hp2⟩ : ∃ p, ps[i]? = some p := ⟨_, List.getElem?_eq_getElem (by omega)⟩
      obtain ⟨qp2, hqp2, hclp2⟩ := hT.at (by decide) i (by rw [List.length_map]; omega)
      have hep2 : (ps.map pcell)[i]'(by rw [List.length_map]; omega) = pcell p2 := by rw [List.getElem_map]; exact congrArg pcell (List.getElem?_eq_some_iff.1 hp2).2
      rw [hep2] at hclp2
      have hszp2 : (pcell p2).length = 4 := by show p2.2.length + 1 = _; rw [(hok p2 (List.mem_of_getElem? hp2)).1]
      refine L.val rfl rfl (R.idx rfl rfl (by omega) (by omega) qp2 hqp2) ?_
      refine L.val rfl rfl (R.ldN (vs := pcell p2) rfl (hclp2.ext0 E) hszp2) ?_
      refine L.val rfl rfl (R.mv rfl) ?_
      refine L.callV rfl rfl rfl rfl rfl go78 (find1ApiBusy_ok p2 k _) ?_
      rintro _ w3 ⟨rfl, e3⟩
      replace E := E.trans0 e3
      refine L.val rfl rfl (R.eqI rfl rfl) ?_
      first | refine L.val rfl rfl (R.pickT rfl rfl) ?_ | refine L.val rfl rfl (R.pickF rfl rfl) ?_
      refine L.val rfl rfl (R.as rfl) ?_
      refine L.val rfl rfl (R.as rfl) ?_
      refine L.nil ?_
      refine N.seq ?_
      refine G.ret2 rfl rfl rfl ?_
      first
        | exact ⟨by rw [hfound, ← hij], E⟩
        | exact ⟨by rw [hasK_at hs (by rw [← hij]; exact hp2), ← hij], E⟩
    · have hfound : hasK ps k = false := hasK_end (by omega)
      refine L.pass rfl rfl ?_
      refine L.pass rfl rfl ?_
      refine L.pass rfl rfl ?_
      refine L.pass rfl rfl ?_
      refine L.pass rfl rfl ?_
      refine L.pass rfl rfl ?_
      refine L.pass rfl rfl ?_
      refine L.pass rfl rfl ?_
      first | refine L.val rfl rfl (R.pickT rfl rfl) ?_ | refine L.val rfl rfl (R.pickF rfl rfl) ?_
      refine L.val rfl rfl (R.as rfl) ?_
      refine L.val rfl rfl (R.as rfl) ?_
      refine L.nil ?_
      refine N.seq ?_
      refine G.ret2 rfl rfl rfl ?_
      first
        | exact ⟨by rw [hfound, ← hij], E⟩
        | exact ⟨by rw [hasK_at hs (by rw [← hij]; exact hp2), ← hij], E⟩

theorem findApiBusy_ok (m : Nat) (ps : List (Pr (Int))) (S : List Nat) (k : Int) (w : World) (hd : MapAt (κ := Int) 109 117 3 w m ps S) (hl : ps.length ≤ 1000000) : Meets Tryz.prog 47 [.pointer (some ⟨m, 0, none⟩), .int .i64 k] w (fun v w' => v = .tuple #[.int .i64 (low ps k : Int), .bool (hasK ps k)] ∧ Ext [] w w') := by
  refine Meets.enter Tryz.func47 rfl 14 rfl (Nat.le_of_ble_eq_true rfl) ?_
  have E := Ext.refl [] w
  obtain ⟨a, c, M, rfl, hm0, Bm, om, hok, hs⟩ := hd
  refine G.seq ?_
  refine G.region ?_
  refine L.val rfl rfl (R.as rfl) ?_
  refine L.val rfl rfl (R.as rfl) ?_
  refine L.nil ?_
  refine N.seq ?_
  refine G.seq ?_
  refine G.region ?_
  refine L.val rfl rfl (R.mv rfl) ?_
  refine L.val rfl rfl (R.nilChk rfl) ?_
  refine L.val rfl rfl (R.fld rfl) ?_
  refine L.val rfl rfl (R.ldB rfl Bm rfl) ?_
  refine L.val rfl rfl (R.mv rfl) ?_
  refine L.callF rfl rfl rfl go77 (bsApiBusy_ok _ _ _ ps k _ om.cells rfl hok hs (by omega)) ?_
  rintro _ w1 ⟨rfl, e1⟩
  replace E := E.trans0 e1
  refine L.val rfl rfl (R.ext rfl rfl) ?_
  refine L.val rfl rfl (R.ext rfl rfl) ?_
  refine L.val rfl rfl (R.as rfl) ?_
  refine L.val rfl rfl (R.as rfl) ?_
  refine L.nil ?_
  refine N.seq ?_
  refine G.ret2 rfl rfl rfl ?_
  exact ⟨rfl, E⟩

theorem insApiBusy_ok (a : Option Addr) (n c : Nat) (ps : List (Pr (Int))) (M : List Nat) (i : Nat) (p : Pr (Int)) (vb : Nat) (w : World) (ho : Own w 117 (1 + 3) a n c (pcells ps) M) (hn : n = ps.length) (hok : OkP 3 ps) (hi : i ≤ n) (hp : p.2.length = 3 ∧ ∀ u ∈ p.2, u.oneCell' = true) (Bv : Blk w vb (pcell p).toArray 117 (0, 0)) (hvM : vb ∉ M) (hnl : n ≤ 1000000) : Meets Tryz.prog 48 [.slice a n c, .int .i64 (i : Int), .slice (some ⟨vb, 0, none⟩) 1 1] w (fun v w' => ∃ a' c' M', v = .slice a' (n + 1) c' ∧ Ext M w w' ∧ (∀ g ∈ M', g ∈ M ∨ w.heap.size ≤ g) ∧ Own w' 117 (1 + 3) a' (n + 1) c' (pcells (ps.take i ++ p :: ps.drop i)) M') := by
  refine Meets.enter Tryz.func48 rfl 95 rfl (Nat.le_of_ble_eq_true rfl) ?_
  have hl2 : (pcell p).length = 4 := by show p.2.length + 1 = _; rw [hp.1]
  have hp1 : ∀ u ∈ pcell p, u.oneCell' = true := pcell1 hp.2
  have hoc := ho.le
  have hps := (pcells_take (sv := 3) hok.len i (by omega))
  rw [show 1 + 3 = 4 from rfl] at hps
  have hcd : (pcells (ps.drop i)).length = (n - i) * 4 := by rw [pcells_len (sv := 3) (fun q hq => (hok q (List.mem_of_mem_drop hq)).1), List.length_drop, hn]
  have hci : (pcells (ps.take i)).length = i * 4 := by rw [pcells_len (sv := 3) (fun q hq => (hok q (List.mem_of_mem_take hq)).1), List.length_take, Nat.min_eq_left (by omega)]
  have hone := pcell_one hok
  have hone2 : ∀ u ∈ pcells (ps.drop i), u.oneCell' = true := fun u hu => hone u (by have h9 := hps.2; rw [← h9] at hu; exact List.mem_of_mem_drop hu)
  have Cv : Cells w (some ⟨vb, 0, none⟩) (pcell p) := Cells.of_blk Bv 0 _ (fun j v hj => by simpa using hj)
  refine G.seq ?_
  refine G.region ?_
  refine L.val rfl rfl (R.as rfl) ?_
  refine L.nil ?_
  refine N.seq ?_
  refine G.seq ?_
  refine G.region ?_
  refine L.val rfl rfl (R.mv rfl) ?_
  refine L.val rfl rfl (R.mv rfl) ?_
  refine L.val rfl rfl (R.slL rfl rfl (by omega) (by omega)) ?_
  refine L.nil ?_
  refine N.seq ?_
  refine G.seq ?_
  refine G.region ?_
  refine L.val rfl rfl (R.mv rfl) ?_
  refine L.val rfl rfl (R.lenS rfl) ?_
  refine L.val rfl rfl (R.as rfl) ?_
  refine L.nil ?_
  refine N.seq ?_
  refine G.seq ?_
  refine G.seq ?_
  refine G.region ?_
  refine L.val rfl rfl (R.mv rfl) ?_
  refine L.val rfl rfl (R.eqI rfl rfl) ?_
  refine L.nil ?_
  refine N.seq ?_
  refine G.condP rfl (fun h0 => ?_) (fun h0 => ?_)
  · exfalso; omega
  · refine G.skip ?_
    refine N.seq ?_
    refine G.seq ?_
    refine G.region ?_
    refine L.val rfl rfl (R.mv rfl) ?_
    refine L.val rfl rfl (R.lenS rfl) ?_
    refine L.val rfl rfl (R.as rfl) ?_
    refine L.nil ?_
    refine N.seq ?_
    refine G.seq ?_
    refine G.seq ?_
    refine G.region ?_
    refine L.val rfl rfl (R.mv rfl) ?_
    refine L.val rfl rfl (R.mv rfl) ?_
    refine L.val rfl rfl (R.eqI rfl rfl) ?_
    refine L.nil ?_
    refine N.seq ?_
    refine G.condP rfl (fun h1 => ?_) (fun h1 => ?_)
    · obtain rfl : i = n := by omega
      refine G.seq ?_
      refine G.region ?_
      refine L.val rfl rfl (R.mv rfl) ?_
      refine L.val rfl rfl (R.mv rfl) ?_
      refine L.do rfl rfl (R.app rfl rfl ho Cv (by rw [hl2]) hp1 (by simp [maxLen]; omega) (by omega)) ?_
      rintro _ w1 ⟨a1, c1, M1, rfl, e1, hM1, o1⟩
      refine L.val rfl rfl (R.as rfl) ?_
      refine L.nil ?_
      refine N.seq ?_
      refine G.ret1 rfl rfl ?_
      first
        | (have e9 : pcells ps ++ pcell p = pcells (ps.take i ++ p :: ps.drop i) := by rw [← pcells_ins, List.take_of_length_le (by omega), List.drop_of_length_le (by omega)]; simp [pcells]
           rw [e9] at o1; exact ⟨a1, c1, M1, rfl, e1, hM1, o1⟩)
        | (refine ⟨_, c1, [g1], rfl, n3.mono (by simp), fun x hx => .inr (by rw [List.mem_singleton.1 hx]; exact hg1), ?_⟩
           have hfin := hog.1; rw [pcells_ins, ← Nat.add_one_mul, ← Nat.add_mul, show i + 1 + (n - i) = n + 1 by omega] at hfin
           refine ⟨by rw [pcells_len (sv := 3) (fun q hq => (okIns hok hp q hq).1), List.length_append, List.length_cons, List.length_take, List.length_drop]; congr 1; omega, .inr ⟨g1, _, rfl, rfl, B3, by omega, hx1, ?_, hfin⟩⟩
           rw [← Nat.add_one_mul] at hog; rw [hog.2.2]; exact hz1)
        | (refine ⟨_, c, [g0], rfl, hE5, fun x hx => .inl hx, ?_⟩
           have hfin := hoi.1; rw [pcells_ins, ← Nat.add_one_mul] at hfin
           refine ⟨by rw [pcells_len (sv := 3) (fun q hq => (okIns hok hp q hq).1), List.length_append, List.length_cons, List.length_take, List.length_drop]; congr 1; omega, .inr ⟨g0, _, rfl, rfl, B5, by omega, hx0, ?_, hfin⟩⟩
           rw [hoi.2.2]; exact hz0)
    · have hin : i < n := by omega
      refine G.skip ?_
      refine N.seq ?_
      refine G.seq ?_
      refine G.seq ?_
      refine G.region ?_
      refine L.val rfl rfl (R.mv rfl) ?_
      refine L.val rfl rfl (R.mv rfl) ?_
      refine L.val rfl rfl (R.add rfl rfl (by omega)) ?_
      refine L.val rfl rfl (R.mv rfl) ?_
      refine L.val rfl rfl (R.capS rfl) ?_
      refine L.val rfl rfl (R.gtr rfl rfl) ?_
      refine L.nil ?_
      refine N.seq ?_
      refine G.condP rfl (fun h2 => ?_) (fun h2 => ?_)
      · have hgc : c < n + 1 := by omega
        refine G.seq ?_
        refine G.region ?_
        refine L.val rfl rfl (R.mv rfl) ?_
        refine L.val rfl rfl (R.mv rfl) ?_
        refine L.val rfl rfl (R.slH rfl rfl (by omega) (by omega)) ?_
        refine L.be 34 rfl (show _ = Value.slice a i c by rw [subA_zero, Int.toNat_natCast]) ?_
        refine L.val rfl rfl (R.mv rfl) ?_
        refine L.val rfl rfl (R.mv rfl) ?_
        refine L.val rfl rfl (R.add rfl rfl (by omega)) ?_
        refine L.val rfl rfl (R.mv rfl) ?_
        refine L.val rfl rfl (R.sub' rfl rfl (by omega)) ?_
        refine L.be 39 rfl (show _ = Value.int .i64 ((n + 1 - i : Nat) : Int) by congr 1; omega) ?_
        refine L.do rfl rfl (R.appZN (m := n + 1 - i) rfl rfl (ho.pre (i := i) (by omega)) (by intro u hu; simp [Value.cells] at hu; first | (rcases hu with rfl | rfl <;> rfl) | (rcases hu with rfl | rfl | rfl <;> rfl) | (rcases hu with rfl | rfl | rfl | rfl <;> rfl) | (rcases hu with rfl | rfl | rfl | rfl | rfl <;> rfl)) (by simp [maxLen]; omega) (by omega) (by decide) (by decide) (by omega)) ?_
        rintro _ w1 ⟨a1, c1, M1, rfl, e1, o1, hM1⟩
        rw [show i + (n + 1 - i) = n + 1 by omega] at o1 ⊢
        obtain ⟨g1, cur1, rfl, rfl, B1, hc1, hx1, hz1, ht1⟩ := o1.some (by omega)
        have hg1 := hM1 g1 (by simp)
        have hcu : (cur1.toList.take (i * 4)) = pcells (ps.take i) := by
          have h9 := congrArg (List.take (i * 4)) ht1
          rw [List.take_take, Nat.min_eq_left (Nat.mul_le_mul_right _ (by omega))] at h9
          refine h9.trans ?_
          show List.take (i * 4) (List.take (i * 4) (pcells ps) ++ _) = _
          rw [List.take_append_of_le_length (by rw [hps.1, hci]; exact Nat.le_refl _), List.take_take, Nat.min_self]
          exact hps.1
        have hzz : (n + 1) * 4 ≤ cur1.size := Nat.le_trans (Nat.mul_le_mul_right _ hc1) hz1
        have hog := over_grow (c1 := pcell p) (c2 := pcells (ps.drop i)) (s := 4) (K := (n - i) * 4) hcu (by omega) hl2 hcd (by omega)
        refine L.val rfl rfl (R.as rfl) ?_
        refine L.nil ?_
        refine N.seq ?_
        refine G.seq ?_
        refine G.region ?_
        refine L.val rfl rfl (R.mv rfl) ?_
        refine L.val rfl rfl (R.mv rfl) ?_
        refine L.val rfl rfl (R.slL rfl rfl (by omega) (by omega)) ?_
        refine L.be 43 rfl (show _ = Value.slice (some ⟨g1, i * 4, none⟩) (n + 1 - i) (c1 - i) by rw [Int.toNat_natCast, subA_lit (by omega), Nat.zero_add]) ?_
        refine L.val rfl rfl (R.mv rfl) ?_
        refine L.do rfl rfl (R.copyN (m := 1) rfl rfl B1 (Cv.ext0 e1) (Nat.min_eq_left (by omega)) (by rw [hl2]) (by rw [hl2]; omega) hp1) ?_
        rintro _ w2 ⟨rfl, P2⟩
        obtain ⟨e2, hs2, B2⟩ := P2
        have n2 := e1.news2 e2 hg1
        have Cd : Cells w2 (subA a i c 4) (pcells (ps.drop i)) := by
          have h9 := (ho.cells.ext0 n2).sub i c 4 ((n - i) * 4) (by rw [ho.1, show 1 + 3 = 4 from rfl, ← Nat.add_mul]; exact Nat.mul_le_mul_right _ (by omega)) (by omega)
          rw [hps.2, List.take_of_length_le (by omega)] at h9
          exact h9
        refine L.nil ?_
        refine N.seq ?_
        refine G.seq ?_
        refine G.staged [8] [.blocks ([g1])] [fun w' => Ext [] w2 w', fun w' => Ext [g1] w2 w' ∧ Blk w' g1 (Over (Over cur1 (i * 4) (pcell p)) ((i + 1) * 4) (pcells (ps.drop i))) 117 (0, 0)] [] (by decide +kernel) (by decide +kernel) rfl rfl rfl (fun _ h => h) ?_
        refine Z.val rfl rfl rfl rfl rfl (fun w3 => R.mv rfl) ?_
        refine Z.val rfl rfl rfl rfl rfl (fun w3 => R.mv rfl) ?_
        refine Z.val rfl rfl rfl rfl rfl (fun w3 => R.mv rfl) ?_
        refine Z.val rfl rfl rfl rfl rfl (fun w3 => R.add rfl rfl (by omega)) ?_
        refine Z.val rfl rfl rfl rfl rfl (fun w3 => R.slL rfl rfl (by omega) (by omega)) ?_
        refine Z.be 50 rfl (show _ = Value.slice (some ⟨g1, (i + 1) * 4, none⟩) (n - i) (c1 - (i + 1)) by rw [show ((i : Int) + ((1 : Nat) : Int)).toNat = i + 1 by omega, subA_lit (by omega), Nat.zero_add, show n + 1 - (i + 1) = n - i by omega]) ?_
        refine Z.val rfl rfl rfl rfl rfl (fun w3 => R.mv rfl) ?_
        refine Z.val rfl rfl rfl rfl rfl (fun w3 => R.mv rfl) ?_
        refine Z.val rfl rfl rfl rfl rfl (fun w3 => R.slL rfl rfl (by omega) (by omega)) ?_
        refine Z.be 53 rfl (show _ = Value.slice (subA a i c 4) (n - i) (c - i) by rw [Int.toNat_natCast]) ?_
        refine Z.put (A := fun v _ => True) (Lasts.kill (fun _ _ _ _ h => h) (by decide +kernel)) 0 (by decide +kernel) rfl rfl rfl rfl rfl rfl rfl (fun w3 hJ => (R.copyN (m := n - i) rfl rfl (B2.ext0 hJ) (Cd.ext0 hJ) (Nat.min_self _) hcd (by rw [hcd, hog.2.1]; omega) hone2).mono (fun v w9 h => by obtain ⟨_, h1, h2, h3⟩ := h; exact ⟨trivial, h1, h1.after hJ, h3⟩)) ?_
        refine Z.nil rfl rfl (fun w3 hJ => ?_)
        obtain ⟨e3, B3⟩ := hJ
        intro v54 _
        have n3 := n2.news2 e3 hg1
        refine N.seq ?_
        refine G.seq ?_
        refine G.region ?_
        refine L.val rfl rfl (R.mv rfl) ?_
        refine L.val rfl rfl (R.as rfl) ?_
        refine L.nil ?_
        refine N.seq ?_
        refine G.ret1 rfl rfl ?_
        first
          | (have e9 : pcells ps ++ pcell p = pcells (ps.take i ++ p :: ps.drop i) := by rw [← pcells_ins, List.take_of_length_le (by omega), List.drop_of_length_le (by omega)]; simp [pcells]
             rw [e9] at o1; exact ⟨a1, c1, M1, rfl, e1, hM1, o1⟩)
          | (refine ⟨_, c1, [g1], rfl, n3.mono (by simp), fun x hx => .inr (by rw [List.mem_singleton.1 hx]; exact hg1), ?_⟩
             have hfin := hog.1; rw [pcells_ins, ← Nat.add_one_mul, ← Nat.add_mul, show i + 1 + (n - i) = n + 1 by omega] at hfin
             refine ⟨by rw [pcells_len (sv := 3) (fun q hq => (okIns hok hp q hq).1), List.length_append, List.length_cons, List.length_take, List.length_drop]; congr 1; omega, .inr ⟨g1, _, rfl, rfl, B3, by omega, hx1, ?_, hfin⟩⟩
             rw [← Nat.add_one_mul] at hog; rw [hog.2.2]; exact hz1)
          | (refine ⟨_, c, [g0], rfl, hE5, fun x hx => .inl hx, ?_⟩
             have hfin := hoi.1; rw [pcells_ins, ← Nat.add_one_mul] at hfin
             refine ⟨by rw [pcells_len (sv := 3) (fun q hq => (okIns hok hp q hq).1), List.length_append, List.length_cons, List.length_take, List.length_drop]; congr 1; omega, .inr ⟨g0, _, rfl, rfl, B5, by omega, hx0, ?_, hfin⟩⟩
             rw [hoi.2.2]; exact hz0)
      · have hroom : n + 1 ≤ c := by omega
        obtain ⟨g0, cur0, rfl, rfl, B0, hc0, hx0, hz0, ht0⟩ := ho.some (by omega)
        have hzz : (n + 1) * 4 ≤ cur0.size := Nat.le_trans (Nat.mul_le_mul_right _ hroom) hz0
        have hxl : (pcells ps).length = n * 4 := ho.1
        have hoi := over_insert (s := 4) (A := i * 4) (L := n * 4) ht0 hxl (Nat.mul_le_mul_right _ (by omega)) hl2 (by omega)
        rw [hps.1, hps.2] at hoi
        have hro : i * 4 + 4 + (n - i) * 4 ≤ cur0.size := by
          have h9 : (i + 1 + (n - i)) * 4 ≤ cur0.size := by rw [show i + 1 + (n - i) = n + 1 by omega]; exact hzz
          rwa [Nat.add_mul, Nat.add_mul, Nat.one_mul] at h9
        have Cd : Cells w (some ⟨g0, i * 4, none⟩) (pcells (ps.drop i)) := Cells.of_blk B0 (i * 4) (pcells (ps.drop i)) (fun j v hj => by
          rw [← hps.2, ← ht0, List.drop_take, List.getElem?_take] at hj
          split at hj
          · simpa [List.getElem?_drop] using hj
          · cases hj)
        refine G.skip ?_
        refine N.seq ?_
        refine G.seq ?_
        refine G.region ?_
        refine L.val rfl rfl (R.mv rfl) ?_
        refine L.val rfl rfl (R.mv rfl) ?_
        refine L.val rfl rfl (R.mv rfl) ?_
        refine L.val rfl rfl (R.add rfl rfl (by omega)) ?_
        refine L.val rfl rfl (R.slH rfl rfl (by omega) (by omega)) ?_
        refine L.be 60 rfl (show _ = Value.slice (some ⟨g0, 0, none⟩) (n + 1) c by rw [subA_zero, show ((n : Int) + ((1 : Nat) : Int)).toNat = n + 1 by omega]) ?_
        refine L.val rfl rfl (R.as rfl) ?_
        refine L.nil ?_
        refine N.seq ?_
        refine G.seq ?_
        refine G.seq ?_
        refine G.region ?_
        refine L.val rfl rfl (R.mv rfl) ?_
        refine L.val rfl rfl (R.mv rfl) ?_
        refine L.val rfl rfl (R.mv rfl) ?_
        refine L.val rfl rfl (R.mv rfl) ?_
        refine L.val rfl rfl (R.add rfl rfl (by omega)) ?_
        refine L.val rfl rfl (R.slL rfl rfl (by omega) (by omega)) ?_
        refine L.be 66 rfl (show _ = Value.slice (subA (some ⟨g0, 0, none⟩) (i + 1) c 4) (n + 1 - (i + 1)) (c - (i + 1)) by rw [show ((i : Int) + ((1 : Nat) : Int)).toNat = i + 1 by omega]) ?_
        refine L.be 66 rfl (show _ = Value.slice (some ⟨g0, (i + 1) * 4, none⟩) (n - i) (c - (i + 1)) by rw [subA_lit (by omega), Nat.zero_add, show n + 1 - (i + 1) = n - i by omega]) ?_
        refine L.val rfl rfl (R.overlaps (A := (pcell p).toArray) (B := cur0) Tryz.func79 (by decide) rfl rfl rfl rfl rfl Bv B0 (by simpa using hvM) (by omega)) ?_
        refine L.val rfl rfl (R.not rfl) ?_
        refine L.nil ?_
        refine N.seq ?_
        refine G.condT rfl ?_
        refine G.seq ?_
        refine G.staged [8] [.blocks ([g0])] [fun w' => Ext [] w w', fun w' => Ext [g0] w w' ∧ Blk w' g0 (Over cur0 (i * 4 + 4) (pcells (ps.drop i))) 117 (0, 0)] [] (by decide +kernel) (by decide +kernel) rfl rfl rfl (fun _ h => h) ?_
        refine Z.val rfl rfl rfl rfl rfl (fun w1 => R.mv rfl) ?_
        refine Z.val rfl rfl rfl rfl rfl (fun w1 => R.mv rfl) ?_
        refine Z.val rfl rfl rfl rfl rfl (fun w1 => R.mv rfl) ?_
        refine Z.val rfl rfl rfl rfl rfl (fun w1 => R.add rfl rfl (by omega)) ?_
        refine Z.val rfl rfl rfl rfl rfl (fun w1 => R.slL rfl rfl (by omega) (by omega)) ?_
        refine Z.be 73 rfl (show _ = Value.slice (some ⟨g0, i * 4 + 4, none⟩) (n - i) (c - (i + 1)) by rw [show ((i : Int) + ((1 : Nat) : Int)).toNat = i + 1 by omega, subA_lit (by omega), Nat.zero_add, show n + 1 - (i + 1) = n - i by omega, Nat.add_mul]) ?_
        refine Z.val rfl rfl rfl rfl rfl (fun w1 => R.mv rfl) ?_
        refine Z.val rfl rfl rfl rfl rfl (fun w1 => R.mv rfl) ?_
        refine Z.val rfl rfl rfl rfl rfl (fun w1 => R.slL rfl rfl (by omega) (by omega)) ?_
        refine Z.be 76 rfl (show _ = Value.slice (some ⟨g0, i * 4, none⟩) (n + 1 - i) (c - i) by rw [Int.toNat_natCast, subA_lit (by omega), Nat.zero_add]) ?_
        refine Z.put (A := fun v _ => True) (Lasts.kill (fun _ _ _ _ h => h) (by decide +kernel)) 0 (by decide +kernel) rfl rfl rfl rfl rfl rfl rfl (fun w1 hJ => (R.copyN (m := n - i) rfl rfl (B0.ext0 hJ) (Cd.ext0 hJ) (Nat.min_eq_right (by omega)) hcd (by rw [hcd]; omega) hone2).mono (fun v w9 h => by obtain ⟨_, h1, h2, h3⟩ := h; exact ⟨trivial, h1, h1.after hJ, h3⟩)) ?_
        refine Z.nil rfl rfl (fun w1 hJ => ?_)
        obtain ⟨e3, B3⟩ := hJ
        intro v77 _
        have hvg : vb ≠ g0 := fun h => hvM (by rw [h]; simp)
        refine N.seq ?_
        refine G.seq ?_
        refine G.region ?_
        refine L.val rfl rfl (R.mv rfl) ?_
        refine L.val rfl rfl (R.mv rfl) ?_
        refine L.val rfl rfl (R.slL rfl rfl (by omega) (by omega)) ?_
        refine L.be 80 rfl (show _ = Value.slice (some ⟨g0, i * 4, none⟩) (n + 1 - i) (c - i) by rw [Int.toNat_natCast, subA_lit (by omega), Nat.zero_add]) ?_
        refine L.val rfl rfl (R.mv rfl) ?_
        refine L.do rfl rfl (R.copyN (m := 1) rfl rfl B3 (Cv.ext e3 (by intro q hq; cases hq; simpa using hvg)) (Nat.min_eq_left (by omega)) (by rw [hl2]) (by rw [hl2, hoi.2.1]; omega) hp1) ?_
        rintro _ w5 ⟨rfl, P5⟩
        obtain ⟨e5, hs5, B5⟩ := P5
        have hE5 := e3.transN e5 (fun x hx => .inl hx)
        refine L.nil ?_
        refine N.seq ?_
        refine G.seq ?_
        refine G.region ?_
        refine L.val rfl rfl (R.mv rfl) ?_
        refine L.val rfl rfl (R.as rfl) ?_
        refine L.nil ?_
        refine N.seq ?_
        refine G.ret1 rfl rfl ?_
        first
          | (have e9 : pcells ps ++ pcell p = pcells (ps.take i ++ p :: ps.drop i) := by rw [← pcells_ins, List.take_of_length_le (by omega), List.drop_of_length_le (by omega)]; simp [pcells]
             rw [e9] at o1; exact ⟨a1, c1, M1, rfl, e1, hM1, o1⟩)
          | (refine ⟨_, c1, [g1], rfl, n3.mono (by simp), fun x hx => .inr (by rw [List.mem_singleton.1 hx]; exact hg1), ?_⟩
             have hfin := hog.1; rw [pcells_ins, ← Nat.add_one_mul, ← Nat.add_mul, show i + 1 + (n - i) = n + 1 by omega] at hfin
             refine ⟨by rw [pcells_len (sv := 3) (fun q hq => (okIns hok hp q hq).1), List.length_append, List.length_cons, List.length_take, List.length_drop]; congr 1; omega, .inr ⟨g1, _, rfl, rfl, B3, by omega, hx1, ?_, hfin⟩⟩
             rw [← Nat.add_one_mul] at hog; rw [hog.2.2]; exact hz1)
          | (refine ⟨_, c, [g0], rfl, hE5, fun x hx => .inl hx, ?_⟩
             have hfin := hoi.1; rw [pcells_ins, ← Nat.add_one_mul] at hfin
             refine ⟨by rw [pcells_len (sv := 3) (fun q hq => (okIns hok hp q hq).1), List.length_append, List.length_cons, List.length_take, List.length_drop]; congr 1; omega, .inr ⟨g0, _, rfl, rfl, B5, by omega, hx0, ?_, hfin⟩⟩
             rw [hoi.2.2]; exact hz0)

end Go.Proofs.YtlhkpakbenghgaaGreat
/-
  The walks of package order.
-/
set_option linter.unusedVariables false
set_option linter.unusedSimpArgs false
set_option maxRecDepth 4000
namespace Go.Proofs.YtlhkpakbenghgaaGreat
open Go Brv
theorem scApiBusy_ok (a : Option Addr) (n c : Nat) (xs : List Value) (w : World) (hb : Cells w a xs) (hl : n * (1 + 3) = xs.length) (hone : ∀ u ∈ xs, u.oneCell' = true) (hn : n ≤ 1000000) : Meets Tryz.prog 51 [.slice a n c] w (Cloned w 117 (1 + 3) n xs) := by
  refine Meets.enter Tryz.func51 rfl 8 rfl (Nat.le_of_ble_eq_true rfl) ?_
  refine G.seq ?_
  refine G.region ?_
  refine L.val rfl rfl (R.as rfl) ?_
  refine L.nil ?_
  refine N.seq ?_
  refine G.seq ?_
  refine G.seq ?_
  refine G.region ?_
  refine L.val rfl rfl (R.mv rfl) ?_
  refine L.val rfl rfl (R.eqNilS rfl rfl) ?_
  refine L.nil ?_
  refine N.seq ?_
  refine G.condB rfl (fun h0 => ?_) (fun h0 => ?_)
  · obtain rfl : a = none := by simpa using h0
    obtain rfl := cells_none hb
    obtain rfl : n = 0 := by simp at hl; omega
    refine G.seq ?_
    refine G.region ?_
    refine L.val rfl rfl (R.as rfl) ?_
    refine L.nil ?_
    refine N.seq ?_
    refine G.ret1 rfl rfl ?_
    exact ⟨none, 0, [], rfl, Ext.refl _ _, Own.nil _ _ _, by simp⟩
  · refine G.skip ?_
    refine N.seq ?_
    refine G.seq ?_
    refine G.region ?_
    refine L.do rfl rfl (R.buildS rfl (by decide) rfl) ?_
    rintro _ w1 ⟨b5, rfl, hb5, hs5, e1, B5⟩
    have hb := hb.ext0 e1
    have o0 := Own.blk (n := 0) (size := 1 + 3) B5 (by simp) (by simp [maxLen])
    refine L.val rfl rfl (R.mv rfl) ?_
    refine L.do rfl rfl (R.app rfl rfl o0 hb hl.symm hone (by simp [maxLen]; omega) (by omega)) ?_
    rintro _ w2 ⟨a1, c1, M1, rfl, e2, hM1, o1⟩
    refine L.val rfl rfl (R.as rfl) ?_
    refine L.nil ?_
    refine N.seq ?_
    refine G.ret1 rfl rfl ?_
    exact ⟨a1, c1, M1, by rw [Nat.zero_add] , e1.trans e2 (by simp) (by simp; omega), by simpa using o1, by intro g hg; have := hM1 g hg; have := e1.size; simp at *; omega⟩

theorem onewApiBusy_ok  (w : World) : Meets Tryz.prog 19 [] w (fun v w' => ∃ b, v = .pointer (some ⟨b, 0, none⟩) ∧ w.heap.size ≤ b ∧ Ext [] w w' ∧ MapAt (κ := Int) 109 117 3 w' b [] [b]) := by
  refine Meets.enter Tryz.func19 rfl 3 rfl (Nat.le_of_ble_eq_true rfl) ?_
  have E := Ext.refl [] w
  refine G.seq ?_
  refine G.region ?_
  refine L.val rfl rfl (R.as rfl) ?_
  refine L.nil ?_
  refine N.seq ?_
  refine G.seq ?_
  refine G.region ?_
  refine L.val rfl rfl (R.build (cs := #[.slice none 0 0]) rfl rfl) ?_
  refine L.do rfl rfl (R.box rfl) ?_
  rintro _ w1 ⟨b, rfl, hb2, hs2, e1, B2⟩
  replace E := E.trans0 e1
  refine L.val rfl rfl (R.as rfl) ?_
  refine L.nil ?_
  refine N.seq ?_
  refine G.ret1 rfl rfl ?_
  exact ⟨b, rfl, by omega, E, MapAt.mk (M := []) (by simp) B2 rfl (Own.nil _ _ _) (by intro p hp; cases hp) List.Pairwise.nil⟩

def IsPrApiBusy (TP s : Nat) (p : Pr (Int)) (v : Value) (w : World) : Prop := ∃ vb, v = .slice (some ⟨vb, 0, none⟩) 1 1 ∧ s ≤ vb ∧ Blk w vb (pcell p).toArray TP (0, 0)
theorem IsPrApiBusy.keep (TP s : Nat) (p : Pr (Int)) : ∀ v w w', Ext [] w w' → IsPrApiBusy TP s p v w → IsPrApiBusy TP s p v w' := fun _ _ _ he ⟨vb, hv, h1, h2⟩ => ⟨vb, hv, h1, h2.ext0 he⟩
theorem putApiBusy_ok (m : Nat) (ps : List (Pr (Int))) (S : List Nat) (k : Int) (u : List Value) (w : World) (hd : MapAt (κ := Int) 109 117 3 w m ps S) (hl : ps.length ≤ 999999) (hu : u.length = 3 ∧ ∀ y ∈ u, y.oneCell' = true) : Meets Tryz.prog 23 [.pointer (some ⟨m, 0, none⟩), .int .i64 k, .agg u.toArray] w (fun v w' => v = .bool (!hasK ps k) ∧ ∃ S', Grown S S' w w' ∧ MapAt (κ := Int) 109 117 3 w' m (putK ps k u) S') := by
  refine Meets.enter Tryz.func23 rfl 39 rfl (Nat.le_of_ble_eq_true rfl) ?_
  have E := Ext.refl [] w
  have hd0 := hd
  obtain ⟨a, c, M, rfl, hm0, Bm, om, hok, hs⟩ := hd
  refine G.seq ?_
  refine G.region ?_
  refine L.do rfl rfl (R.box rfl) ?_
  rintro _ w1 ⟨b5, rfl, hb5, hs5, e1, B5⟩
  replace B5 : Blk w1 b5 u.toArray 45 (0, 0) := B5
  replace E := E.trans0 e1
  replace hd0 := hd0.ext0 e1
  replace Bm := Bm.ext0 e1
  replace om := om.ext0 e1
  refine L.val rfl rfl (R.as rfl) ?_
  refine L.nil ?_
  refine N.seq ?_
  refine G.seq ?_
  refine G.seq ?_
  refine G.region ?_
  refine L.val rfl rfl (R.mv rfl) ?_
  refine L.val rfl rfl (R.eqNilP rfl rfl) ?_
  refine L.nil ?_
  refine N.seq ?_
  refine G.condF rfl ?_
  refine G.skip ?_
  refine N.seq ?_
  refine G.seq ?_
  refine G.region ?_
  refine L.val rfl rfl (R.mv rfl) ?_
  refine L.val rfl rfl (R.mv rfl) ?_
  refine L.callF rfl rfl rfl go47 (findApiBusy_ok m ps (m :: M) k _ hd0 (by omega)) ?_
  rintro _ w2 ⟨rfl, e2⟩
  replace E := E.trans0 e2
  replace B5 := B5.ext0 e2
  replace Bm := Bm.ext0 e2
  replace om := om.ext0 e2
  refine L.val rfl rfl (R.mv rfl) ?_
  refine L.val rfl rfl (R.ext rfl rfl) ?_
  refine L.val rfl rfl (R.ext rfl rfl) ?_
  refine L.val rfl rfl (R.as rfl) ?_
  refine L.val rfl rfl (R.as rfl) ?_
  refine L.nil ?_
  refine N.seq ?_
  refine G.seq ?_
  refine G.seq ?_
  refine G.region ?_
  refine L.val rfl rfl (R.mv rfl) ?_
  refine L.nil ?_
  refine N.seq ?_
  refine G.condB rfl (fun h1 => ?_) (fun h1 => ?_)
  · have hk : hasK ps k = true := h1
    have hlt := hasK_lt hk
    obtain ⟨g, cur, rfl, rfl, Bg, hnc, hcm, hcs, ht⟩ := om.some (by omega)
    have hgm : m ≠ g := fun h => hm0 (by simp [h])
    have hsz : low ps k * 4 + 4 ≤ cur.size := by
      have h9 : (low ps k + 1) * 4 ≤ c * 4 := Nat.mul_le_mul_right _ (by omega)
      rw [Nat.add_mul, Nat.one_mul] at h9
      exact Nat.le_trans h9 hcs
    refine G.seq ?_
    refine G.staged [8] [.blocks ([g])] [Ext [] w2, fun w' => Ext [g] w2 w' ∧ Blk w' g (cur.toList.take (low ps k * 4 + 1) ++ u ++ cur.toList.drop (low ps k * 4 + 1 + u.length)).toArray 117 (0, 0)] [] (by decide +kernel) (by decide +kernel) rfl rfl rfl (fun _ h => h) ?_
    refine Z.val rfl rfl rfl rfl rfl (fun w3 => R.mv rfl) ?_
    refine Z.val rfl rfl rfl rfl rfl (fun w3 => R.nilChk rfl) ?_
    refine Z.val rfl rfl rfl rfl rfl (fun w3 => R.fld rfl) ?_
    refine Z.read 0 (by decide +kernel) rfl rfl rfl rfl rfl rfl (fun w3 hJ => R.ldB rfl (Bm.ext0 hJ) rfl) ?_
    refine Z.val rfl rfl rfl rfl rfl (fun w3 => R.mv rfl) ?_
    refine Z.read 0 (by decide +kernel) rfl rfl rfl rfl rfl rfl (fun w3 hJ => R.ldBN rfl (B5.ext0 hJ) (by simpa using hu.1)) ?_
    refine Z.val rfl rfl rfl rfl rfl (fun w3 => R.idx rfl rfl (by omega) (by omega) _ rfl) ?_
    refine Z.be 24 rfl (show _ = Value.pointer (some ⟨g, low ps k * 4, none⟩) by rw [Int.toNat_natCast, Go.Addr.add_lit, Nat.zero_add]) ?_
    refine Z.val rfl rfl rfl rfl rfl (fun w3 => R.fld rfl) ?_
    refine Z.set 0 (by decide +kernel) rfl rfl rfl rfl rfl rfl (fun w3 hJ => (R.stN (vs := u.toArray) rfl rfl (Bg.ext0 hJ) (by simpa using hu.1) (by have h9 := hu.1; simp; omega) (by simpa using hu.2)).mono (fun _ h => ⟨h.1, h.1.after hJ, h.2.2⟩)) ?_
    refine Z.nil rfl rfl (fun w3 hJ => ?_)
    obtain ⟨e3, Bg3⟩ := hJ
    replace Bm := Bm.ext e3 (by simpa using hgm)
    have o2 := own_set (v := u) rfl hok hs hk hu.1 hnc hcm hcs ht Bg3
    have X := e3.after E
    refine N.seq ?_
    refine G.seq ?_
    refine G.region ?_
    refine L.val rfl rfl (R.as rfl) ?_
    refine L.nil ?_
    refine N.seq ?_
    refine G.ret1 rfl rfl ?_
    first
      | exact ⟨by rw [hk]; rfl, [m, g], ⟨X.mono (fun x hx => .inl (List.mem_cons_of_mem _ hx)), fun x hx => .inl hx⟩, MapAt.mk hm0 Bm (by rw [put_len, if_pos hk]) o2 (hok.put hu) (sorted_put hs _ _)⟩
      | exact ⟨by rw [hk]; rfl, m :: M3, ⟨X, fun x hx => (List.mem_cons.1 hx).elim (fun h => .inl (by simp [h])) (fun h => (hM3 x h).elim (fun h => .inl (List.mem_cons_of_mem _ h)) (fun h => .inr (by omega)))⟩, MapAt.mk hm3 Bm3 (by rw [put_len, if_neg (by simp [hk])]) (by rw [putK_no hk]; exact o4) (hok.put hu) (sorted_put hs _ _)⟩
  · have hk : hasK ps k = false := h1
    have hio := low_le ps k
    have hMl := om.lt
    have hml := Bm.lt
    have hE2 := E.size
    have hsz2 : (pcell ((k, u) : Pr (Int))).length = 4 := by show u.length + 1 = _; rw [hu.1]
    refine G.skip ?_
    refine N.seq ?_
    refine G.seq ?_
    refine G.staged [10, 13] [.blocks (M), .blocks ([m])] [Ext [] w2, Ext M w2, fun w' => ∃ a3 c3 M3, Blk w' m #[.slice a3 (ps.length + 1) c3] 109 (0, 0) ∧ Own w' 117 (1 + 3) a3 (ps.length + 1) c3 (pcells (ps.take (low ps k) ++ ((k, u) : Pr (Int)) :: ps.drop (low ps k))) M3 ∧ (∀ g ∈ M3, g ∈ M ∨ w2.heap.size ≤ g) ∧ Ext (m :: M) w2 w'] [(10, 35), (13, 35), (13, 36)] (by decide +kernel) (by decide +kernel) rfl rfl rfl (fun _ h => h) ?_
    refine Z.val rfl rfl rfl rfl rfl (fun w3 => R.mv rfl) ?_
    refine Z.val rfl rfl rfl rfl rfl (fun w3 => R.mv rfl) ?_
    refine Z.val rfl rfl rfl rfl rfl (fun w3 => R.nilChk rfl) ?_
    refine Z.val rfl rfl rfl rfl rfl (fun w3 => R.fld rfl) ?_
    refine Z.read 0 (by decide +kernel) rfl rfl rfl rfl rfl rfl (fun w3 hJ => R.ldB rfl (Bm.ext0 hJ) rfl) ?_
    refine Z.val rfl rfl rfl rfl rfl (fun w3 => R.mv rfl) ?_
    refine Z.val rfl rfl rfl rfl rfl (fun w3 => R.mv rfl) ?_
    refine Z.read 0 (by decide +kernel) rfl rfl rfl rfl rfl rfl (fun w3 hJ => R.ldBN rfl (B5.ext0 hJ) (by simpa using hu.1)) ?_
    refine Z.val rfl rfl rfl rfl rfl (fun w3 => R.build (cs := (pcell ((k, u) : Pr (Int))).toArray) rfl (fill_two rfl rfl rfl (by simpa using hu.1) rfl)) ?_
    refine Z.new (A := IsPrApiBusy 117 w2.heap.size ((k, u) : Pr (Int))) (Lasts.kill (IsPrApiBusy.keep _ _ _) (by decide +kernel)) 0 (by decide +kernel) rfl rfl rfl rfl rfl (fun w3 hJ => (R.buildA rfl rfl rfl rfl (by show (Nat.beq (pcell ((k, u) : Pr (Int))).toArray.size 4 && true) = true; rw [List.size_toArray, hsz2]; rfl)).mono (fun v w1 h => by obtain ⟨g9, rfl, h91, _, e9, B9⟩ := h; exact ⟨⟨g9, rfl, by have := hJ.size; omega, by simpa [cellsOf, Value.cells] using B9⟩, e9, hJ.trans0 e9⟩)) ?_
    refine Z.callPut (A := Held M w2.heap.size 117 (1 + 3) (ps.length + 1) (pcells (ps.take (low ps k) ++ ((k, u) : Pr (Int)) :: ps.drop (low ps k)))) (Lasts.kill (Held.keep _ _ _ _ _ _) (by decide +kernel)) 0 (by decide +kernel) rfl rfl rfl rfl rfl rfl go48 (fun w3 hJ => fun v hv => by obtain ⟨vb, rfl, hvb, Bv⟩ := hv; exact ⟨_, rfl, (insApiBusy_ok a ps.length c ps M (low ps k) ((k, u) : Pr (Int)) vb _ (om.ext0 hJ) rfl hok hio hu Bv (fun h => by have := hMl vb h; omega) (by omega)).mono (fun v w9 h => by obtain ⟨a3, c3, M3, rfl, e9, hM3, o3⟩ := h; exact ⟨⟨a3, c3, M3, rfl, o3, fun g hg => (hM3 g hg).imp id (Nat.le_trans hJ.size)⟩, e9, e9.after hJ⟩)⟩) ?_
    refine Z.val rfl rfl rfl rfl rfl (fun w3 => R.nilChk rfl) ?_
    refine Z.val rfl rfl rfl rfl rfl (fun w3 => R.fld rfl) ?_
    refine Z.set 1 (by decide +kernel) rfl rfl rfl rfl rfl rfl (fun w3 hJ => fun v hv => (R.st rfl rfl (Bm.ext hJ hm0) (by show 0 < 1; decide) (by obtain ⟨_, _, _, rfl, _⟩ := hv; rfl)).mono (fun _ h => ⟨h.1, by obtain ⟨a3, c3, M3, rfl, o3, hM3⟩ := hv; exact ⟨a3, c3, M3, h.2.2, o3.ext h.1 (fun g hg hm => (hM3 g hg).elim (fun h9 => hm0 (by rw [← List.mem_singleton.1 hm]; exact h9)) (fun h9 => by rw [List.mem_singleton.1 hm] at h9; omega)), hM3, (hJ.mono (fun y hy => .inl (List.mem_cons_of_mem _ hy))).transN h.1 (fun y hy => .inl (by rw [List.mem_singleton.1 hy]; simp))⟩⟩)) ?_
    refine Z.nil rfl rfl (fun w3 hJ => ?_)
    obtain ⟨a3, c3, M3, Bm3, o4, hM3, X0⟩ := hJ
    have X := X0.after E
    have hm3 : m ∉ M3 := fun h => (hM3 m h).elim hm0 (by omega)
    refine N.seq ?_
    refine G.seq ?_
    refine G.region ?_
    refine L.val rfl rfl (R.as rfl) ?_
    refine L.nil ?_
    refine N.seq ?_
    refine G.ret1 rfl rfl ?_
    first
      | exact ⟨by rw [hk]; rfl, [m, g], ⟨X.mono (fun x hx => .inl (List.mem_cons_of_mem _ hx)), fun x hx => .inl hx⟩, MapAt.mk hm0 Bm (by rw [put_len, if_pos hk]) o2 (hok.put hu) (sorted_put hs _ _)⟩
      | exact ⟨by rw [hk]; rfl, m :: M3, ⟨X, fun x hx => (List.mem_cons.1 hx).elim (fun h => .inl (by simp [h])) (fun h => (hM3 x h).elim (fun h => .inl (List.mem_cons_of_mem _ h)) (fun h => .inr (by omega)))⟩, MapAt.mk hm3 Bm3 (by rw [put_len, if_neg (by simp [hk])]) (by rw [putK_no hk]; exact o4) (hok.put hu) (sorted_put hs _ _)⟩

theorem getApiBusy_ok (m : Nat) (ps : List (Pr (Int))) (S : List Nat) (k : Int) (w : World) (hd : MapAt (κ := Int) 109 117 3 w m ps S) (hl : ps.length ≤ 999999) : Meets Tryz.prog 22 [.pointer (some ⟨m, 0, none⟩), .int .i64 k] w (fun v w' => v = .tuple #[gvA (.agg #[.int .i64 0, .int .i64 0, .int .i64 0]) (getK ps k), .bool (hasK ps k)] ∧ Ext [] w w') := by
  refine Meets.enter Tryz.func22 rfl 29 rfl (Nat.le_of_ble_eq_true rfl) ?_
  have E := Ext.refl [] w
  have hd0 := hd
  obtain ⟨a, c, M, rfl, hm0, Bm, om, hok, hs⟩ := hd
  refine G.seq ?_
  refine G.region ?_
  refine L.do rfl rfl (R.alloc) ?_
  rintro _ w1 ⟨b4, rfl, hb4, hs4, e1, B4⟩
  replace B4 : Blk w1 b4 #[.int .i64 0, .int .i64 0, .int .i64 0] 45 (0, 0) := B4
  replace E := E.trans0 e1
  replace hd0 := hd0.ext0 e1
  replace Bm := Bm.ext0 e1
  replace om := om.ext0 e1
  refine L.val rfl rfl (R.as rfl) ?_
  refine L.nil ?_
  refine N.seq ?_
  refine G.seq ?_
  refine G.region ?_
  refine L.do rfl rfl (R.alloc) ?_
  rintro _ w2 ⟨b6, rfl, hb6, hs6, e2, B6⟩
  replace B6 : Blk w2 b6 #[.int .i64 0, .int .i64 0, .int .i64 0] 45 (0, 0) := B6
  replace E := E.trans0 e2
  replace hd0 := hd0.ext0 e2
  replace Bm := Bm.ext0 e2
  replace om := om.ext0 e2
  replace B4 := B4.ext0 e2
  refine L.nil ?_
  refine N.seq ?_
  refine G.seq ?_
  refine G.seq ?_
  refine G.region ?_
  refine L.val rfl rfl (R.mv rfl) ?_
  refine L.val rfl rfl (R.eqNilP rfl rfl) ?_
  refine L.nil ?_
  refine N.seq ?_
  refine G.condF rfl ?_
  refine G.skip ?_
  refine N.seq ?_
  refine G.seq ?_
  refine G.region ?_
  refine L.val rfl rfl (R.mv rfl) ?_
  refine L.val rfl rfl (R.mv rfl) ?_
  refine L.callF rfl rfl rfl go47 (findApiBusy_ok m ps (m :: M) k _ hd0 (by omega)) ?_
  rintro _ w3 ⟨rfl, e3⟩
  replace E := E.trans0 e3
  have l4 := B4.lt
  have hE3 := E.size
  replace Bm := Bm.ext0 e3
  replace om := om.ext0 e3
  replace B4 := B4.ext0 e3
  replace B6 := B6.ext0 e3
  refine L.val rfl rfl (R.mv rfl) ?_
  refine L.val rfl rfl (R.ext rfl rfl) ?_
  refine L.val rfl rfl (R.ext rfl rfl) ?_
  refine L.val rfl rfl (R.as rfl) ?_
  refine L.val rfl rfl (R.as rfl) ?_
  refine L.nil ?_
  refine N.seq ?_
  refine G.seq ?_
  refine G.seq ?_
  refine G.region ?_
  refine L.val rfl rfl (R.mv rfl) ?_
  refine L.val rfl rfl (R.not rfl) ?_
  refine L.nil ?_
  refine N.seq ?_
  refine G.condB rfl (fun h1 => ?_) (fun h1 => ?_)
  · have hk : hasK ps k = false := by simpa using h1
    have hsz4 : (#[.int .i64 0, .int .i64 0, .int .i64 0] : Array Value).size = 3 := rfl
    refine G.seq ?_
    refine G.region ?_
    refine L.val rfl rfl (R.ldBN rfl B6 rfl) ?_
    refine L.set rfl (R.stN rfl rfl B4 rfl (Nat.le_refl 3) (by intro y hy; simp at hy; first | (subst hy; rfl) | (rcases hy with rfl | rfl <;> rfl) | (rcases hy with rfl | rfl | rfl <;> rfl) | (rcases hy with rfl | rfl | rfl | rfl <;> rfl) | (rcases hy with rfl | rfl | rfl | rfl | rfl <;> rfl))) ?_
    rintro w5 ⟨e5, hs5, B4⟩
    replace B4 : Blk w5 b4 #[.int .i64 0, .int .i64 0, .int .i64 0] 45 (0, 0) := B4
    replace E := E.trans e5 (M := []) (by simp) (by intro y hy; rw [List.mem_singleton.1 hy]; exact .inr (by omega))
    refine L.val rfl rfl (R.as rfl) ?_
    refine L.nil ?_
    refine N.seq ?_
    refine G.retCT (s := 3) rfl rfl rfl B4 hsz4 ?_
    first
      | (rw [getK_no hk, hk]; exact ⟨rfl, E⟩)
      | (rw [getK_yes hk hp, hk]; exact ⟨rfl, E⟩)
  · have hk : hasK ps k = true := by simpa using h1
    have hlt := hasK_lt hk
    obtain ⟨g, cur, rfl, rfl, Bg, hnc, hcm, hcs, ht⟩ := om.some (by omega)
    have hgm : m ≠ g := fun h => hm0 (by simp [h])
    have hsz : low ps k * 4 + 4 ≤ cur.size := by
      have h9 : (low ps k + 1) * 4 ≤ c * 4 := Nat.mul_le_mul_right _ (by omega)
      rw [Nat.add_mul, Nat.one_mul] at h9
      exact Nat.le_trans h9 hcs
    obtain ⟨p, hp⟩ : ∃ p, ps[low ps k]? = some p := ⟨_, List.getElem?_eq_getElem hlt⟩
    have hpl := hok p (List.mem_of_getElem? hp)
    have hsz4 : p.2.toArray.size = 3 := by simpa using hpl.1
    refine G.skip ?_
    refine N.seq ?_
    refine G.seq ?_
    refine G.region ?_
    refine L.val rfl rfl (R.mv rfl) ?_
    refine L.val rfl rfl (R.nilChk rfl) ?_
    refine L.val rfl rfl (R.fld rfl) ?_
    refine L.val rfl rfl (R.ldB rfl Bm rfl) ?_
    refine L.val rfl rfl (R.mv rfl) ?_
    refine L.val rfl rfl (R.idx rfl rfl (by omega) (by omega) _ rfl) ?_
    refine L.be 26 rfl (show _ = Value.pointer (some ⟨g, low ps k * 4, none⟩) by rw [Int.toNat_natCast, Go.Addr.add_lit, Nat.zero_add]) ?_
    refine L.val rfl rfl (R.fld rfl) ?_
    refine L.val rfl rfl (R.ldN (vs := p.2) rfl (Cells.of_blk Bg (low ps k * 4 + 1) p.2 (fun j v hj => by rw [Nat.add_assoc]; exact row_at ht hok hp (by show (Key.val p.1 :: p.2)[1 + j]? = some v; rw [Nat.add_comm 1 j]; exact hj))) hpl.1) ?_
    refine L.set rfl (R.stN (vs := p.2.toArray) rfl rfl B4 hsz4 (by show 0 + p.2.toArray.size ≤ 3; omega) (by simpa using hpl.2)) ?_
    rintro w5 ⟨e5, hs5, B4⟩
    rw [over_all (show (#[.int .i64 0, .int .i64 0, .int .i64 0] : Array Value).size = p.2.toArray.size from hsz4.symm)] at B4
    replace E := E.trans e5 (M := []) (by simp) (by intro y hy; rw [List.mem_singleton.1 hy]; exact .inr (by omega))
    refine L.val rfl rfl (R.as rfl) ?_
    refine L.nil ?_
    refine N.seq ?_
    refine G.retCT (s := 3) rfl rfl rfl B4 hsz4 ?_
    first
      | (rw [getK_no hk, hk]; exact ⟨rfl, E⟩)
      | (rw [getK_yes hk hp, hk]; exact ⟨rfl, E⟩)

end Go.Proofs.YtlhkpakbenghgaaGreat
/-
  The walks of package order.
-/
set_option linter.unusedVariables false
set_option linter.unusedSimpArgs false
set_option maxRecDepth 4000
namespace Go.Proofs.YtlhkpakbenghgaaGreat
open Go Brv
theorem pallApiBusy_ok (a : Option Addr) (n c : Nat) (w : World) : Meets Tryz.prog 50 [.slice a n c] w (fun v w' => ∃ b0, v = .func (.func 82) #[] #[.pointer (some ⟨b0, 0, none⟩)] ∧ Ext [] w w' ∧ Blk w' b0 #[.slice a n c] 107 (0, 0) ∧ w.heap.size ≤ b0) := by
  refine Meets.enter Tryz.func50 rfl 4 rfl (Nat.le_of_ble_eq_true rfl) ?_
  have E := Ext.refl [] w
  refine G.seq ?_
  refine G.region ?_
  refine L.do rfl rfl (R.box rfl) ?_
  rintro _ w1 ⟨b0, rfl, hb1, hs1, e1, B1⟩
  replace E := E.trans0 e1
  refine L.val rfl rfl (R.as rfl) ?_
  refine L.nil ?_
  refine N.seq ?_
  refine G.seq ?_
  refine G.region ?_
  refine L.val rfl rfl (R.mkFunc rfl rfl) ?_
  refine L.val rfl rfl (R.as rfl) ?_
  refine L.nil ?_
  refine N.seq ?_
  refine G.ret1 rfl rfl ?_
  exact ⟨b0, rfl, E, B1, by omega⟩

theorem pall1ApiBusy_ok (y : Value) (b0 : Nat) (a : Option Addr) (n c : Nat) (ps : List (Pr (Int))) (Ma : List Nat) (D₀ : List Nat) (J Jx : Nat → List Nat → World → Prop) (w : World) (hB0 : Blk w b0 #[.slice a n c] 107 (0, 0)) (ho : Own w 117 (1 + 3) a n c (pcells ps) Ma) (hn : n = ps.length) (hok : OkP 3 ps) (hnl : n ≤ 1000000) (hD : ∀ g ∈ D₀, g < w.heap.size ∧ g ∉ b0 :: Ma ∧ g ∉ ([] : List Nat)) (hJ : ∀ k D W₁ W₂ M', J k D W₁ → Ext M' W₁ W₂ → (∀ g ∈ M', g ∉ D ∧ (g ∈ ([] : List Nat) ∨ w.heap.size ≤ g)) → J k D W₂) (hJx : ∀ k D W₁ W₂ M', Jx k D W₁ → Ext M' W₁ W₂ → (∀ g ∈ M', g ∉ D ∧ (g ∈ ([] : List Nat) ∨ w.heap.size ≤ g)) → Jx k D W₂) (hY : ∀ k D vs W₁, k < n → J k D W₁ → prE (fun k => ps[k]?) k vs W₁ → (∀ g ∈ D, g < W₁.heap.size) → YCall Tryz.prog y vs W₁ fun b W₂ => ∃ D', Ext D W₁ W₂ ∧ (∀ g ∈ D', g < W₂.heap.size ∧ (g ∈ D ∨ W₁.heap.size ≤ g)) ∧ (b = true → J (k + 1) D' W₂) ∧ (b = false → Jx (k + 1) D' W₂)) (h0 : J 0 D₀ w) : Meets Tryz.prog 82 [y, .pointer (some ⟨b0, 0, none⟩)] w (fun _ W₂ => (∃ D, J n D W₂ ∧ True) ∨ ∃ k D, k ≤ n ∧ Jx k D W₂ ∧ True) := by
  refine Meets.enter Tryz.func82 rfl 18 rfl (Nat.le_of_ble_eq_true rfl) ?_
  have hb0D : b0 ∉ D₀ := fun h => (hD _ h).2.1 (by simp)
  have hMD : ∀ g ∈ Ma, g ∉ D₀ := fun g hg h => (hD _ h).2.1 (by simp [hg])
  refine G.seq ?_
  refine G.region ?_
  refine L.val rfl rfl (R.ldB rfl hB0 rfl) ?_
  refine L.val rfl rfl (R.lenS rfl) ?_
  refine L.val rfl rfl (R.mv rfl) ?_
  refine L.nil ?_
  refine N.seq ?_
  refine G.block ?_
  refine G.loop (X := Nat) (fun i => [(0, y), (5, .slice a n c), (6, .int .i64 (n : Int)), (7, .int .i64 (i : Int))]) (fun i w' => i ≤ n ∧ (∃ D, J i D w' ∧ ∀ g ∈ D, g < w'.heap.size ∧ (g ∈ D₀ ∨ w.heap.size ≤ g)) ∧ Ext D₀ w w') (fun i => n - i) (0) (Sub.cons rfl (Sub.cons rfl (Sub.cons rfl (Sub.cons rfl (Sub.nil _))))) ⟨Nat.zero_le _, ⟨D₀, h0, fun g hg => ⟨(hD g hg).1, .inl hg⟩⟩, Ext.refl _ _⟩ ?_
  rintro i w1 ⟨hi, ⟨D, hJi, hDD⟩, e1⟩
  have ho1 := ho.ext e1 hMD
  have B0 := hB0.ext e1 hb0D
  refine G.seq ?_
  refine G.region ?_
  refine L.val rfl rfl (R.lss rfl rfl) ?_
  refine L.nil ?_
  refine N.seq ?_
  refine G.seq ?_
  refine G.condP rfl (fun h0 => ?_) (fun h0 => ?_)
  · have hil : i < n := by omega
    have hes := e1.size
    obtain ⟨p, hp⟩ : ∃ p, ps[i]? = some p := ⟨_, List.getElem?_eq_getElem (by omega)⟩
    obtain ⟨q, hq, hcl⟩ := (Tab.pairs ho1.cells hn hok).at (by decide) i (by rw [List.length_map]; omega)
    have he : (ps.map pcell)[i]'(by rw [List.length_map]; omega) = pcell p := by rw [List.getElem_map]; exact congrArg pcell (List.getElem?_eq_some_iff.1 hp).2
    rw [he] at hcl
    have hsz : (pcell p).length = 4 := by show p.2.length + 1 = _; rw [(hok p (List.mem_of_getElem? hp)).1]
    have hsA : (pcell p).toArray.size = 4 := by rw [List.size_toArray]; exact hsz
    have h1c : ∀ u ∈ (pcell p).toArray.toList, u.oneCell' = true := pcell1 (hok p (List.mem_of_getElem? hp)).2
    refine G.skip ?_
    refine N.seq ?_
    refine G.seq ?_
    refine G.block ?_
    refine G.seq ?_
    refine G.region ?_
    refine L.val rfl rfl (R.mv rfl) ?_
    refine L.val rfl rfl (R.idx rfl rfl (by omega) (by omega) q hq) ?_
    refine L.val rfl rfl (R.ldN (vs := pcell p) rfl hcl hsz) ?_
    refine L.do rfl rfl (R.alloc) ?_
    rintro _ w2 ⟨b4, rfl, hb4, hs4, e2, B4⟩
    have hDb : ∀ g ∈ D, g < b4 := fun g hg => by have := (hDD g hg).1; omega
    replace B4 : Blk w2 b4 (.agg #[.int .i64 0, .int .i64 0, .int .i64 0, .int .i64 0] : Value).cells 117 (0, 0) := B4
    replace hJi := hJ _ D w1 w2 [] hJi e2 (by simp)
    replace hDD := fun g hg => And.intro (Nat.lt_of_lt_of_le (hDD g hg).1 e2.size) (hDD g hg).2
    replace e1 := e1.trans0 e2
    have hws := e1.size
    refine L.val rfl rfl (R.as rfl) ?_
    refine L.set rfl (R.stN rfl rfl B4 hsA (by show 0 + (pcell p).toArray.size ≤ 4; omega) h1c) ?_
    rintro w3 ⟨e3, hs3, B4⟩
    rw [over_all (show (.agg #[.int .i64 0, .int .i64 0, .int .i64 0, .int .i64 0] : Value).cells.size = (pcell p).toArray.size from hsA.symm)] at B4
    replace hJi := hJ _ D w2 w3 [b4] hJi e3 (fun g hg => by rw [List.mem_singleton.1 hg]; exact ⟨fun h => by have := hDb _ h; omega, .inr (by omega)⟩)
    replace hDD := fun g hg => And.intro (Nat.lt_of_lt_of_le (hDD g hg).1 e3.size) (hDD g hg).2
    replace e1 := e1.transN e3 (fun g hg => .inr (by rw [List.mem_singleton.1 hg]; omega))
    refine L.nil ?_
    refine N.seq ?_
    refine G.seq ?_
    refine G.region ?_
    refine L.val rfl rfl (R.mv rfl) ?_
    refine L.val rfl rfl (R.mv rfl) ?_
    refine L.val rfl rfl (R.ldBN rfl B4 hsA) ?_
    refine L.ycall rfl rfl rfl rfl (hY i D _ _ hil hJi ⟨p, _, hp, rfl⟩ (fun g hg => (hDD g hg).1)) ?_
    rintro bb w4 ⟨D2, eD, hD2, hT, hF⟩
    refine L.val rfl rfl (R.not rfl) ?_
    refine L.nil ?_
    refine N.seq ?_
    refine G.condB rfl (fun h1 => ?_) (fun h1 => ?_)
    · obtain rfl : bb = false := by simpa using h1
      refine G.ret0 rfl ?_
      exact .inr ⟨i + 1, D2, by omega, hF rfl, trivial⟩
    · obtain rfl : bb = true := by simpa using h1
      refine G.skip ?_
      refine N.block ?_
      refine N.seq ?_
      refine G.region ?_
      refine L.val rfl rfl (R.add rfl rfl (by omega)) ?_
      refine L.val rfl rfl (R.mv rfl) ?_
      refine L.nil ?_
      exact N.again (i + 1) (by omega) (Sub.cons rfl (Sub.cons rfl (Sub.cons rfl (Sub.cons rfl (Sub.nil _))))) ⟨by omega, ⟨D2, hT rfl, fun g hg => ⟨(hD2 g hg).1, (hD2 g hg).2.elim (fun h => (hDD g h).2) (fun h => .inr (Nat.le_trans e1.size h))⟩⟩, e1.transN eD (fun g hg => (hDD g hg).2)⟩
  · refine G.exit _ rfl ?_
    refine N.end0 rfl ?_
    obtain rfl : i = n := by omega
    exact .inl ⟨D, hJi, trivial⟩

theorem pallApiBusy_iter (b0 : Nat) (a : Option Addr) (n c : Nat) (ps : List (Pr (Int))) (Ma : List Nat) (w : World) (hB0 : Blk w b0 #[.slice a n c] 107 (0, 0)) (ho : Own w 117 (1 + 3) a n c (pcells ps) Ma) (hn : n = ps.length) (hok : OkP 3 ps) (hnl : n ≤ 1000000) : Iter Tryz.prog 82 [.pointer (some ⟨b0, 0, none⟩)] w n (prE (fun k => ps[k]?)) (fun _ _ => True) (b0 :: Ma) [] := by
  intro y D₀ J Jx W hE hD hJ hJx hY h0
  exact pall1ApiBusy_ok y b0 a n c ps Ma D₀ J Jx W (hB0.ext0 hE) (ho.ext0 hE) hn hok hnl hD (fun k D W₁ W₂ M' h he hm => hJ k D W₁ W₂ M' h he (fun g hg => ⟨(hm g hg).1, (hm g hg).2.imp id (Nat.le_trans hE.size)⟩)) (fun k D W₁ W₂ M' h he hm => hJx k D W₁ W₂ M' h he (fun g hg => ⟨(hm g hg).1, (hm g hg).2.imp id (Nat.le_trans hE.size)⟩)) hY h0

theorem walkApiBusy_ok (gf : FuncId) (lb : List Value) (w : World) : Meets Tryz.prog 49 [.func (.func gf) #[] lb.toArray] w (fun v w' => ∃ b1, v = .func (.func 81) #[] #[.pointer (some ⟨b1, 0, none⟩)] ∧ Ext [] w w' ∧ Blk w' b1 #[.func (.func gf) #[] lb.toArray] 121 (0, 0) ∧ w.heap.size ≤ b1) := by
  refine Meets.enter Tryz.func49 rfl 4 rfl (Nat.le_of_ble_eq_true rfl) ?_
  have E := Ext.refl [] w
  refine G.seq ?_
  refine G.region ?_
  refine L.do rfl rfl (R.box rfl) ?_
  rintro _ w1 ⟨b1, rfl, hb1, hs1, e1, B1⟩
  replace E := E.trans0 e1
  refine L.val rfl rfl (R.as rfl) ?_
  refine L.nil ?_
  refine N.seq ?_
  refine G.seq ?_
  refine G.region ?_
  refine L.val rfl rfl (R.mkFunc rfl rfl) ?_
  refine L.val rfl rfl (R.as rfl) ?_
  refine L.nil ?_
  refine N.seq ?_
  refine G.ret1 rfl rfl ?_
  exact ⟨b1, rfl, E, B1, by omega⟩

theorem walk1ApiBusy_ok (y : Value) (b1 : Nat) (gf : FuncId) (lb : List Value) (Nn : Nat) (q : Nat → Option (Pr (Int))) (F : List Nat) (D₀ : List Nat) (J Jx : Nat → List Nat → World → Prop) (w : World) (hB1 : Blk w b1 #[.func (.func gf) #[] lb.toArray] 121 (0, 0)) (eg : ∀ (vs : Array Value) w, (callFunc gf vs).run Tryz.prog w = .ok (.enter gf vs) w) (hit : ∀ W, Ext [] w W → Iter Tryz.prog gf lb W Nn (prE q) (fun _ _ => True) F []) (hF : ∀ x ∈ F, x < w.heap.size) (hq : ∀ k (p : Pr (Int)), q k = some p → p.2.length = 3 ∧ ∀ u ∈ p.2, u.oneCell' = true) (hD : ∀ g ∈ D₀, g < w.heap.size ∧ g ∉ b1 :: F ∧ g ∉ ([] : List Nat)) (hJ : ∀ k D W₁ W₂ M', J k D W₁ → Ext M' W₁ W₂ → (∀ g ∈ M', g ∉ D ∧ (g ∈ ([] : List Nat) ∨ w.heap.size ≤ g)) → J k D W₂) (hJx : ∀ k D W₁ W₂ M', Jx k D W₁ → Ext M' W₁ W₂ → (∀ g ∈ M', g ∉ D ∧ (g ∈ ([] : List Nat) ∨ w.heap.size ≤ g)) → Jx k D W₂) (hY : ∀ k D vs W₁, k < Nn → J k D W₁ → (kvE (fun l => Value.agg l.toArray) q) k vs W₁ → (∀ g ∈ D, g < W₁.heap.size) → YCall Tryz.prog y vs W₁ fun b W₂ => ∃ D', Ext D W₁ W₂ ∧ (∀ g ∈ D', g < W₂.heap.size ∧ (g ∈ D ∨ W₁.heap.size ≤ g)) ∧ (b = true → J (k + 1) D' W₂) ∧ (b = false → Jx (k + 1) D' W₂)) (h0 : J 0 D₀ w) : Meets Tryz.prog 81 [y, .pointer (some ⟨b1, 0, none⟩)] w (fun _ W₂ => (∃ D, J Nn D W₂ ∧ True) ∨ ∃ k D, k ≤ Nn ∧ Jx k D W₂ ∧ True) := by
  refine Meets.enter Tryz.func81 rfl 15 rfl (Nat.le_of_ble_eq_true rfl) ?_
  refine G.seq ?_
  refine G.region ?_
  refine L.do rfl rfl (R.box rfl) ?_
  rintro _ w1 ⟨b2, rfl, hb2, hs2, e1, B2⟩
  have hw1 := e1.size
  refine L.nil ?_
  refine N.seq ?_
  refine G.seq ?_
  refine G.region ?_
  refine L.val rfl rfl (R.ldB rfl (hB1.ext0 e1) rfl) ?_
  refine L.nil ?_
  refine N.seq ?_
  refine G.block ?_
  have hD0 : ∀ g ∈ b2 :: D₀, g < w1.heap.size ∧ g ∉ F ∧ g ∉ ([] : List Nat) := by
    intro g hg
    rcases List.mem_cons.1 hg with rfl | hg
    · exact ⟨by omega, fun h => by have := hF _ h; omega, by simp⟩
    · exact ⟨Nat.lt_of_lt_of_le (hD g hg).1 hw1, fun h => (hD g hg).2.1 (List.mem_cons_of_mem _ h), by simp⟩
  have hI0 : wkI J b2 66 y 0 (b2 :: D₀) w1 := ⟨D₀, rfl, fun h => by have := (hD _ h).1; omega, hJ 0 D₀ w w1 [] h0 e1 (by simp), B2⟩
  refine G.range (lb := lb) rfl rfl eg (hit _ e1) (fun _ _ _ h _ => h) (b2 :: D₀) hD0 (fun x h => h.elim (fun h => Nat.lt_of_lt_of_le (hF x h) hw1) (by simp)) (wkI J b2 66 y) (wkX Jx b2) ?_ ?_ hI0 ?_ ?_ ?_
  · rintro k DD W1 W2 M2 ⟨D, rfl, hn2, hj, hb⟩ he hm
    exact ⟨D, rfl, hn2, hJ k D W1 W2 M2 hj he (fun g hg => ⟨fun h => (hm g hg).1 (List.mem_cons_of_mem _ h), (hm g hg).2.imp id (Nat.le_trans hw1)⟩), hb.ext he (fun h => (hm _ h).1 (by simp))⟩
  · rintro c k DD W1 W2 M2 ⟨hc, D, rfl, hn2, hj⟩ he hm
    exact ⟨hc, D, rfl, hn2, hJx k D W1 W2 M2 hj he (fun g hg => ⟨fun h => (hm g hg).1 (List.mem_cons_of_mem _ h), (hm g hg).2.imp id (Nat.le_trans hw1)⟩)⟩
  · rintro l k DD vs W1 hl2 hlt hlD hDl hk ⟨D, rfl, hn2, hj, B2⟩ ⟨p, v0, hp, rfl⟩
    refine ⟨rfl, ?_⟩
    refine G.sub [(7, .agg (pcell p).toArray), (2, .pointer (some ⟨b2, 0, none⟩))] (Sub.cons rfl (Sub.cons rfl (Sub.nil _))) ?_
    have hpl := hq k p hp
    have hsz : (pcell p).length = 4 := by show p.2.length + 1 = _; rw [hpl.1]
    have hsA : (pcell p).toArray.size = 4 := by rw [List.size_toArray]; exact hsz
    have h1c : ∀ u ∈ (pcell p).toArray.toList, u.oneCell' = true := pcell1 hpl.2
    have l2 := B2.lt
    refine G.region ?_
    refine L.do rfl rfl (R.alloc) ?_
    rintro _ w2 ⟨b4, rfl, hb4, hs4, e2, B4⟩
    replace B4 : Blk w2 b4 (.agg #[.int .i64 0, .int .i64 0, .int .i64 0, .int .i64 0] : Value).cells 117 (0, 0) := B4
    refine L.set rfl (R.stN rfl rfl B4 hsA (by show 0 + (pcell p).toArray.size ≤ 4; omega) h1c) ?_
    rintro w3 ⟨e3, hs3, B4⟩
    rw [over_all (show (.agg #[.int .i64 0, .int .i64 0, .int .i64 0, .int .i64 0] : Value).cells.size = (pcell p).toArray.size from hsA.symm)] at B4
    have hEW := e2.news2 e3 (by omega)
    refine L.nil ?_
    refine N.round (hEW) (fun wb hb1 hb2 => ?_)
    replace B4 := B4.still hb2
    replace B2 := (B2.ext0 hEW).still hb2
    have hjw := hJ k D _ wb [l] (hJ k D W1 _ [] hj hEW (by simp)) hb1 (fun g hg => by rw [List.mem_singleton.1 hg]; exact ⟨fun h => hlD (List.mem_cons_of_mem _ h), .inr (by omega)⟩)
    have hDw : ∀ g ∈ D, g < wb.heap.size := fun g hg => Nat.lt_of_lt_of_le (hDl g (List.mem_cons_of_mem _ hg)) (Nat.le_trans hEW.size hb1.size)
    have l2b := B2.lt
    have hyc := hY k D [.int .i64 p.1, .agg p.2.toArray] wb hk hjw ⟨p, hp, rfl⟩ hDw
    have hcy : y.cells = #[y] := by rcases hyc with ⟨l9, rfl, _⟩ | ⟨f9, u9, c9, rfl, _⟩ <;> rfl
    rw [hcy] at B2
    refine G.block ?_
    refine G.seq ?_
    refine G.region ?_
    refine L.val rfl rfl (R.ldB rfl B2 rfl) ?_
    refine L.val rfl rfl (R.fld rfl) ?_
    refine L.val rfl rfl (R.ldB (v := .int .i64 p.1) rfl B4 rfl) ?_
    refine L.val rfl rfl (R.fld rfl) ?_
    refine L.val rfl rfl (R.ldN (vs := p.2) rfl (Cells.of_blk B4 1 p.2 (fun j v hj => by rw [Nat.add_comm 1]; simpa [pcell] using hj)) hpl.1) ?_
    refine L.ycall rfl rfl rfl rfl hyc ?_
    rintro bb w7 ⟨D2, eD, hD2, hT, hFl⟩
    have X : Ext (b2 :: D) wb w7 := eD.mono (fun g hg => .inl (List.mem_cons_of_mem _ hg))
    have hn3 : b2 ∉ D2 := fun h => (hD2 b2 h).2.elim hn2 (fun h => by omega)
    have hDD : ∀ g ∈ b2 :: D2, g < w7.heap.size ∧ (g ∈ b2 :: D ∨ wb.heap.size ≤ g) := by
      intro g hg
      rcases List.mem_cons.1 hg with rfl | hg
      · exact ⟨Nat.lt_of_lt_of_le l2b eD.size, .inl (by simp)⟩
      · exact ⟨(hD2 g hg).1, (hD2 g hg).2.imp (fun h => List.mem_cons_of_mem _ h) id⟩
    refine L.val rfl rfl (R.not rfl) ?_
    refine L.nil ?_
    refine N.seq ?_
    refine G.condB rfl (fun h0 => ?_) (fun h0 => ?_)
    · obtain rfl : bb = false := by simpa using h0
      refine G.ret fun _ _ => ?_
      exact ⟨b2 :: D2, X, hDD, rfl, D2, rfl, hn3, hFl rfl⟩
    · obtain rfl : bb = true := by simpa using h0
      refine G.skip ?_
      refine N.block ?_
      refine N.done fun _ _ => ?_
      exact ⟨b2 :: D2, X, hDD, D2, rfl, hn3, hT rfl, by rw [hcy]; exact B2.ext eD hn2⟩
  · rintro d DD W2 hd hdD hK ⟨D, rfl, hn2, hj, B2⟩ _
    refine N.block ?_
    refine N.end0M rfl (leave1 hK) ?_
    exact .inl ⟨D, hJ Nn D W2 _ [d] hj (Ext.putObj _ _ _) (fun g hg => by rw [List.mem_singleton.1 hg]; exact ⟨fun h => hdD (List.mem_cons_of_mem _ h), .inr (by omega)⟩), trivial⟩
  · rintro d DD k c W2 hd hdD hK hk ⟨rfl, D, rfl, hn2, hj⟩ _
    refine G.ret0M rfl (leave1 hK) ?_
    exact .inr ⟨k, D, hk, hJx k D W2 _ [d] hj (Ext.putObj _ _ _) (fun g hg => by rw [List.mem_singleton.1 hg]; exact ⟨fun h => hdD (List.mem_cons_of_mem _ h), .inr (by omega)⟩), trivial⟩

theorem walkApiBusy_iter (b1 : Nat) (gf : FuncId) (lb : List Value) (Nn : Nat) (q : Nat → Option (Pr (Int))) (F : List Nat) (w : World) (hB1 : Blk w b1 #[.func (.func gf) #[] lb.toArray] 121 (0, 0)) (eg : ∀ (vs : Array Value) w, (callFunc gf vs).run Tryz.prog w = .ok (.enter gf vs) w) (hit : ∀ W, Ext [] w W → Iter Tryz.prog gf lb W Nn (prE q) (fun _ _ => True) F []) (hF : ∀ x ∈ F, x < w.heap.size) (hq : ∀ k (p : Pr (Int)), q k = some p → p.2.length = 3 ∧ ∀ u ∈ p.2, u.oneCell' = true) : Iter Tryz.prog 81 [.pointer (some ⟨b1, 0, none⟩)] w Nn (kvE (fun l => Value.agg l.toArray) q) (fun _ _ => True) (b1 :: F) [] := by
  intro y D₀ J Jx W hE hD hJ hJx hY h0
  exact walk1ApiBusy_ok y b1 gf lb Nn q F D₀ J Jx W (hB1.ext0 hE) eg (fun W' h => hit W' (hE.trans0 h)) (fun x hx => Nat.lt_of_lt_of_le (hF x hx) hE.size) hq hD (fun k D W₁ W₂ M' h he hm => hJ k D W₁ W₂ M' h he (fun g hg => ⟨(hm g hg).1, (hm g hg).2.imp id (Nat.le_trans hE.size)⟩)) (fun k D W₁ W₂ M' h he hm => hJx k D W₁ W₂ M' h he (fun g hg => ⟨(hm g hg).1, (hm g hg).2.imp id (Nat.le_trans hE.size)⟩)) hY h0

end Go.Proofs.YtlhkpakbenghgaaGreat
/-
  The walks of package order.
-/
set_option linter.unusedVariables false
set_option linter.unusedSimpArgs false
set_option maxRecDepth 4000
namespace Go.Proofs.YtlhkpakbenghgaaGreat
open Go Brv
end Go.Proofs.YtlhkpakbenghgaaGreat
/-
  Orders over assertions.
-/
set_option linter.unusedVariables false
set_option linter.unusedSimpArgs false
set_option maxRecDepth 4000
namespace Go.Proofs.YtlhkpakbenghgaaGreat
open Go Brv
theorem oallApiBusyQ (m : Nat) (ps : List (Pr (Int))) (S : List Nat) (w : World) (hd : MapAt (κ := Int) 109 117 3 w m ps S) (hl : ps.length ≤ 999999) : Meets Tryz.prog 24 [.pointer (some ⟨m, 0, none⟩)] w (fun v w' => ∃ lb F, v = .func (.func 81) #[] (lb : List Value).toArray ∧ Ext [] w w' ∧ (∀ M W, Ext M w' W → Apart F M → Iter Tryz.prog 81 lb W ps.length (kvE (fun l => Value.agg l.toArray) (fun k => ps[k]?)) (fun _ _ => True) F []) ∧ ∀ x ∈ F, w.heap.size ≤ x ∧ x < w'.heap.size) := by
  refine Meets.enter Tryz.func24 rfl 15 rfl (Nat.le_of_ble_eq_true rfl) ?_
  have E := Ext.refl [] w
  obtain ⟨a, c, M, rfl, hm0, Bm, om, hok, hs⟩ := hd
  refine G.seq ?_
  refine G.region ?_
  refine L.val rfl rfl (R.as rfl) ?_
  refine L.nil ?_
  refine N.seq ?_
  refine G.seq ?_
  refine G.seq ?_
  refine G.region ?_
  refine L.val rfl rfl (R.mv rfl) ?_
  refine L.val rfl rfl (R.eqNilP rfl rfl) ?_
  refine L.nil ?_
  refine N.seq ?_
  refine G.condF rfl ?_
  refine G.skip ?_
  refine N.seq ?_
  refine G.seq ?_
  refine G.region ?_
  refine L.val rfl rfl (R.mv rfl) ?_
  refine L.val rfl rfl (R.nilChk rfl) ?_
  refine L.val rfl rfl (R.fld rfl) ?_
  refine L.val rfl rfl (R.ldB rfl Bm rfl) ?_
  refine L.callF rfl rfl rfl go51 (scApiBusy_ok _ _ _ _ _ om.cells (by rw [om.1]) (pcell_one hok) (by omega)) ?_
  rintro _ w1 ⟨a1, c1, M1, rfl, e1, o1, hM1⟩
  have hE0 := E.size
  replace E := E.trans0 e1
  have hl1 := o1.lt
  have hE1 := E.size
  refine L.callF rfl rfl rfl go50 (pallApiBusy_ok a1 ps.length c1 _) ?_
  rintro _ w2 ⟨b0, rfl, e2, B0, hb0⟩
  have hE2 := E.size
  replace E := E.trans0 e2
  replace o1 := o1.ext0 e2
  have l0 := B0.lt
  have hE3 := E.size
  refine L.callF rfl rfl rfl go49 (walkApiBusy_ok 82 [.pointer (some ⟨b0, 0, none⟩)] _) ?_
  rintro _ w3 ⟨b1, rfl, e3, B1, hb1⟩
  replace E := E.trans0 e3
  replace o1 := o1.ext0 e3
  replace B0 := B0.ext0 e3
  have l1 := B1.lt
  have hs3 := e3.size
  have hs2 := e2.size
  have hFl : ∀ y ∈ b1 :: b0 :: M1, w.heap.size ≤ y ∧ y < w3.heap.size := by
    intro y hy
    simp only [List.mem_cons] at hy
    rcases hy with rfl | rfl | hy
    · exact ⟨by omega, l1⟩
    · exact ⟨by omega, by omega⟩
    · have := hl1 y hy; have := hM1 y hy; exact ⟨by omega, by omega⟩
  refine L.val rfl rfl (R.as rfl) ?_
  refine L.nil ?_
  refine N.seq ?_
  refine G.ret1 rfl rfl ?_
  exact ⟨[.pointer (some ⟨b1, 0, none⟩)], b1 :: b0 :: M1, rfl, E, fun M9 W hW hA => walkApiBusy_iter b1 82 [.pointer (some ⟨b0, 0, none⟩)] ps.length (fun k => ps[k]?) (b0 :: M1) W (B1.ext hW (hA b1 (by simp))) go82 (fun W' h => pallApiBusy_iter b0 a1 ps.length c1 ps M1 W' ((B0.ext hW (hA b0 (by simp))).ext0 h) ((o1.ext hW (fun g hg => hA g (by simp [hg]))).ext0 h) (by simp) hok (by omega)) (fun y hy => Nat.lt_of_lt_of_le (hFl y (List.mem_cons_of_mem _ hy)).2 hW.size) (fun k p hp => hok p (List.mem_of_getElem? hp)), hFl⟩

/-- The assertion of the iterator that All gives. -/
def itApiBusy (lb : List Value) (ps : List (Pr (Int))) : Asn := itA Tryz.prog 81 lb ps.length (kvE (fun l => Value.agg l.toArray) (fun k => ps[k]?))
instance (lb : List Value) (ps : List (Pr (Int))) : Pers (itApiBusy lb ps) := inferInstanceAs (Pers (itA _ _ _ _ _))
theorem itApiBusy_run (lb : List Value) (ps : List (Pr (Int))) : IterS Tryz.prog 81 lb [itApiBusy lb ps] ps.length (fun k vs p => (∃ q, ps[k]? = some q ∧ vs = [Key.val q.1, (fun l => Value.agg l.toArray) q.2]) ∧ p = fun _ => True) :=
  IterS.read fun k vs W h => h
theorem oallApiBusyS (m : Nat) (ps : List (Pr (Int))) (hl : ps.length ≤ 999999) : SpecS Tryz.prog 24 [.pointer (some ⟨m, 0, none⟩)] [mp (κ := Int) 109 117 3 m ps] (fun v H' => ∃ lb : List Value, v = .func (.func 81) #[] lb.toArray ∧ H' = [itApiBusy lb ps, mp (κ := Int) 109 117 3 m ps]) :=
  (SpecS.ofFresh (φ := fun v A => ∃ lb : List Value, v = .func (.func 81) #[] lb.toArray ∧ A = itApiBusy lb ps) fun w F S s => by
    obtain ⟨S', hm⟩ := s.mp (show Sel _ (mp (κ := Int) 109 117 3 m ps) _ from .here)
    refine (oallApiBusyQ m ps S' w hm hl).mono ?_
    rintro v w' ⟨lb, F', h1, h2, h3, h4⟩
    exact ⟨itApiBusy lb ps, [], F', ⟨lb, h1, rfl⟩, h2, fun M W he hA => ⟨_, h3 M W he hA⟩, by simp, h4⟩).mono fun v H' ⟨A, ⟨lb, h1, h2⟩, h3⟩ => ⟨lb, h1, by rw [h3, h2]⟩

end Go.Proofs.YtlhkpakbenghgaaGreat
/-
  The walks of package order.
-/
set_option linter.unusedVariables false
set_option linter.unusedSimpArgs false
set_option maxRecDepth 4000
namespace Go.Proofs.YtlhkpakbenghgaaGreat
open Go Brv
theorem find1I_ok (p : Pr (Int)) (k : Int) (w : World) : Meets Tryz.prog 74 [.agg (pcell p).toArray, .int .i64 k] w (fun v w' => v = .int .i64 (cmpF p.1 k) ∧ Ext [] w w') := by
  refine Meets.enter Tryz.func74 rfl 9 rfl (Nat.le_of_ble_eq_true rfl) ?_
  have E := Ext.refl [] w
  refine G.seq ?_
  refine G.region ?_
  refine L.do rfl rfl (R.box rfl) ?_
  rintro _ w1 ⟨b2, rfl, hb2, hs2, e1, B2⟩
  replace B2 : Blk w1 b2 (pcell p).toArray 114 (0, 0) := B2
  replace E := E.trans0 e1
  refine L.val rfl rfl (R.as rfl) ?_
  refine L.nil ?_
  refine N.seq ?_
  refine G.seq ?_
  refine G.region ?_
  refine L.val rfl rfl (R.fld rfl) ?_
  refine L.val rfl rfl (R.ldB (v := .int .i64 p.1) rfl B2 rfl) ?_
  refine L.val rfl rfl (R.mv rfl) ?_
  refine L.callF rfl rfl rfl go28 (cmpI_ok _ _ _) ?_
  rintro _ _ ⟨rfl, hw⟩
  obtain rfl := hw.symm
  refine L.val rfl rfl (R.as rfl) ?_
  refine L.nil ?_
  refine N.seq ?_
  refine G.ret1 rfl rfl ?_
  exact ⟨rfl, E⟩

theorem bsI_ok (a : Option Addr) (n c : Nat) (ps : List (Pr (Int))) (k : Int) (w : World) (hc : Cells w a (pcells ps)) (hn : n = ps.length) (hok : OkP 1 ps) (hs : Sorted ps) (hnl : n ≤ 1000000) : Meets Tryz.prog 73 [.slice a n c, .int .i64 k, .func (.func 74) #[] #[]] w (fun v w' => v = .tuple #[.int .i64 (low ps k : Int), .bool (hasK ps k)] ∧ Ext [] w w') := by
  refine Meets.enter Tryz.func73 rfl 49 rfl (Nat.le_of_ble_eq_true rfl) ?_
  have E := Ext.refl [] w
  have hT := Tab.pairs hc hn hok
  have hlo := low_le ps k
  refine G.seq ?_
  refine G.region ?_
  refine L.val rfl rfl (R.as rfl) ?_
  refine L.val rfl rfl (R.as rfl) ?_
  refine L.nil ?_
  refine N.seq ?_
  refine G.seq ?_
  refine G.region ?_
  refine L.val rfl rfl (R.mv rfl) ?_
  refine L.val rfl rfl (R.lenS rfl) ?_
  refine L.val rfl rfl (R.as rfl) ?_
  refine L.nil ?_
  refine N.seq ?_
  refine G.seq ?_
  refine G.region ?_
  refine L.val rfl rfl (R.mv rfl) ?_
  refine L.val rfl rfl (R.as rfl) ?_
  refine L.val rfl rfl (R.as rfl) ?_
  refine L.nil ?_
  refine N.seq ?_
  refine G.seq ?_
  refine G.block ?_
  refine G.loop (X := Nat × Nat) (fun s => [(0, .slice a n c), (1, .int .i64 k), (2, .func (.func 74) #[] #[]), (8, .int .i64 (n : Int)), (9, .int .i64 (s.1 : Int)), (10, .int .i64 (s.2 : Int))]) (fun s w' => s.1 ≤ s.2 ∧ s.2 ≤ n ∧ s.1 ≤ low ps k ∧ low ps k ≤ s.2 ∧ Ext [] w w') (fun s => s.2 - s.1) ((0, n)) (Sub.cons rfl (Sub.cons rfl (Sub.cons rfl (Sub.cons rfl (Sub.cons rfl (Sub.cons rfl (Sub.nil _))))))) ⟨Nat.zero_le _, Nat.le_refl _, Nat.zero_le _, by show low ps k ≤ n; omega, E⟩ ?_
  rintro ⟨i, j⟩ w1 ⟨hi1, hi2, hi3, hi4, E⟩
  dsimp only at hi1 hi2 hi3 hi4
  refine G.sub [(0, .slice a n c), (1, .int .i64 k), (2, .func (.func 74) #[] #[]), (8, .int .i64 (n : Int)), (9, .int .i64 (i : Int)), (10, .int .i64 (j : Int))] (Sub.cons rfl (Sub.cons rfl (Sub.cons rfl (Sub.cons rfl (Sub.cons rfl (Sub.cons rfl (Sub.nil _))))))) ?_
  refine G.seq ?_
  refine G.seq ?_
  refine G.region ?_
  refine L.val rfl rfl (R.mv rfl) ?_
  refine L.val rfl rfl (R.mv rfl) ?_
  refine L.val rfl rfl (R.lss rfl rfl) ?_
  refine L.nil ?_
  refine N.seq ?_
  refine G.condP rfl (fun h0 => ?_) (fun h0 => ?_)
  · have hij : i < j := by omega
    obtain ⟨hm, hhm⟩ : ∃ hm, hm = (i + j) / 2 := ⟨_, rfl⟩
    have hm1 : i ≤ hm := by omega
    have hm2 : hm < j := by omega
    refine G.skip ?_
    refine N.seq ?_
    refine G.block ?_
    refine G.seq ?_
    refine G.region ?_
    refine L.val rfl rfl (R.mv rfl) ?_
    refine L.val rfl rfl (R.mv rfl) ?_
    refine L.val rfl rfl (R.add rfl rfl (by omega)) ?_
    refine L.val rfl rfl (R.conv rfl ((i + j : Nat) : Int) (by rw [wrap_u64 (by omega)]; omega)) ?_
    refine L.val rfl rfl (R.shrW rfl rfl (by decide) (hm : Int) (by rw [shr1]; omega)) ?_
    refine L.val rfl rfl (R.conv rfl (hm : Int) (wrap_i64 (by omega))) ?_
    refine L.val rfl rfl (R.as rfl) ?_
    refine L.nil ?_
    refine N.seq ?_
    refine G.seq ?_
    refine G.region ?_
    refine L.val rfl rfl (R.mv rfl) ?_
    refine L.val rfl rfl (R.mv rfl) ?_
    refine L.val rfl rfl (R.mv rfl) ?_
    obtain ⟨p1, hp1⟩ : ∃ p, ps[hm]? = some p := ⟨_, List.getElem?_eq_getElem (by omega)⟩
    obtain ⟨qp1, hqp1, hclp1⟩ := hT.at (by decide) hm (by rw [List.length_map]; omega)
    have hep1 : (ps.map pcell)[hm]'(by rw [List.length_map]; omega) = pcell p1 := by rw [List.getElem_map]; exact congrArg pcell (List.getElem?_eq_some_iff.1 hp1).2
    rw [hep1] at hclp1
    have hszp1 : (pcell p1).length = 2 := by show p1.2.length + 1 = _; rw [(hok p1 (List.mem_of_getElem? hp1)).1]
    refine L.val rfl rfl (R.idx rfl rfl (by omega) (by omega) qp1 hqp1) ?_
    refine L.val rfl rfl (R.ldN (vs := pcell p1) rfl (hclp1.ext0 E) hszp1) ?_
    refine L.val rfl rfl (R.mv rfl) ?_
    refine L.callV rfl rfl rfl rfl rfl go74 (find1I_ok p1 k _) ?_
    rintro _ w2 ⟨rfl, e2⟩
    replace E := E.trans0 e2
    refine L.val rfl rfl (R.lss rfl rfl) ?_
    refine L.nil ?_
    refine N.seq ?_
    refine G.condP rfl (fun h1 => ?_) (fun h1 => ?_)
    · have hcmp : cmpF p1.1 k < 0 := h1
      refine G.region ?_
      refine L.val rfl rfl (R.mv rfl) ?_
      refine L.val rfl rfl (R.add rfl rfl (by omega)) ?_
      refine L.val rfl rfl (R.as rfl) ?_
      refine L.nil ?_
      refine N.block ?_
      first
        | exact N.again (hm + 1, j) (by show j - (hm + 1) < j - i; omega) (Sub.cons rfl (Sub.cons rfl (Sub.cons rfl (Sub.cons rfl (Sub.cons rfl (Sub.cons rfl (Sub.nil _))))))) ⟨by show hm + 1 ≤ j; omega, hi2, by show hm + 1 ≤ low ps k; have := (lt_low hs hp1).1 hcmp; omega, hi4, E⟩
        | exact N.again (i, hm) (by show hm - i < j - i; omega) (Sub.cons rfl (Sub.cons rfl (Sub.cons rfl (Sub.cons rfl (Sub.cons rfl (Sub.cons rfl (Sub.nil _))))))) ⟨by show i ≤ hm; omega, by show hm ≤ n; omega, hi3, by show low ps k ≤ hm; have : ¬ hm < low ps k := fun h9 => hcmp ((lt_low hs hp1).2 h9); omega, E⟩
    · have hcmp : ¬ cmpF p1.1 k < 0 := h1
      refine G.region ?_
      refine L.val rfl rfl (R.mv rfl) ?_
      refine L.val rfl rfl (R.as rfl) ?_
      refine L.nil ?_
      refine N.block ?_
      first
        | exact N.again (hm + 1, j) (by show j - (hm + 1) < j - i; omega) (Sub.cons rfl (Sub.cons rfl (Sub.cons rfl (Sub.cons rfl (Sub.cons rfl (Sub.cons rfl (Sub.nil _))))))) ⟨by show hm + 1 ≤ j; omega, hi2, by show hm + 1 ≤ low ps k; have := (lt_low hs hp1).1 hcmp; omega, hi4, E⟩
        | exact N.again (i, hm) (by show hm - i < j - i; omega) (Sub.cons rfl (Sub.cons rfl (Sub.cons rfl (Sub.cons rfl (Sub.cons rfl (Sub.cons rfl (Sub.nil _))))))) ⟨by show i ≤ hm; omega, by show hm ≤ n; omega, hi3, by show low ps k ≤ hm; have : ¬ hm < low ps k := fun h9 => hcmp ((lt_low hs hp1).2 h9); omega, E⟩
  · have hij : i = low ps k := by omega
    refine G.exit _ rfl ?_
    refine N.seq ?_
    refine G.seq ?_
    refine G.region ?_
    refine L.val rfl rfl (R.mv rfl) ?_
    refine L.val rfl rfl (R.mv rfl) ?_
    refine L.val rfl rfl (R.mv rfl) ?_
    refine L.val rfl rfl (R.lss rfl rfl) ?_
    refine L.val rfl rfl (R.mv rfl) ?_
    refine L.caseP 39 rfl (fun hg8_4 => ?_) (fun hg8_4 => ?_)
    · refine L.val rfl rfl (R.mv rfl) ?_
      refine L.val rfl rfl (R.mv rfl) ?_
      refine L.val rfl rfl (R.mv rfl) ?_
      obtain ⟨p2, hp2⟩ : ∃ p, ps[i]? = some p := ⟨_, List.getElem?_eq_getElem (by omega)⟩
      obtain ⟨qp2, hqp2, hclp2⟩ := hT.at (by decide) i (by rw [List.length_map]; omega)
      have hep2 : (ps.map pcell)[i]'(by rw [List.length_map]; omega) = pcell p2 := by rw [List.getElem_map]; exact congrArg pcell (List.getElem?_eq_some_iff.1 hp2).2
      rw [hep2] at hclp2
      have hszp2 : (pcell p2).length = 2 := by show p2.2.length + 1 = _; rw [(hok p2 (List.mem_of_getElem? hp2)).1]
      refine L.val rfl rfl (R.idx rfl rfl (by omega) (by omega) qp2 hqp2) ?_
      refine L.val rfl rfl (R.ldN (vs := pcell p2) rfl (hclp2.ext0 E) hszp2) ?_
      refine L.val rfl rfl (R.mv rfl) ?_
      refine L.callV rfl rfl rfl rfl rfl go74 (find1I_ok p2 k _) ?_
      rintro _ w3 ⟨rfl, e3⟩
      replace E := E.trans0 e3
      refine L.val rfl rfl (R.eqI rfl rfl) ?_
      first | refine L.val rfl rfl (R.pickT rfl rfl) ?_ | refine L.val rfl rfl (R.pickF rfl rfl) ?_
      refine L.val rfl rfl (R.as rfl) ?_
      refine L.val rfl rfl (R.as rfl) ?_
      refine L.nil ?_
      refine N.seq ?_
      refine G.ret2 rfl rfl rfl ?_
      first
        | exact ⟨by rw [hfound, ← hij], E⟩
        | exact ⟨by rw [hasK_at hs (by rw [← hij]; exact hp2), ← hij], E⟩
    · have hfound : hasK ps k = false := hasK_end (by omega)
      refine L.pass rfl rfl ?_
      refine L.pass rfl rfl ?_
      refine L.pass rfl rfl ?_
      refine L.pass rfl rfl ?_
      refine L.pass rfl rfl ?_
      refine L.pass rfl rfl ?_
      refine L.pass rfl rfl ?_
      refine L.pass rfl rfl ?_
      first | refine L.val rfl rfl (R.pickT rfl rfl) ?_ | refine L.val rfl rfl (R.pickF rfl rfl) ?_
      refine L.val rfl rfl (R.as rfl) ?_
      refine L.val rfl rfl (R.as rfl) ?_
      refine L.nil ?_
      refine N.seq ?_
      refine G.ret2 rfl rfl rfl ?_
      first
        | exact ⟨by rw [hfound, ← hij], E⟩
        | exact ⟨by rw [hasK_at hs (by rw [← hij]; exact hp2), ← hij], E⟩

theorem findI_ok (m : Nat) (ps : List (Pr (Int))) (S : List Nat) (k : Int) (w : World) (hd : MapAt (κ := Int) 112 114 1 w m ps S) (hl : ps.length ≤ 1000000) : Meets Tryz.prog 45 [.pointer (some ⟨m, 0, none⟩), .int .i64 k] w (fun v w' => v = .tuple #[.int .i64 (low ps k : Int), .bool (hasK ps k)] ∧ Ext [] w w') := by
  refine Meets.enter Tryz.func45 rfl 14 rfl (Nat.le_of_ble_eq_true rfl) ?_
  have E := Ext.refl [] w
  obtain ⟨a, c, M, rfl, hm0, Bm, om, hok, hs⟩ := hd
  refine G.seq ?_
  refine G.region ?_
  refine L.val rfl rfl (R.as rfl) ?_
  refine L.val rfl rfl (R.as rfl) ?_
  refine L.nil ?_
  refine N.seq ?_
  refine G.seq ?_
  refine G.region ?_
  refine L.val rfl rfl (R.mv rfl) ?_
  refine L.val rfl rfl (R.nilChk rfl) ?_
  refine L.val rfl rfl (R.fld rfl) ?_
  refine L.val rfl rfl (R.ldB rfl Bm rfl) ?_
  refine L.val rfl rfl (R.mv rfl) ?_
  refine L.callF rfl rfl rfl go73 (bsI_ok _ _ _ ps k _ om.cells rfl hok hs (by omega)) ?_
  rintro _ w1 ⟨rfl, e1⟩
  replace E := E.trans0 e1
  refine L.val rfl rfl (R.ext rfl rfl) ?_
  refine L.val rfl rfl (R.ext rfl rfl) ?_
  refine L.val rfl rfl (R.as rfl) ?_
  refine L.val rfl rfl (R.as rfl) ?_
  refine L.nil ?_
  refine N.seq ?_
  refine G.ret2 rfl rfl rfl ?_
  exact ⟨rfl, E⟩

theorem insI_ok (a : Option Addr) (n c : Nat) (ps : List (Pr (Int))) (M : List Nat) (i : Nat) (p : Pr (Int)) (vb : Nat) (w : World) (ho : Own w 114 (1 + 1) a n c (pcells ps) M) (hn : n = ps.length) (hok : OkP 1 ps) (hi : i ≤ n) (hp : p.2.length = 1 ∧ ∀ u ∈ p.2, u.oneCell' = true) (Bv : Blk w vb (pcell p).toArray 114 (0, 0)) (hvM : vb ∉ M) (hnl : n ≤ 1000000) : Meets Tryz.prog 46 [.slice a n c, .int .i64 (i : Int), .slice (some ⟨vb, 0, none⟩) 1 1] w (fun v w' => ∃ a' c' M', v = .slice a' (n + 1) c' ∧ Ext M w w' ∧ (∀ g ∈ M', g ∈ M ∨ w.heap.size ≤ g) ∧ Own w' 114 (1 + 1) a' (n + 1) c' (pcells (ps.take i ++ p :: ps.drop i)) M') := by
  refine Meets.enter Tryz.func46 rfl 95 rfl (Nat.le_of_ble_eq_true rfl) ?_
  have hl2 : (pcell p).length = 2 := by show p.2.length + 1 = _; rw [hp.1]
  have hp1 : ∀ u ∈ pcell p, u.oneCell' = true := pcell1 hp.2
  have hoc := ho.le
  have hps := (pcells_take (sv := 1) hok.len i (by omega))
  rw [show 1 + 1 = 2 from rfl] at hps
  have hcd : (pcells (ps.drop i)).length = (n - i) * 2 := by rw [pcells_len (sv := 1) (fun q hq => (hok q (List.mem_of_mem_drop hq)).1), List.length_drop, hn]
  have hci : (pcells (ps.take i)).length = i * 2 := by rw [pcells_len (sv := 1) (fun q hq => (hok q (List.mem_of_mem_take hq)).1), List.length_take, Nat.min_eq_left (by omega)]
  have hone := pcell_one hok
  have hone2 : ∀ u ∈ pcells (ps.drop i), u.oneCell' = true := fun u hu => hone u (by have h9 := hps.2; rw [← h9] at hu; exact List.mem_of_mem_drop hu)
  have Cv : Cells w (some ⟨vb, 0, none⟩) (pcell p) := Cells.of_blk Bv 0 _ (fun j v hj => by simpa using hj)
  refine G.seq ?_
  refine G.region ?_
  refine L.val rfl rfl (R.as rfl) ?_
  refine L.nil ?_
  refine N.seq ?_
  refine G.seq ?_
  refine G.region ?_
  refine L.val rfl rfl (R.mv rfl) ?_
  refine L.val rfl rfl (R.mv rfl) ?_
  refine L.val rfl rfl (R.slL rfl rfl (by omega) (by omega)) ?_
  refine L.nil ?_
  refine N.seq ?_
  refine G.seq ?_
  refine G.region ?_
  refine L.val rfl rfl (R.mv rfl) ?_
  refine L.val rfl rfl (R.lenS rfl) ?_
  refine L.val rfl rfl (R.as rfl) ?_
  refine L.nil ?_
  refine N.seq ?_
  refine G.seq ?_
  refine G.seq ?_
  refine G.region ?_
  refine L.val rfl rfl (R.mv rfl) ?_
  refine L.val rfl rfl (R.eqI rfl rfl) ?_
  refine L.nil ?_
  refine N.seq ?_
  refine G.condP rfl (fun h0 => ?_) (fun h0 => ?_)
  · exfalso; omega
  · refine G.skip ?_
    refine N.seq ?_
    refine G.seq ?_
    refine G.region ?_
    refine L.val rfl rfl (R.mv rfl) ?_
    refine L.val rfl rfl (R.lenS rfl) ?_
    refine L.val rfl rfl (R.as rfl) ?_
    refine L.nil ?_
    refine N.seq ?_
    refine G.seq ?_
    refine G.seq ?_
    refine G.region ?_
    refine L.val rfl rfl (R.mv rfl) ?_
    refine L.val rfl rfl (R.mv rfl) ?_
    refine L.val rfl rfl (R.eqI rfl rfl) ?_
    refine L.nil ?_
    refine N.seq ?_
    refine G.condP rfl (fun h1 => ?_) (fun h1 => ?_)
    · obtain rfl : i = n := by omega
      refine G.seq ?_
      refine G.region ?_
      refine L.val rfl rfl (R.mv rfl) ?_
      refine L.val rfl rfl (R.mv rfl) ?_
      refine L.do rfl rfl (R.app rfl rfl ho Cv (by rw [hl2]) hp1 (by simp [maxLen]; omega) (by omega)) ?_
      rintro _ w1 ⟨a1, c1, M1, rfl, e1, hM1, o1⟩
      refine L.val rfl rfl (R.as rfl) ?_
      refine L.nil ?_
      refine N.seq ?_
      refine G.ret1 rfl rfl ?_
      first
        | (have e9 : pcells ps ++ pcell p = pcells (ps.take i ++ p :: ps.drop i) := by rw [← pcells_ins, List.take_of_length_le (by omega), List.drop_of_length_le (by omega)]; simp [pcells]
           rw [e9] at o1; exact ⟨a1, c1, M1, rfl, e1, hM1, o1⟩)
        | (refine ⟨_, c1, [g1], rfl, n3.mono (by simp), fun x hx => .inr (by rw [List.mem_singleton.1 hx]; exact hg1), ?_⟩
           have hfin := hog.1; rw [pcells_ins, ← Nat.add_one_mul, ← Nat.add_mul, show i + 1 + (n - i) = n + 1 by omega] at hfin
           refine ⟨by rw [pcells_len (sv := 1) (fun q hq => (okIns hok hp q hq).1), List.length_append, List.length_cons, List.length_take, List.length_drop]; congr 1; omega, .inr ⟨g1, _, rfl, rfl, B3, by omega, hx1, ?_, hfin⟩⟩
           rw [← Nat.add_one_mul] at hog; rw [hog.2.2]; exact hz1)
        | (refine ⟨_, c, [g0], rfl, hE5, fun x hx => .inl hx, ?_⟩
           have hfin := hoi.1; rw [pcells_ins, ← Nat.add_one_mul] at hfin
           refine ⟨by rw [pcells_len (sv := 1) (fun q hq => (okIns hok hp q hq).1), List.length_append, List.length_cons, List.length_take, List.length_drop]; congr 1; omega, .inr ⟨g0, _, rfl, rfl, B5, by omega, hx0, ?_, hfin⟩⟩
           rw [hoi.2.2]; exact hz0)
    · have hin : i < n := by omega
      refine G.skip ?_
      refine N.seq ?_
      refine G.seq ?_
      refine G.seq ?_
      refine G.region ?_
      refine L.val rfl rfl (R.mv rfl) ?_
      refine L.val rfl rfl (R.mv rfl) ?_
      refine L.val rfl rfl (R.add rfl rfl (by omega)) ?_
      refine L.val rfl rfl (R.mv rfl) ?_
      refine L.val rfl rfl (R.capS rfl) ?_
      refine L.val rfl rfl (R.gtr rfl rfl) ?_
      refine L.nil ?_
      refine N.seq ?_
      refine G.condP rfl (fun h2 => ?_) (fun h2 => ?_)
      · have hgc : c < n + 1 := by omega
        refine G.seq ?_
        refine G.region ?_
        refine L.val rfl rfl (R.mv rfl) ?_
        refine L.val rfl rfl (R.mv rfl) ?_
        refine L.val rfl rfl (R.slH rfl rfl (by omega) (by omega)) ?_
        refine L.be 34 rfl (show _ = Value.slice a i c by rw [subA_zero, Int.toNat_natCast]) ?_
        refine L.val rfl rfl (R.mv rfl) ?_
        refine L.val rfl rfl (R.mv rfl) ?_
        refine L.val rfl rfl (R.add rfl rfl (by omega)) ?_
        refine L.val rfl rfl (R.mv rfl) ?_
        refine L.val rfl rfl (R.sub' rfl rfl (by omega)) ?_
        refine L.be 39 rfl (show _ = Value.int .i64 ((n + 1 - i : Nat) : Int) by congr 1; omega) ?_
        refine L.do rfl rfl (R.appZN (m := n + 1 - i) rfl rfl (ho.pre (i := i) (by omega)) (by intro u hu; simp [Value.cells] at hu; first | (rcases hu with rfl | rfl <;> rfl) | (rcases hu with rfl | rfl | rfl <;> rfl) | (rcases hu with rfl | rfl | rfl | rfl <;> rfl) | (rcases hu with rfl | rfl | rfl | rfl | rfl <;> rfl)) (by simp [maxLen]; omega) (by omega) (by decide) (by decide) (by omega)) ?_
        rintro _ w1 ⟨a1, c1, M1, rfl, e1, o1, hM1⟩
        rw [show i + (n + 1 - i) = n + 1 by omega] at o1 ⊢
        obtain ⟨g1, cur1, rfl, rfl, B1, hc1, hx1, hz1, ht1⟩ := o1.some (by omega)
        have hg1 := hM1 g1 (by simp)
        have hcu : (cur1.toList.take (i * 2)) = pcells (ps.take i) := by
          have h9 := congrArg (List.take (i * 2)) ht1
          rw [List.take_take, Nat.min_eq_left (Nat.mul_le_mul_right _ (by omega))] at h9
          refine h9.trans ?_
          show List.take (i * 2) (List.take (i * 2) (pcells ps) ++ _) = _
          rw [List.take_append_of_le_length (by rw [hps.1, hci]; exact Nat.le_refl _), List.take_take, Nat.min_self]
          exact hps.1
        have hzz : (n + 1) * 2 ≤ cur1.size := Nat.le_trans (Nat.mul_le_mul_right _ hc1) hz1
        have hog := over_grow (c1 := pcell p) (c2 := pcells (ps.drop i)) (s := 2) (K := (n - i) * 2) hcu (by omega) hl2 hcd (by omega)
        refine L.val rfl rfl (R.as rfl) ?_
        refine L.nil ?_
        refine N.seq ?_
        refine G.seq ?_
        refine G.region ?_
        refine L.val rfl rfl (R.mv rfl) ?_
        refine L.val rfl rfl (R.mv rfl) ?_
        refine L.val rfl rfl (R.slL rfl rfl (by omega) (by omega)) ?_
        refine L.be 43 rfl (show _ = Value.slice (some ⟨g1, i * 2, none⟩) (n + 1 - i) (c1 - i) by rw [Int.toNat_natCast, subA_lit (by omega), Nat.zero_add]) ?_
        refine L.val rfl rfl (R.mv rfl) ?_
        refine L.do rfl rfl (R.copyN (m := 1) rfl rfl B1 (Cv.ext0 e1) (Nat.min_eq_left (by omega)) (by rw [hl2]) (by rw [hl2]; omega) hp1) ?_
        rintro _ w2 ⟨rfl, P2⟩
        obtain ⟨e2, hs2, B2⟩ := P2
        have n2 := e1.news2 e2 hg1
        have Cd : Cells w2 (subA a i c 2) (pcells (ps.drop i)) := by
          have h9 := (ho.cells.ext0 n2).sub i c 2 ((n - i) * 2) (by rw [ho.1, show 1 + 1 = 2 from rfl, ← Nat.add_mul]; exact Nat.mul_le_mul_right _ (by omega)) (by omega)
          rw [hps.2, List.take_of_length_le (by omega)] at h9
          exact h9
        refine L.nil ?_
        refine N.seq ?_
        refine G.seq ?_
        refine G.staged [8] [.blocks ([g1])] [fun w' => Ext [] w2 w', fun w' => Ext [g1] w2 w' ∧ Blk w' g1 (Over (Over cur1 (i * 2) (pcell p)) ((i + 1) * 2) (pcells (ps.drop i))) 114 (0, 0)] [] (by decide +kernel) (by decide +kernel) rfl rfl rfl (fun _ h => h) ?_
        refine Z.val rfl rfl rfl rfl rfl (fun w3 => R.mv rfl) ?_
        refine Z.val rfl rfl rfl rfl rfl (fun w3 => R.mv rfl) ?_
        refine Z.val rfl rfl rfl rfl rfl (fun w3 => R.mv rfl) ?_
        refine Z.val rfl rfl rfl rfl rfl (fun w3 => R.add rfl rfl (by omega)) ?_
        refine Z.val rfl rfl rfl rfl rfl (fun w3 => R.slL rfl rfl (by omega) (by omega)) ?_
        refine Z.be 50 rfl (show _ = Value.slice (some ⟨g1, (i + 1) * 2, none⟩) (n - i) (c1 - (i + 1)) by rw [show ((i : Int) + ((1 : Nat) : Int)).toNat = i + 1 by omega, subA_lit (by omega), Nat.zero_add, show n + 1 - (i + 1) = n - i by omega]) ?_
        refine Z.val rfl rfl rfl rfl rfl (fun w3 => R.mv rfl) ?_
        refine Z.val rfl rfl rfl rfl rfl (fun w3 => R.mv rfl) ?_
        refine Z.val rfl rfl rfl rfl rfl (fun w3 => R.slL rfl rfl (by omega) (by omega)) ?_
        refine Z.be 53 rfl (show _ = Value.slice (subA a i c 2) (n - i) (c - i) by rw [Int.toNat_natCast]) ?_
        refine Z.put (A := fun v _ => True) (Lasts.kill (fun _ _ _ _ h => h) (by decide +kernel)) 0 (by decide +kernel) rfl rfl rfl rfl rfl rfl rfl (fun w3 hJ => (R.copyN (m := n - i) rfl rfl (B2.ext0 hJ) (Cd.ext0 hJ) (Nat.min_self _) hcd (by rw [hcd, hog.2.1]; omega) hone2).mono (fun v w9 h => by obtain ⟨_, h1, h2, h3⟩ := h; exact ⟨trivial, h1, h1.after hJ, h3⟩)) ?_
        refine Z.nil rfl rfl (fun w3 hJ => ?_)
        obtain ⟨e3, B3⟩ := hJ
        intro v54 _
        have n3 := n2.news2 e3 hg1
        refine N.seq ?_
        refine G.seq ?_
        refine G.region ?_
        refine L.val rfl rfl (R.mv rfl) ?_
        refine L.val rfl rfl (R.as rfl) ?_
        refine L.nil ?_
        refine N.seq ?_
        refine G.ret1 rfl rfl ?_
        first
          | (have e9 : pcells ps ++ pcell p = pcells (ps.take i ++ p :: ps.drop i) := by rw [← pcells_ins, List.take_of_length_le (by omega), List.drop_of_length_le (by omega)]; simp [pcells]
             rw [e9] at o1; exact ⟨a1, c1, M1, rfl, e1, hM1, o1⟩)
          | (refine ⟨_, c1, [g1], rfl, n3.mono (by simp), fun x hx => .inr (by rw [List.mem_singleton.1 hx]; exact hg1), ?_⟩
             have hfin := hog.1; rw [pcells_ins, ← Nat.add_one_mul, ← Nat.add_mul, show i + 1 + (n - i) = n + 1 by omega] at hfin
             refine ⟨by rw [pcells_len (sv := 1) (fun q hq => (okIns hok hp q hq).1), List.length_append, List.length_cons, List.length_take, List.length_drop]; congr 1; omega, .inr ⟨g1, _, rfl, rfl, B3, by omega, hx1, ?_, hfin⟩⟩
             rw [← Nat.add_one_mul] at hog; rw [hog.2.2]; exact hz1)
          | (refine ⟨_, c, [g0], rfl, hE5, fun x hx => .inl hx, ?_⟩
             have hfin := hoi.1; rw [pcells_ins, ← Nat.add_one_mul] at hfin
             refine ⟨by rw [pcells_len (sv := 1) (fun q hq => (okIns hok hp q hq).1), List.length_append, List.length_cons, List.length_take, List.length_drop]; congr 1; omega, .inr ⟨g0, _, rfl, rfl, B5, by omega, hx0, ?_, hfin⟩⟩
             rw [hoi.2.2]; exact hz0)
      · have hroom : n + 1 ≤ c := by omega
        obtain ⟨g0, cur0, rfl, rfl, B0, hc0, hx0, hz0, ht0⟩ := ho.some (by omega)
        have hzz : (n + 1) * 2 ≤ cur0.size := Nat.le_trans (Nat.mul_le_mul_right _ hroom) hz0
        have hxl : (pcells ps).length = n * 2 := ho.1
        have hoi := over_insert (s := 2) (A := i * 2) (L := n * 2) ht0 hxl (Nat.mul_le_mul_right _ (by omega)) hl2 (by omega)
        rw [hps.1, hps.2] at hoi
        have hro : i * 2 + 2 + (n - i) * 2 ≤ cur0.size := by
          have h9 : (i + 1 + (n - i)) * 2 ≤ cur0.size := by rw [show i + 1 + (n - i) = n + 1 by omega]; exact hzz
          rwa [Nat.add_mul, Nat.add_mul, Nat.one_mul] at h9
        have Cd : Cells w (some ⟨g0, i * 2, none⟩) (pcells (ps.drop i)) := Cells.of_blk B0 (i * 2) (pcells (ps.drop i)) (fun j v hj => by
          rw [← hps.2, ← ht0, List.drop_take, List.getElem?_take] at hj
          split at hj
          · simpa [List.getElem?_drop] using hj
          · cases hj)
        refine G.skip ?_
        refine N.seq ?_
        refine G.seq ?_
        refine G.region ?_
        refine L.val rfl rfl (R.mv rfl) ?_
        refine L.val rfl rfl (R.mv rfl) ?_
        refine L.val rfl rfl (R.mv rfl) ?_
        refine L.val rfl rfl (R.add rfl rfl (by omega)) ?_
        refine L.val rfl rfl (R.slH rfl rfl (by omega) (by omega)) ?_
        refine L.be 60 rfl (show _ = Value.slice (some ⟨g0, 0, none⟩) (n + 1) c by rw [subA_zero, show ((n : Int) + ((1 : Nat) : Int)).toNat = n + 1 by omega]) ?_
        refine L.val rfl rfl (R.as rfl) ?_
        refine L.nil ?_
        refine N.seq ?_
        refine G.seq ?_
        refine G.seq ?_
        refine G.region ?_
        refine L.val rfl rfl (R.mv rfl) ?_
        refine L.val rfl rfl (R.mv rfl) ?_
        refine L.val rfl rfl (R.mv rfl) ?_
        refine L.val rfl rfl (R.mv rfl) ?_
        refine L.val rfl rfl (R.add rfl rfl (by omega)) ?_
        refine L.val rfl rfl (R.slL rfl rfl (by omega) (by omega)) ?_
        refine L.be 66 rfl (show _ = Value.slice (subA (some ⟨g0, 0, none⟩) (i + 1) c 2) (n + 1 - (i + 1)) (c - (i + 1)) by rw [show ((i : Int) + ((1 : Nat) : Int)).toNat = i + 1 by omega]) ?_
        refine L.be 66 rfl (show _ = Value.slice (some ⟨g0, (i + 1) * 2, none⟩) (n - i) (c - (i + 1)) by rw [subA_lit (by omega), Nat.zero_add, show n + 1 - (i + 1) = n - i by omega]) ?_
        refine L.val rfl rfl (R.overlaps (A := (pcell p).toArray) (B := cur0) Tryz.func75 (by decide) rfl rfl rfl rfl rfl Bv B0 (by simpa using hvM) (by omega)) ?_
        refine L.val rfl rfl (R.not rfl) ?_
        refine L.nil ?_
        refine N.seq ?_
        refine G.condT rfl ?_
        refine G.seq ?_
        refine G.staged [8] [.blocks ([g0])] [fun w' => Ext [] w w', fun w' => Ext [g0] w w' ∧ Blk w' g0 (Over cur0 (i * 2 + 2) (pcells (ps.drop i))) 114 (0, 0)] [] (by decide +kernel) (by decide +kernel) rfl rfl rfl (fun _ h => h) ?_
        refine Z.val rfl rfl rfl rfl rfl (fun w1 => R.mv rfl) ?_
        refine Z.val rfl rfl rfl rfl rfl (fun w1 => R.mv rfl) ?_
        refine Z.val rfl rfl rfl rfl rfl (fun w1 => R.mv rfl) ?_
        refine Z.val rfl rfl rfl rfl rfl (fun w1 => R.add rfl rfl (by omega)) ?_
        refine Z.val rfl rfl rfl rfl rfl (fun w1 => R.slL rfl rfl (by omega) (by omega)) ?_
        refine Z.be 73 rfl (show _ = Value.slice (some ⟨g0, i * 2 + 2, none⟩) (n - i) (c - (i + 1)) by rw [show ((i : Int) + ((1 : Nat) : Int)).toNat = i + 1 by omega, subA_lit (by omega), Nat.zero_add, show n + 1 - (i + 1) = n - i by omega, Nat.add_mul]) ?_
        refine Z.val rfl rfl rfl rfl rfl (fun w1 => R.mv rfl) ?_
        refine Z.val rfl rfl rfl rfl rfl (fun w1 => R.mv rfl) ?_
        refine Z.val rfl rfl rfl rfl rfl (fun w1 => R.slL rfl rfl (by omega) (by omega)) ?_
        refine Z.be 76 rfl (show _ = Value.slice (some ⟨g0, i * 2, none⟩) (n + 1 - i) (c - i) by rw [Int.toNat_natCast, subA_lit (by omega), Nat.zero_add]) ?_
        refine Z.put (A := fun v _ => True) (Lasts.kill (fun _ _ _ _ h => h) (by decide +kernel)) 0 (by decide +kernel) rfl rfl rfl rfl rfl rfl rfl (fun w1 hJ => (R.copyN (m := n - i) rfl rfl (B0.ext0 hJ) (Cd.ext0 hJ) (Nat.min_eq_right (by omega)) hcd (by rw [hcd]; omega) hone2).mono (fun v w9 h => by obtain ⟨_, h1, h2, h3⟩ := h; exact ⟨trivial, h1, h1.after hJ, h3⟩)) ?_
        refine Z.nil rfl rfl (fun w1 hJ => ?_)
        obtain ⟨e3, B3⟩ := hJ
        intro v77 _
        have hvg : vb ≠ g0 := fun h => hvM (by rw [h]; simp)
        refine N.seq ?_
        refine G.seq ?_
        refine G.region ?_
        refine L.val rfl rfl (R.mv rfl) ?_
        refine L.val rfl rfl (R.mv rfl) ?_
        refine L.val rfl rfl (R.slL rfl rfl (by omega) (by omega)) ?_
        refine L.be 80 rfl (show _ = Value.slice (some ⟨g0, i * 2, none⟩) (n + 1 - i) (c - i) by rw [Int.toNat_natCast, subA_lit (by omega), Nat.zero_add]) ?_
        refine L.val rfl rfl (R.mv rfl) ?_
        refine L.do rfl rfl (R.copyN (m := 1) rfl rfl B3 (Cv.ext e3 (by intro q hq; cases hq; simpa using hvg)) (Nat.min_eq_left (by omega)) (by rw [hl2]) (by rw [hl2, hoi.2.1]; omega) hp1) ?_
        rintro _ w5 ⟨rfl, P5⟩
        obtain ⟨e5, hs5, B5⟩ := P5
        have hE5 := e3.transN e5 (fun x hx => .inl hx)
        refine L.nil ?_
        refine N.seq ?_
        refine G.seq ?_
        refine G.region ?_
        refine L.val rfl rfl (R.mv rfl) ?_
        refine L.val rfl rfl (R.as rfl) ?_
        refine L.nil ?_
        refine N.seq ?_
        refine G.ret1 rfl rfl ?_
        first
          | (have e9 : pcells ps ++ pcell p = pcells (ps.take i ++ p :: ps.drop i) := by rw [← pcells_ins, List.take_of_length_le (by omega), List.drop_of_length_le (by omega)]; simp [pcells]
             rw [e9] at o1; exact ⟨a1, c1, M1, rfl, e1, hM1, o1⟩)
          | (refine ⟨_, c1, [g1], rfl, n3.mono (by simp), fun x hx => .inr (by rw [List.mem_singleton.1 hx]; exact hg1), ?_⟩
             have hfin := hog.1; rw [pcells_ins, ← Nat.add_one_mul, ← Nat.add_mul, show i + 1 + (n - i) = n + 1 by omega] at hfin
             refine ⟨by rw [pcells_len (sv := 1) (fun q hq => (okIns hok hp q hq).1), List.length_append, List.length_cons, List.length_take, List.length_drop]; congr 1; omega, .inr ⟨g1, _, rfl, rfl, B3, by omega, hx1, ?_, hfin⟩⟩
             rw [← Nat.add_one_mul] at hog; rw [hog.2.2]; exact hz1)
          | (refine ⟨_, c, [g0], rfl, hE5, fun x hx => .inl hx, ?_⟩
             have hfin := hoi.1; rw [pcells_ins, ← Nat.add_one_mul] at hfin
             refine ⟨by rw [pcells_len (sv := 1) (fun q hq => (okIns hok hp q hq).1), List.length_append, List.length_cons, List.length_take, List.length_drop]; congr 1; omega, .inr ⟨g0, _, rfl, rfl, B5, by omega, hx0, ?_, hfin⟩⟩
             rw [hoi.2.2]; exact hz0)

end Go.Proofs.YtlhkpakbenghgaaGreat
/-
  The walks of package order.
-/
set_option linter.unusedVariables false
set_option linter.unusedSimpArgs false
set_option maxRecDepth 4000
namespace Go.Proofs.YtlhkpakbenghgaaGreat
open Go Brv
theorem onewI_ok  (w : World) : Meets Tryz.prog 20 [] w (fun v w' => ∃ b, v = .pointer (some ⟨b, 0, none⟩) ∧ w.heap.size ≤ b ∧ Ext [] w w' ∧ MapAt (κ := Int) 112 114 1 w' b [] [b]) := by
  refine Meets.enter Tryz.func20 rfl 3 rfl (Nat.le_of_ble_eq_true rfl) ?_
  have E := Ext.refl [] w
  refine G.seq ?_
  refine G.region ?_
  refine L.val rfl rfl (R.as rfl) ?_
  refine L.nil ?_
  refine N.seq ?_
  refine G.seq ?_
  refine G.region ?_
  refine L.val rfl rfl (R.build (cs := #[.slice none 0 0]) rfl rfl) ?_
  refine L.do rfl rfl (R.box rfl) ?_
  rintro _ w1 ⟨b, rfl, hb2, hs2, e1, B2⟩
  replace E := E.trans0 e1
  refine L.val rfl rfl (R.as rfl) ?_
  refine L.nil ?_
  refine N.seq ?_
  refine G.ret1 rfl rfl ?_
  exact ⟨b, rfl, by omega, E, MapAt.mk (M := []) (by simp) B2 rfl (Own.nil _ _ _) (by intro p hp; cases hp) List.Pairwise.nil⟩

theorem putI_ok (m : Nat) (ps : List (Pr (Int))) (S : List Nat) (k : Int) (vx : Int) (w : World) (hd : MapAt (κ := Int) 112 114 1 w m ps S) (hl : ps.length ≤ 999999) : Meets Tryz.prog 21 [.pointer (some ⟨m, 0, none⟩), .int .i64 k, .int .i64 vx] w (fun v w' => v = .bool (!hasK ps k) ∧ ∃ S', Grown S S' w w' ∧ MapAt (κ := Int) 112 114 1 w' m (putK ps k [.int .i64 vx]) S') := by
  refine Meets.enter Tryz.func21 rfl 39 rfl (Nat.le_of_ble_eq_true rfl) ?_
  have E := Ext.refl [] w
  have hd0 := hd
  obtain ⟨a, c, M, rfl, hm0, Bm, om, hok, hs⟩ := hd
  have hone : ∀ u ∈ ([.int .i64 vx] : List Value), u.oneCell' = true := by intro x hx; rw [List.mem_singleton.1 hx]; rfl
  refine G.seq ?_
  refine G.region ?_
  refine L.val rfl rfl (R.as rfl) ?_
  refine L.nil ?_
  refine N.seq ?_
  refine G.seq ?_
  refine G.seq ?_
  refine G.region ?_
  refine L.val rfl rfl (R.mv rfl) ?_
  refine L.val rfl rfl (R.eqNilP rfl rfl) ?_
  refine L.nil ?_
  refine N.seq ?_
  refine G.condF rfl ?_
  refine G.skip ?_
  refine N.seq ?_
  refine G.seq ?_
  refine G.region ?_
  refine L.val rfl rfl (R.mv rfl) ?_
  refine L.val rfl rfl (R.mv rfl) ?_
  refine L.callF rfl rfl rfl go45 (findI_ok m ps (m :: M) k _ hd0 (by omega)) ?_
  rintro _ w1 ⟨rfl, e1⟩
  replace E := E.trans0 e1
  replace Bm := Bm.ext0 e1
  replace om := om.ext0 e1
  refine L.val rfl rfl (R.mv rfl) ?_
  refine L.val rfl rfl (R.ext rfl rfl) ?_
  refine L.val rfl rfl (R.ext rfl rfl) ?_
  refine L.val rfl rfl (R.as rfl) ?_
  refine L.val rfl rfl (R.as rfl) ?_
  refine L.nil ?_
  refine N.seq ?_
  refine G.seq ?_
  refine G.seq ?_
  refine G.region ?_
  refine L.val rfl rfl (R.mv rfl) ?_
  refine L.nil ?_
  refine N.seq ?_
  refine G.condB rfl (fun h1 => ?_) (fun h1 => ?_)
  · have hk : hasK ps k = true := h1
    have hlt := hasK_lt hk
    obtain ⟨g, cur, rfl, rfl, Bg, hnc, hcm, hcs, ht⟩ := om.some (by omega)
    have hgm : m ≠ g := fun h => hm0 (by simp [h])
    have hsz : low ps k * 2 + 2 ≤ cur.size := by
      have h9 : (low ps k + 1) * 2 ≤ c * 2 := Nat.mul_le_mul_right _ (by omega)
      rw [Nat.add_mul, Nat.one_mul] at h9
      exact Nat.le_trans h9 hcs
    refine G.seq ?_
    refine G.region ?_
    refine L.val rfl rfl (R.mv rfl) ?_
    refine L.val rfl rfl (R.nilChk rfl) ?_
    refine L.val rfl rfl (R.fld rfl) ?_
    refine L.val rfl rfl (R.ldB rfl Bm rfl) ?_
    refine L.val rfl rfl (R.mv rfl) ?_
    refine L.val rfl rfl (R.mv rfl) ?_
    refine L.val rfl rfl (R.idx rfl rfl (by omega) (by omega) _ rfl) ?_
    refine L.be 24 rfl (show _ = Value.pointer (some ⟨g, low ps k * 2, none⟩) by rw [Int.toNat_natCast, Go.Addr.add_lit, Nat.zero_add]) ?_
    refine L.val rfl rfl (R.fld rfl) ?_
    refine L.set rfl (R.st rfl rfl Bg (by omega) rfl) ?_
    rintro w2 ⟨e2, hs2, Bg⟩
    rw [set_at (by omega)] at Bg
    replace Bm := Bm.ext e2 (by simpa using hgm)
    have o2 := own_set (v := [.int .i64 vx]) rfl hok hs hk rfl hnc hcm hcs ht Bg
    have X := e2.after E
    refine L.nil ?_
    refine N.seq ?_
    refine G.seq ?_
    refine G.region ?_
    refine L.val rfl rfl (R.as rfl) ?_
    refine L.nil ?_
    refine N.seq ?_
    refine G.ret1 rfl rfl ?_
    first
      | exact ⟨by rw [hk]; rfl, [m, g], ⟨X.mono (fun x hx => .inl (List.mem_cons_of_mem _ hx)), fun x hx => .inl hx⟩, MapAt.mk hm0 Bm (by rw [put_len, if_pos hk]) o2 (hok.put ⟨rfl, hone⟩) (sorted_put hs _ _)⟩
      | exact ⟨by rw [hk]; rfl, m :: M3, ⟨X, fun x hx => (List.mem_cons.1 hx).elim (fun h => .inl (by simp [h])) (fun h => (hM3 x h).elim (fun h => .inl (List.mem_cons_of_mem _ h)) (fun h => .inr (by omega)))⟩, MapAt.mk hm3 Bm (by rw [put_len, if_neg (by simp [hk])]) (by rw [putK_no hk]; exact o4) (hok.put ⟨rfl, hone⟩) (sorted_put hs _ _)⟩
  · have hk : hasK ps k = false := h1
    have hio := low_le ps k
    have hMl := om.lt
    have hml := Bm.lt
    refine G.skip ?_
    refine N.seq ?_
    refine G.seq ?_
    refine G.region ?_
    refine L.val rfl rfl (R.mv rfl) ?_
    refine L.val rfl rfl (R.mv rfl) ?_
    refine L.val rfl rfl (R.nilChk rfl) ?_
    refine L.val rfl rfl (R.fld rfl) ?_
    refine L.val rfl rfl (R.ldB rfl Bm rfl) ?_
    refine L.val rfl rfl (R.mv rfl) ?_
    refine L.val rfl rfl (R.mv rfl) ?_
    refine L.val rfl rfl (R.mv rfl) ?_
    refine L.val rfl rfl (R.build (cs := #[.int .i64 k, .int .i64 vx]) rfl rfl) ?_
    refine L.do rfl rfl (R.buildA rfl rfl rfl rfl rfl) ?_
    rintro _ w2 ⟨vb, rfl, hvb, hs2, e2, Bv⟩
    replace Bv : Blk w2 vb (pcell ((k, [.int .i64 vx]) : Pr (Int))).toArray 114 (0, 0) := Bv
    replace E := E.trans0 e2
    replace Bm := Bm.ext0 e2
    replace om := om.ext0 e2
    have hvM : vb ∉ M := fun h => by have := hMl vb h; omega
    have hE2 := E.size
    have hws := e2.size
    refine L.callF rfl rfl rfl go46 (insI_ok a ps.length c ps M (low ps k) ((k, [.int .i64 vx]) : Pr (Int)) vb _ om rfl hok hio ⟨rfl, hone⟩ Bv hvM (by omega)) ?_
    rintro _ w3 ⟨a3, c3, M3, rfl, e3, hM3, o3⟩
    replace Bm := Bm.ext e3 hm0
    have hm3 : m ∉ M3 := fun h => (hM3 m h).elim hm0 (by omega)
    refine L.val rfl rfl (R.nilChk rfl) ?_
    refine L.val rfl rfl (R.fld rfl) ?_
    refine L.set rfl (R.st rfl rfl Bm (by show 0 < 1; decide) rfl) ?_
    rintro w4 ⟨e4, hs4, Bm⟩
    replace Bm : Blk w4 m #[.slice a3 (ps.length + 1) c3] 112 (0, 0) := Bm
    have o4 := o3.ext e4 (by intro g hg h; rw [List.mem_singleton.1 h] at hg; exact hm3 hg)
    have X : Ext (m :: M) w w4 := ((e3.after E).mono (fun x hx => .inl (List.mem_cons_of_mem _ hx))).transN e4 (fun x hx => .inl (by rw [List.mem_singleton.1 hx]; simp))
    refine L.nil ?_
    refine N.seq ?_
    refine G.seq ?_
    refine G.region ?_
    refine L.val rfl rfl (R.as rfl) ?_
    refine L.nil ?_
    refine N.seq ?_
    refine G.ret1 rfl rfl ?_
    first
      | exact ⟨by rw [hk]; rfl, [m, g], ⟨X.mono (fun x hx => .inl (List.mem_cons_of_mem _ hx)), fun x hx => .inl hx⟩, MapAt.mk hm0 Bm (by rw [put_len, if_pos hk]) o2 (hok.put ⟨rfl, hone⟩) (sorted_put hs _ _)⟩
      | exact ⟨by rw [hk]; rfl, m :: M3, ⟨X, fun x hx => (List.mem_cons.1 hx).elim (fun h => .inl (by simp [h])) (fun h => (hM3 x h).elim (fun h => .inl (List.mem_cons_of_mem _ h)) (fun h => .inr (by omega)))⟩, MapAt.mk hm3 Bm (by rw [put_len, if_neg (by simp [hk])]) (by rw [putK_no hk]; exact o4) (hok.put ⟨rfl, hone⟩) (sorted_put hs _ _)⟩

end Go.Proofs.YtlhkpakbenghgaaGreat
/-
  The walks of package stats.
-/
set_option linter.unusedVariables false
set_option linter.unusedSimpArgs false
set_option maxRecDepth 4000
namespace Go.Proofs.YtlhkpakbenghgaaGreat
open Go Brv Brv.Stats
structure WriteV where
  mk ::
  (Block' : Int)
  (B'a : Option Addr) (B'n B'c : Nat) (B' : List UInt8)
def WriteV.cells (o : WriteV) : List Value := [.int .i64 o.Block', .slice o.B'a o.B'n o.B'c]
def WriteV.ok (w : World) (o : WriteV) : Prop := (Lit.int .i64 o.Block').wf = true ∧ (o.B'n ≤ o.B'c ∧ o.B'c ≤ 140737488351232 ∧ Bs w o.B'a o.B'n o.B')
theorem WriteV.ok.ext0 {w w' : World} {o : WriteV} (h : o.ok w) (he : Ext [] w w') : o.ok w' := by
  obtain ⟨h0, h1⟩ := h
  exact ⟨h0, ⟨h1.1, h1.2.1, h1.2.2.ext0 he⟩⟩
theorem WriteV.cells.length (o : WriteV) : o.cells.length = 2 := rfl
theorem WriteV.cells.one (o : WriteV) : ∀ u ∈ o.cells.toArray.toList, u.oneCell' = true := by
  intro u hu
  simp only [WriteV.cells, List.mem_cons, List.not_mem_nil, or_false] at hu
  rcases hu with rfl | rfl <;> rfl
structure RecV where
  mk ::
  (Kind' : Int)
  (Timeline' : Int)
  (Number' : Int)
  (Writes'a : Option Addr) (Writes'n Writes'c : Nat) (Writes' : List WriteV)
def RecV.cells (o : RecV) : List Value := [.int .i64 o.Kind', .int .i64 o.Timeline', .int .i64 o.Number', .slice o.Writes'a o.Writes'n o.Writes'c]
def RecV.ok (w : World) (o : RecV) : Prop := (Lit.int .i64 o.Kind').wf = true ∧ (Lit.int .i64 o.Timeline').wf = true ∧ (Lit.int .i64 o.Number').wf = true ∧ (o.Writes'n ≤ o.Writes'c ∧ o.Writes'c * 32 ≤ 140737488351232 ∧ Tab w o.Writes'a o.Writes'n 2 (o.Writes'.map WriteV.cells) ∧ ∀ x ∈ o.Writes', x.ok w)
theorem RecV.ok.ext0 {w w' : World} {o : RecV} (h : o.ok w) (he : Ext [] w w') : o.ok w' := by
  obtain ⟨h0, h1, h2, h3⟩ := h
  exact ⟨h0, h1, h2, ⟨h3.1, h3.2.1, h3.2.2.1.ext0 he, fun x hx => (h3.2.2.2 x hx).ext0 he⟩⟩
theorem RecV.cells.length (o : RecV) : o.cells.length = 4 := rfl
theorem RecV.cells.one (o : RecV) : ∀ u ∈ o.cells.toArray.toList, u.oneCell' = true := by
  intro u hu
  simp only [RecV.cells, List.mem_cons, List.not_mem_nil, or_false] at hu
  rcases hu with rfl | rfl | rfl | rfl <;> rfl
/-- A record of which the writes can be read. -/
def RecX (w : World) (x : RecV) : Prop := Tab w x.Writes'a x.Writes'n 2 (x.Writes'.map WriteV.cells) ∧ x.Writes'n * 32 ≤ 140737488355328 ∧ ∀ z ∈ x.Writes', z.ok w
theorem RecX.of {w : World} {x : RecV} (h : x.ok w) : RecX w x := by
  obtain ⟨_, _, _, h1, h2, h3, h4⟩ := h
  exact ⟨h3, by omega, h4⟩
structure RecsOk (w : World) (a : Option Addr) (n : Nat) (l : List RecV) : Prop where
  len : n = l.length
  tab : Tab w a n 4 (l.map RecV.cells)
  ok : ∀ x ∈ l, RecX w x
theorem RecX.ext0 {w w' : World} {x : RecV} (h : RecX w x) (he : Ext [] w w') : RecX w' x := ⟨h.1.ext0 he, h.2.1, fun z hz => (h.2.2 z hz).ext0 he⟩
theorem RecsOk.ext0 {w w' : World} {a : Option Addr} {n : Nat} {l : List RecV} (h : RecsOk w a n l) (he : Ext [] w w') : RecsOk w' a n l := ⟨h.len, h.tab.ext0 he, fun x hx => (h.ok x hx).ext0 he⟩
theorem recs_ok {w : World} {a : Option Addr} {n : Nat} {l : List RecV} (h : RecsOk w a n l) {k : Nat} {x : RecV} (hx : l[k]? = some x) : RecX w x := h.ok x (List.mem_of_getElem? hx)
theorem recs_pt {w : World} {a : Option Addr} {n k : Nat} {l : List RecV} (h : RecsOk w a n l) {x : RecV} (hx : l[k]? = some x) : ∃ q, a = some q := tabR_pt h.tab (by decide) (show (l.map RecV.cells)[k]? = some x.cells by rw [List.getElem?_map, hx]; rfl)
theorem recs_ld {w : World} {a : Option Addr} {n k : Nat} {l : List RecV} (h : RecsOk w a n l) {x : RecV} {q : Addr} (hq : a = some q) (hx : l[k]? = some x) : Cells w (some (q.add ((k : Int).toNat * 4))) x.cells := tabR_ld h.tab (by decide) hq (show (l.map RecV.cells)[k]? = some x.cells by rw [List.getElem?_map, hx]; rfl)
theorem rec_at {w : World} {x : RecV} (h : RecX w x) : Tab w x.Writes'a x.Writes'n 2 (x.Writes'.map WriteV.cells) ∧ x.Writes'n * 32 ≤ 140737488355328 ∧ x.Writes'n = x.Writes'.length := ⟨h.1, h.2.1, by have := h.1.len; simpa using this⟩
theorem wrs_pt {w : World} {r : RecV} (h : Tab w r.Writes'a r.Writes'n 2 (r.Writes'.map WriteV.cells)) {k : Nat} {x : WriteV} (hx : r.Writes'[k]? = some x) : ∃ q, r.Writes'a = some q := tabR_pt h (by decide) (show (r.Writes'.map WriteV.cells)[k]? = some x.cells by rw [List.getElem?_map, hx]; rfl)
theorem wrs_ld {w : World} {r : RecV} (h : Tab w r.Writes'a r.Writes'n 2 (r.Writes'.map WriteV.cells)) {k : Nat} {x : WriteV} {q : Addr} (hq : r.Writes'a = some q) (hx : r.Writes'[k]? = some x) : Cells w (some (q.add ((k : Int).toNat * 2))) x.cells := tabR_ld h (by decide) hq (show (r.Writes'.map WriteV.cells)[k]? = some x.cells by rw [List.getElem?_map, hx]; rfl)
def blksR (r : RecV) : List Int := r.Writes'.map fun z => z.Block'
def bump (num : Int) (o : Option V2) : V2 := (wr ((o.getD (0, 0)).1 + 1), num)
abbrev BzS := List (Int × V2) × List (Int × Int)
def bzW (i num : Int) (st : BzS) (q : Int) : BzS := (if hasT st.2 q then st.1 else putT st.1 q (bump num (getT st.1 q)), putT st.2 q i)
def bzR (T : List (Int × V2)) (i num : Int) (qs : List Int) : List (Int × V2) := (qs.foldl (bzW i num) (T, [])).1
def bzL (l : List RecV) : Nat → List (Int × V2)
  | 0 => []
  | k + 1 => match l[k]? with
    | some r => bzR (bzL l k) k r.Number' (blksR r)
    | none => bzL l k
def bzT (l : List RecV) : List (Int × V2) := bzL l l.length
def bzJ (l : List RecV) (k : Nat) (r : RecV) (j : Nat) : BzS := ((blksR r).take j).foldl (bzW k r.Number') (bzL l k, [])
def wsK (l : List RecV) (k : Nat) : Nat := ((l.take k).map fun r => r.Writes'.length).sum
def wsL (l : List RecV) : Nat := (l.map fun r => r.Writes'.length).sum
theorem wsK_step {l : List RecV} {k : Nat} {r : RecV} (h : l[k]? = some r) : wsK l (k + 1) = wsK l k + r.Writes'.length := by unfold wsK; rw [List.take_add_one, h]; simp
theorem wsK_le (l : List RecV) : ∀ k, wsK l k ≤ wsL l := by
  intro k
  unfold wsK wsL
  conv => rhs; rw [← List.take_append_drop k l, List.map_append, List.sum_append]
  omega
theorem bzW_len (i num : Int) (qs : List Int) : ∀ st : BzS, (qs.foldl (bzW i num) st).1.length ≤ st.1.length + qs.length ∧ (qs.foldl (bzW i num) st).2.length ≤ st.2.length + qs.length := by
  induction qs with
  | nil => exact fun st => ⟨Nat.le_refl _, Nat.le_refl _⟩
  | cons q qs ih =>
    intro st
    have h := ih (bzW i num st q)
    have h1 := putT_len3 st.1 q (bump num (getT st.1 q))
    have h2 := putT_len3 st.2 q i
    have e1 : (bzW i num st q).1.length ≤ st.1.length + 1 := by unfold bzW; dsimp only; split <;> omega
    have e2 : (bzW i num st q).2.length ≤ st.2.length + 1 := h2
    rw [List.foldl_cons, List.length_cons]
    exact ⟨by omega, by omega⟩
theorem bzL_len {l : List RecV} : ∀ k, (bzL l k).length ≤ wsK l k := by
  intro k
  induction k with
  | zero => exact Nat.zero_le _
  | succ k ih =>
    rw [bzL]
    cases hr : l[k]? with
    | none =>
      have : wsK l (k + 1) = wsK l k := by unfold wsK; rw [List.take_add_one, hr]; simp
      simp only; omega
    | some r =>
      have h := (bzW_len k r.Number' (blksR r) (bzL l k, [])).1
      rw [wsK_step hr]
      have : (blksR r).length = r.Writes'.length := by unfold blksR; rw [List.length_map]
      show (bzR _ _ _ _).length ≤ _
      unfold bzR
      simp only at h
      omega
theorem bzJ_len {l : List RecV} (k : Nat) (r : RecV) (j : Nat) : (bzJ l k r j).1.length ≤ wsK l k + j ∧ (bzJ l k r j).2.length ≤ j := by
  have h := bzW_len k r.Number' ((blksR r).take j) (bzL l k, [])
  have h2 := bzL_len (l := l) k
  have : ((blksR r).take j).length ≤ j := by rw [List.length_take]; omega
  unfold bzJ
  simp only [List.length_nil] at h
  exact ⟨by omega, by omega⟩
theorem bzJ_step {l : List RecV} {k : Nat} {r : RecV} {j : Nat} {z : WriteV} (h : r.Writes'[j]? = some z) : bzJ l k r (j + 1) = bzW k r.Number' (bzJ l k r j) z.Block' := by
  unfold bzJ
  rw [List.take_add_one, show (blksR r)[j]? = some z.Block' by unfold blksR; rw [List.getElem?_map, h]; rfl]
  simp
theorem bzJ_snd {l : List RecV} {k : Nat} {r : RecV} {j : Nat} {z : WriteV} (h : r.Writes'[j]? = some z) : putT (bzJ l k r j).2 z.Block' k = (bzJ l k r (j + 1)).2 := by rw [bzJ_step h]; rfl
theorem bzJ_old {l : List RecV} {k : Nat} {r : RecV} {j : Nat} {z : WriteV} (h : r.Writes'[j]? = some z) (hh : hasT (bzJ l k r j).2 z.Block' = true) : (bzJ l k r j).1 = (bzJ l k r (j + 1)).1 := by rw [bzJ_step h]; unfold bzW; rw [hh]; rfl
theorem bzJ_new {l : List RecV} {k : Nat} {r : RecV} {j : Nat} {z : WriteV} (h : r.Writes'[j]? = some z) (hh : hasT (bzJ l k r j).2 z.Block' = false) : putT (bzJ l k r j).1 z.Block' (bump r.Number' (getT (bzJ l k r j).1 z.Block')) = (bzJ l k r (j + 1)).1 := by rw [bzJ_step h]; unfold bzW; rw [hh]; rfl
theorem bzJ_all {l : List RecV} {k : Nat} {r : RecV} (hr : l[k]? = some r) {j : Nat} (hj : j = r.Writes'.length) : (bzJ l k r j).1 = bzL l (k + 1) := by
  unfold bzJ
  rw [List.take_of_length_le (by unfold blksR; rw [List.length_map]; omega), bzL, hr]; rfl
theorem psB_at {T : List (Int × V2)} {k : Nat} {q : Int × List Value} (h : (psB T)[k]? = some q) : ∃ p, T[k]? = some p ∧ q = (p.1, bz3 p.1 p.2) := by
  unfold psB at h
  rw [mapK_at] at h
  cases hp : T[k]? with
  | none => rw [hp] at h; cases h
  | some p => rw [hp] at h; cases h; exact ⟨p, rfl, rfl⟩
theorem bCells_take {T : List (Int × V2)} {k : Nat} {p : Int × V2} (h : T[k]? = some p) : (bCells (T.take k)).flatten ++ bz3 p.1 p.2 = (bCells (T.take (k + 1))).flatten := take_flat (fun p : Int × V2 => bz3 p.1 p.2) h
theorem putI (m : Nat) (T T' : List (Int × Int)) (k : Int) (v : Int) (hl : T.length ≤ 999999) (hT : putT T k v = T') : SpecS Tryz.prog 21 [.pointer (some ⟨m, 0, none⟩), .int .i64 k, .int .i64 v] [mp (κ := Int) 112 114 1 m (psI T)] (fun v H' => v = .bool (!hasT T k) ∧ H' = [mp (κ := Int) 112 114 1 m (psI T')]) := by
  have := SpecS.ofMap (φ := fun v => v = .bool (!hasK (psI T) k)) (fun w S hm => putI_ok m (psI T) S k v w hm (by unfold psI; rw [mapK_len]; exact hl))
  subst hT
  rw [← hasT_eq, ← putT_eq] at this
  unfold psI at this ⊢
  rw [hasT_mapK, show ([.int .i64 v] : List Value) = in1 k v from rfl, putT_mapK] at this
  exact this

theorem getB (m : Nat) (T : List (Int × V2)) (k : Int) (S : List Nat) (w : World) (hm : MapAt (κ := Int) 109 117 3 w m (psB T) S) (hl : T.length ≤ 999999) : Meets Tryz.prog 22 [.pointer (some ⟨m, 0, none⟩), .int .i64 k] w (fun v w' => v = .tuple #[.agg (bz3 (if hasT T k then k else 0) ((getT T k).getD (0, 0))).toArray, .bool (hasT T k)] ∧ Ext [] w w') :=
  (getApiBusy_ok m (psB T) S k w hm (by unfold psB; rw [mapK_len]; exact hl)).mono fun v w' ⟨h1, h2⟩ => ⟨by
    rw [h1, ← hasT_eq, ← getT_eq]
    unfold psB
    rw [hasT_mapK, getT_mapK, hasT_isSome]
    cases getT T k <;> rfl, h2⟩
theorem putB (m : Nat) (T T' : List (Int × V2)) (k : Int) (v : V2) (hl : T.length ≤ 999999) (hT : putT T k v = T') : SpecS Tryz.prog 23 [.pointer (some ⟨m, 0, none⟩), .int .i64 k, .agg (bz3 k v).toArray] [mp (κ := Int) 109 117 3 m (psB T)] (fun v H' => v = .bool (!hasT T k) ∧ H' = [mp (κ := Int) 109 117 3 m (psB T')]) := by
  have := SpecS.ofMap (φ := fun v => v = .bool (!hasK (psB T) k)) (fun w S hm => putApiBusy_ok m (psB T) S k (bz3 k v) w hm (by unfold psB; rw [mapK_len]; exact hl) ⟨rfl, bz3_one k v⟩)
  subst hT
  rw [← hasT_eq, ← putT_eq] at this
  unfold psB at this ⊢
  rw [hasT_mapK, putT_mapK] at this
  exact this

theorem Blocks_ok (a : Option Addr) (n c : Nat) (its : List RecV) (hb : n * 48 ≤ 140737488355328) (hw : wsL its ≤ 900000) : SpecS Tryz.prog 7 [.slice a n c] [sh (fun w => RecsOk w a n its)] (fun v H' => ∃ a' c', v = .slice a' (bzT its).length c' ∧ H' = [own 45 3 a' ((bzT its).length) c' (bCells (bzT its)).flatten]) := by
  refine SpecS.enter Tryz.func7 rfl 66 rfl (Nat.le_of_ble_eq_true rfl) (fun o => ?_)
  refine SG.fact (fun w9 F9 S9 s => (s.sh (p := fun w => RecsOk w a n its) (by repeat (first | exact Sel.keep | exact Sel.here | apply Sel.there))).len) (fun hf9 => ?_)
  have hln := hf9; clear hf9
  refine SG.seq ?_
  refine SG.region ?_
  refine SL.val rfl rfl (fun w9 F9 S9 s => R.as rfl) ?_
  refine SL.nil ?_
  refine SN.seq ?_
  refine SG.seq ?_
  refine SG.region ?_
  refine SL.step rfl rfl (CS.call rfl go19 (SpecS.ofNew (fun w => onewApiBusy_ok w)) (by repeat (first | exact Sels.nil | apply Sels.cons | exact Sel.keep | exact Sel.here | apply Sel.there))) ?_
  rintro _ _ ⟨_, ⟨m, rfl, rfl⟩, rfl⟩
  refine SL.n1 ?_
  refine SL.val rfl rfl (fun w9 F9 S9 s => R.as rfl) ?_
  refine SL.nil ?_
  refine SN.seq ?_
  refine SG.seq ?_
  refine SG.seq ?_
  refine SG.region ?_
  refine SL.val rfl rfl (fun w9 F9 S9 s => R.mv rfl) ?_
  refine SL.val rfl rfl (fun w9 F9 S9 s => R.lenS rfl) ?_
  refine SL.val rfl rfl (fun w9 F9 S9 s => R.mv rfl) ?_
  refine SL.nil ?_
  refine SN.seq ?_
  refine SG.block ?_
  refine SG.loop (X := Nat) (fun k => [(0, .slice a n c), (3, .pointer (some ⟨m, 0, none⟩)), (15, .slice a n c), (16, .int .i64 (n : Int)), (17, .int .i64 (k : Int))]) (fun k => [mp (κ := Int) 109 117 3 m (psB (bzL its k)), sh (fun w => RecsOk w a n its)]) (fun k => k ≤ n) (fun k => n - k) (0) (Sub.cons rfl (Sub.cons rfl (Sub.cons rfl (Sub.cons rfl (Sub.cons rfl (Sub.nil _)))))) ((Imp.sels (by repeat (first | exact Sels.nil | apply Sels.cons | exact Sel.keep | exact Sel.here | apply Sel.there)))) (Nat.zero_le _) ?_
  intro k hk
  show SG _ _ _ _ _ [(0, .slice a n c), (3, .pointer (some ⟨m, 0, none⟩)), (15, .slice a n c), (16, .int .i64 (n : Int)), (17, .int .i64 (k : Int))] [mp (κ := Int) 109 117 3 m (psB (bzL its k)), sh (fun w => RecsOk w a n its)] _
  refine SG.seq ?_
  refine SG.region ?_
  refine SL.val rfl rfl (fun w9 F9 S9 s => R.lss rfl rfl) ?_
  refine SL.nil ?_
  refine SN.seq ?_
  refine SG.seq ?_
  refine SG.condP rfl (fun h0 => ?_) (fun h0 => ?_)
  · obtain ⟨r, hr⟩ : ∃ r, its[k]? = some r := ⟨_, List.getElem?_eq_getElem (by omega)⟩
    have hkw := wsK_le its (k + 1)
    rw [wsK_step hr] at hkw
    refine SG.fact (fun w9 F9 S9 s => recs_pt (s.sh (p := fun w => RecsOk w a n its) (by repeat (first | exact Sel.keep | exact Sel.here | apply Sel.there))) hr) (fun hf9 => ?_)
    obtain ⟨q, hq⟩ := hf9
    refine SG.fact (fun w9 F9 S9 s => (rec_at (recs_ok (s.sh (p := fun w => RecsOk w a n its) (by repeat (first | exact Sel.keep | exact Sel.here | apply Sel.there))) hr)).2) (fun hf9 => ?_)
    have hwn := hf9; clear hf9
    refine SG.skip ?_
    refine SN.seq ?_
    refine SG.seq ?_
    refine SG.block ?_
    refine SG.seq ?_
    refine SG.region ?_
    refine SL.val rfl rfl (fun w9 F9 S9 s => R.mv rfl) ?_
    refine SL.val rfl rfl (fun w9 F9 S9 s => R.idx rfl rfl (by omega) (by omega) q hq) ?_
    refine SL.val rfl rfl (fun w9 F9 S9 s => R.ldN (vs := r.cells) rfl (recs_ld (s.sh (p := fun w => RecsOk w a n its) (by repeat (first | exact Sel.keep | exact Sel.here | apply Sel.there))) hq hr) rfl) ?_
    refine SL.step rfl rfl (CS.alloc [.int .i64 0, .int .i64 0, .int .i64 0, .slice none 0 0] rfl) ?_
    rintro _ _ ⟨b5, rfl, rfl⟩
    refine SL.val rfl rfl (fun w9 F9 S9 s => R.as rfl) ?_
    refine SL.step0 rfl (CS.stA (vs := r.cells) rfl rfl (by repeat (first | exact Sel.keep | exact Sel.here | apply Sel.there)) rfl (by rfl) (RecV.cells.one r)) ?_
    rintro _ _ rfl
    refine SL.nil ?_
    refine SN.seq ?_
    refine SG.seq ?_
    refine SG.region ?_
    refine SL.step rfl rfl (CS.call rfl go20 (SpecS.ofNew (fun w => onewI_ok w)) (by repeat (first | exact Sels.nil | apply Sels.cons | exact Sel.keep | exact Sel.here | apply Sel.there))) ?_
    rintro _ _ ⟨_, ⟨m6, rfl, rfl⟩, rfl⟩
    refine SL.n1 ?_
    refine SL.val rfl rfl (fun w9 F9 S9 s => R.as rfl) ?_
    refine SL.nil ?_
    refine SN.seq ?_
    refine SG.seq ?_
    refine SG.region ?_
    refine SL.val rfl rfl (fun w9 F9 S9 s => R.fld rfl) ?_
    refine SL.val rfl rfl (fun w9 F9 S9 s => R.ldB (v := .slice r.Writes'a r.Writes'n r.Writes'c) rfl (s.cel (by repeat (first | exact SelB.blk | exact SelB.fz | apply SelB.there))) (by rfl)) ?_
    refine SL.val rfl rfl (fun w9 F9 S9 s => R.lenS rfl) ?_
    refine SL.val rfl rfl (fun w9 F9 S9 s => R.mv rfl) ?_
    refine SL.nil ?_
    refine SN.imp (Imp.weak (p := fun w => RecsOk w a n its) (q := fun w => Tab w r.Writes'a r.Writes'n 2 (r.Writes'.map WriteV.cells)) (by repeat (first | exact Sel.keep | exact Sel.here | apply Sel.there)) (fun w h => (rec_at (recs_ok h hr)).1)) ?_
    refine SN.seq ?_
    refine SG.block ?_
    refine SG.loop (X := Nat) (fun j => [(0, .slice a n c), (3, .pointer (some ⟨m, 0, none⟩)), (4, .int .i64 (k : Int)), (5, .pointer (some ⟨b5, 0, none⟩)), (6, .pointer (some ⟨m6, 0, none⟩)), (15, .slice a n c), (16, .int .i64 (n : Int)), (17, .int .i64 (k : Int)), (24, .slice r.Writes'a r.Writes'n r.Writes'c), (25, .int .i64 (r.Writes'n : Int)), (26, .int .i64 (j : Int))]) (fun j => [mp (κ := Int) 109 117 3 m (psB (bzJ its k r j).1), mp (κ := Int) 112 114 1 m6 (psI (bzJ its k r j).2), blk b5 r.cells 27, sh (fun w => Tab w r.Writes'a r.Writes'n 2 (r.Writes'.map WriteV.cells)), sh (fun w => RecsOk w a n its)]) (fun j => j ≤ r.Writes'n) (fun j => r.Writes'n - j) (0) (Sub.cons rfl (Sub.cons rfl (Sub.cons rfl (Sub.cons rfl (Sub.cons rfl (Sub.cons rfl (Sub.cons rfl (Sub.cons rfl (Sub.cons rfl (Sub.cons rfl (Sub.cons rfl (Sub.nil _)))))))))))) ((Imp.sels (by repeat (first | exact Sels.nil | apply Sels.cons | exact Sel.keep | exact Sel.here | apply Sel.there)))) (Nat.zero_le _) ?_
    intro j hj
    show SG _ _ _ _ _ [(0, .slice a n c), (3, .pointer (some ⟨m, 0, none⟩)), (4, .int .i64 (k : Int)), (5, .pointer (some ⟨b5, 0, none⟩)), (6, .pointer (some ⟨m6, 0, none⟩)), (15, .slice a n c), (16, .int .i64 (n : Int)), (17, .int .i64 (k : Int)), (24, .slice r.Writes'a r.Writes'n r.Writes'c), (25, .int .i64 (r.Writes'n : Int)), (26, .int .i64 (j : Int))] [mp (κ := Int) 109 117 3 m (psB (bzJ its k r j).1), mp (κ := Int) 112 114 1 m6 (psI (bzJ its k r j).2), blk b5 r.cells 27, sh (fun w => Tab w r.Writes'a r.Writes'n 2 (r.Writes'.map WriteV.cells)), sh (fun w => RecsOk w a n its)] _
    refine SG.seq ?_
    refine SG.region ?_
    refine SL.val rfl rfl (fun w9 F9 S9 s => R.lss rfl rfl) ?_
    refine SL.nil ?_
    refine SN.seq ?_
    refine SG.seq ?_
    refine SG.condP rfl (fun h1 => ?_) (fun h1 => ?_)
    · obtain ⟨z, hz⟩ : ∃ z, r.Writes'[j]? = some z := ⟨_, List.getElem?_eq_getElem (by omega)⟩
      have hjl := bzJ_len (l := its) k r j
      refine SG.fact (fun w9 F9 S9 s => wrs_pt (s.sh (p := fun w => Tab w r.Writes'a r.Writes'n 2 (r.Writes'.map WriteV.cells)) (by repeat (first | exact Sel.keep | exact Sel.here | apply Sel.there))) hz) (fun hf9 => ?_)
      obtain ⟨q2, hq2⟩ := hf9
      refine SG.skip ?_
      refine SN.seq ?_
      refine SG.seq ?_
      refine SG.block ?_
      refine SG.seq ?_
      refine SG.region ?_
      refine SL.val rfl rfl (fun w9 F9 S9 s => R.idx rfl rfl (by omega) (by omega) q2 hq2) ?_
      refine SL.val rfl rfl (fun w9 F9 S9 s => R.ldN (vs := z.cells) rfl (wrs_ld (s.sh (p := fun w => Tab w r.Writes'a r.Writes'n 2 (r.Writes'.map WriteV.cells)) (by repeat (first | exact Sel.keep | exact Sel.here | apply Sel.there))) hq2 hz) rfl) ?_
      refine SL.step rfl rfl (CS.alloc [.int .i64 0, .slice none 0 0] rfl) ?_
      rintro _ _ ⟨b8, rfl, rfl⟩
      refine SL.step0 rfl (CS.stA (vs := z.cells) rfl rfl (by repeat (first | exact Sel.keep | exact Sel.here | apply Sel.there)) rfl (by rfl) (WriteV.cells.one z)) ?_
      rintro _ _ rfl
      refine SL.nil ?_
      refine SN.seq ?_
      refine SG.seq ?_
      refine SG.seq ?_
      refine SG.region ?_
      refine SL.val rfl rfl (fun w9 F9 S9 s => R.mv rfl) ?_
      refine SL.val rfl rfl (fun w9 F9 S9 s => R.fld rfl) ?_
      refine SL.val rfl rfl (fun w9 F9 S9 s => R.ldB (v := .int .i64 z.Block') rfl (s.cel (by repeat (first | exact SelB.blk | exact SelB.fz | apply SelB.there))) (by rfl)) ?_
      refine SL.val rfl rfl (fun w9 F9 S9 s => R.mv rfl) ?_
      refine SL.step rfl rfl (CS.call rfl go21 (putI m6 (bzJ its k r j).2 (bzJ its k r (j + 1)).2 z.Block' k (by omega) (bzJ_snd hz)) (by repeat (first | exact Sels.nil | apply Sels.cons | exact Sel.keep | exact Sel.here | apply Sel.there))) ?_
      rintro _ _ ⟨_, ⟨rfl, rfl⟩, rfl⟩
      refine SL.n1 ?_
      refine SL.val rfl rfl (fun w9 F9 S9 s => R.not rfl) ?_
      refine SL.nil ?_
      refine SN.seq ?_
      refine SG.condB rfl (fun h2 => ?_) (fun h2 => ?_)
      · have hh : hasT (bzJ its k r j).2 z.Block' = true := by simpa using h2
        rw [bzJ_old hz hh]
        refine SG.exit _ rfl ?_
        refine SN.seq ?_
        refine SG.region ?_
        refine SL.val rfl rfl (fun w9 F9 S9 s => R.add rfl rfl (by omega)) ?_
        refine SL.val rfl rfl (fun w9 F9 S9 s => R.mv rfl) ?_
        refine SL.nil ?_
        exact SN.again (j + 1) (by show r.Writes'n - (j + 1) < r.Writes'n - j; omega) (Sub.cons rfl (Sub.cons rfl (Sub.cons rfl (Sub.cons rfl (Sub.cons rfl (Sub.cons rfl (Sub.cons rfl (Sub.cons rfl (Sub.cons rfl (Sub.cons rfl (Sub.cons rfl (Sub.nil _)))))))))))) ((Imp.sels (by repeat (first | exact Sels.nil | apply Sels.cons | exact Sel.keep | exact Sel.here | apply Sel.there)))) (by show j + 1 ≤ r.Writes'n; omega)
      · have hh : hasT (bzJ its k r j).2 z.Block' = false := by simpa using h2
        refine SG.skip ?_
        refine SN.seq ?_
        refine SG.seq ?_
        refine SG.region ?_
        refine SL.val rfl rfl (fun w9 F9 S9 s => R.mv rfl) ?_
        refine SL.val rfl rfl (fun w9 F9 S9 s => R.fld rfl) ?_
        refine SL.val rfl rfl (fun w9 F9 S9 s => R.ldB (v := .int .i64 z.Block') rfl (s.cel (by repeat (first | exact SelB.blk | exact SelB.fz | apply SelB.there))) (by rfl)) ?_
        refine SL.step rfl rfl (CS.callR rfl go22 (fun w9 F9 S9 s => (s.mp (show Sel _ (mp (κ := Int) 109 117 3 m (psB (bzJ its k r j).1)) _ from (by repeat (first | exact Sel.keep | exact Sel.here | apply Sel.there)))).elim fun S9 h9 => getB m (bzJ its k r j).1 z.Block' S9 w9 h9 (by omega))) ?_
        rintro _ _ ⟨rfl, rfl⟩
        refine SL.val rfl rfl (fun w9 F9 S9 s => R.mv rfl) ?_
        refine SL.val rfl rfl (fun w9 F9 S9 s => R.ext rfl rfl) ?_
        refine SL.val rfl rfl (fun w9 F9 S9 s => R.ext rfl rfl) ?_
        refine SL.step rfl rfl (CS.alloc [.int .i64 0, .int .i64 0, .int .i64 0] rfl) ?_
        rintro _ _ ⟨b9, rfl, rfl⟩
        refine SL.step0 rfl (CS.stA (vs := bz3 (if hasT (bzJ its k r j).1 z.Block' then z.Block' else 0) ((getT (bzJ its k r j).1 z.Block').getD (0, 0))) rfl rfl (by repeat (first | exact Sel.keep | exact Sel.here | apply Sel.there)) rfl (by rfl) (bz3_one _ _)) ?_
        rintro _ _ rfl
        refine SL.val rfl rfl (fun w9 F9 S9 s => R.as rfl) ?_
        refine SL.nil ?_
        refine SN.seq ?_
        refine SG.region ?_
        refine SL.val rfl rfl (fun w9 F9 S9 s => R.mv rfl) ?_
        refine SL.val rfl rfl (fun w9 F9 S9 s => R.fld rfl) ?_
        refine SL.val rfl rfl (fun w9 F9 S9 s => R.ldB (v := .int .i64 z.Block') rfl (s.cel (by repeat (first | exact SelB.blk | exact SelB.fz | apply SelB.there))) (by rfl)) ?_
        refine SL.val rfl rfl (fun w9 F9 S9 s => R.fld rfl) ?_
        refine SL.val rfl rfl (fun w9 F9 S9 s => R.ldB (v := .int .i64 z.Block') rfl (s.cel (by repeat (first | exact SelB.blk | exact SelB.fz | apply SelB.there))) (by rfl)) ?_
        refine SL.val rfl rfl (fun w9 F9 S9 s => R.fld rfl) ?_
        refine SL.val rfl rfl (fun w9 F9 S9 s => R.ldB (v := .int .i64 ((getT (bzJ its k r j).1 z.Block').getD (0, 0)).1) rfl (s.cel (by repeat (first | exact SelB.blk | exact SelB.fz | apply SelB.there))) (by rfl)) ?_
        refine SL.val rfl rfl (fun w9 F9 S9 s => R.addW rfl rfl (wr (((getT (bzJ its k r j).1 z.Block').getD (0, 0)).1 + 1)) rfl) ?_
        refine SL.val rfl rfl (fun w9 F9 S9 s => R.fld rfl) ?_
        refine SL.val rfl rfl (fun w9 F9 S9 s => R.ldB (v := .int .i64 r.Number') rfl (s.cel (by repeat (first | exact SelB.blk | exact SelB.fz | apply SelB.there))) (by rfl)) ?_
        refine SL.val rfl rfl (fun w9 F9 S9 s => R.buildN (l := bz3 z.Block' (bump r.Number' (getT (bzJ its k r j).1 z.Block'))) rfl rfl) ?_
        refine SL.step rfl rfl (CS.call rfl go23 (putB m (bzJ its k r j).1 (bzJ its k r (j + 1)).1 z.Block' (bump r.Number' (getT (bzJ its k r j).1 z.Block')) (by omega) (bzJ_new hz hh)) (by repeat (first | exact Sels.nil | apply Sels.cons | exact Sel.keep | exact Sel.here | apply Sel.there))) ?_
        rintro _ _ ⟨_, ⟨rfl, rfl⟩, rfl⟩
        refine SL.n1 ?_
        refine SL.nil ?_
        refine SN.block ?_
        refine SN.seq ?_
        refine SG.region ?_
        refine SL.val rfl rfl (fun w9 F9 S9 s => R.add rfl rfl (by omega)) ?_
        refine SL.val rfl rfl (fun w9 F9 S9 s => R.mv rfl) ?_
        refine SL.nil ?_
        exact SN.again (j + 1) (by show r.Writes'n - (j + 1) < r.Writes'n - j; omega) (Sub.cons rfl (Sub.cons rfl (Sub.cons rfl (Sub.cons rfl (Sub.cons rfl (Sub.cons rfl (Sub.cons rfl (Sub.cons rfl (Sub.cons rfl (Sub.cons rfl (Sub.cons rfl (Sub.nil _)))))))))))) ((Imp.sels (by repeat (first | exact Sels.nil | apply Sels.cons | exact Sel.keep | exact Sel.here | apply Sel.there)))) (by show j + 1 ≤ r.Writes'n; omega)
    · obtain rfl : r.Writes'n = j := by omega
      rw [bzJ_all hr hwn.2]
      refine SG.exit _ rfl ?_
      refine SN.block ?_
      refine SN.seq ?_
      refine SG.region ?_
      refine SL.val rfl rfl (fun w9 F9 S9 s => R.add rfl rfl (by omega)) ?_
      refine SL.val rfl rfl (fun w9 F9 S9 s => R.mv rfl) ?_
      refine SL.nil ?_
      exact SN.again (k + 1) (by show n - (k + 1) < n - k; omega) (Sub.cons rfl (Sub.cons rfl (Sub.cons rfl (Sub.cons rfl (Sub.cons rfl (Sub.nil _)))))) ((Imp.sels (by repeat (first | exact Sels.nil | apply Sels.cons | exact Sel.keep | exact Sel.here | apply Sel.there)))) (by show k + 1 ≤ n; omega)
  · obtain rfl : n = k := by omega
    have hbl : (bzL its n).length ≤ wsL its := Nat.le_trans (bzL_len n) (wsK_le its n)
    rw [show bzL its n = bzT its by rw [hln]; rfl] at hbl ⊢
    refine SG.exit _ rfl ?_
    refine SN.seq ?_
    refine SG.seq ?_
    refine SG.region ?_
    refine SL.step rfl rfl (CS.alloc [.slice none 0 0] rfl) ?_
    rintro _ _ ⟨b11, rfl, rfl⟩
    refine SL.nil ?_
    refine SN.seq ?_
    refine SG.seq ?_
    refine SG.seq ?_
    refine SG.region ?_
    refine SL.val rfl rfl (fun w9 F9 S9 s => R.mv rfl) ?_
    refine SL.step rfl rfl (CS.call rfl go24 (oallApiBusyS m (psB (bzT its)) (by unfold psB; rw [mapK_len]; omega)) (by repeat (first | exact Sels.nil | apply Sels.cons | exact Sel.keep | exact Sel.here | apply Sel.there))) ?_
    rintro _ _ ⟨_, ⟨lb, rfl, rfl⟩, rfl⟩
    refine SL.n2 ?_
    refine SL.nil ?_
    refine SN.seq ?_
    refine SG.block ?_
    refine SG.range rfl rfl go81 (itApiBusy_run lb (psB (bzT its))) (X := Option Addr × Nat) (Y := Unit) (fun k y => [blk b11 [.slice y.1 k y.2] 38, own 45 3 y.1 (k) y.2 (bCells ((bzT its).take k)).flatten]) (fun k y => True) (fun c k _ => []) (fun c k _ => False) ((none, 0)) (((Imp.ownNil 45 3).trans (Imp.sels (by repeat (first | exact Sels.nil | apply Sels.cons | exact Sel.keep | exact Sel.here | apply Sel.there))))) (trivial) ?_ ?_ ?_
    · rintro l k ⟨a9, c9⟩ vs p hk _ ⟨⟨q, hq, rfl⟩, rfl⟩
      obtain ⟨e, he, rfl⟩ := psB_at hq
      have hel := (List.getElem?_eq_some_iff.1 he).1
      have hbl2 := hbl
      refine ⟨rfl, ?_⟩
      intro o8
      refine SG.region ?_
      refine SL.step rfl rfl (CS.alloc [.int .i64 0, .int .i64 0, .int .i64 0] rfl) ?_
      rintro _ _ ⟨b13, rfl, rfl⟩
      refine SL.step0 rfl (CS.stA (vs := bz3 e.1 e.2) rfl rfl (by repeat (first | exact Sel.keep | exact Sel.here | apply Sel.there)) rfl (by rfl) (bz3_one _ _)) ?_
      rintro _ _ rfl
      refine SL.nil ?_
      refine SN.roundA (fun o9 => ?_)
      refine SG.block ?_
      refine SG.region ?_
      refine SL.val rfl rfl (fun w9 F9 S9 s => R.ldB (v := .slice a9 k c9) rfl (s.cel (by repeat (first | exact SelB.blk | exact SelB.fz | apply SelB.there))) (by rfl)) ?_
      refine SL.val rfl rfl (fun w9 F9 S9 s => R.ldBN (cs := (bz3 e.1 e.2).toArray) rfl (s.cel (by repeat (first | exact SelB.blk | exact SelB.fz | apply SelB.there))) rfl) ?_
      refine SL.step rfl rfl (CS.buildA rfl rfl rfl rfl rfl (bz3 e.1 e.2) rfl) ?_
      rintro _ _ ⟨b28, rfl, rfl⟩
      refine SL.step rfl rfl (CS.app rfl rfl (show Sel _ (own 45 3 a9 (k) c9 (bCells ((bzT its).take k)).flatten) _ from (by repeat (first | exact Sel.keep | exact Sel.here | apply Sel.there))) (fun w9 F9 S9 s => s.blkC (show Sel _ (blk b28 (bz3 e.1 e.2) _) _ from (by repeat (first | exact Sel.keep | exact Sel.here | apply Sel.there)))) rfl (bz3_one _ _) (by simp [maxLen]; omega) (by omega)) ?_
      rintro _ _ ⟨a29, c29, rfl, rfl⟩
      refine SL.step0 rfl (CS.st rfl rfl (show Sel _ (blk b11 _ _) _ from (by repeat (first | exact Sel.keep | exact Sel.here | apply Sel.there))) (by repeat (first | exact SetAt.here | apply SetAt.there)) rfl) ?_
      rintro _ _ rfl
      refine SL.nil ?_
      refine SN.block ?_
      exact SN.next ((a29, c29)) ((show Imp _ _ by dsimp only; rw [← bCells_take he]; exact (Imp.sels (by repeat (first | exact Sels.nil | apply Sels.cons | exact Sel.keep | exact Sel.here | apply Sel.there))))) (trivial)
    · rintro d2 ⟨a9, c9⟩ _
      rw [show (psB (bzT its)).length = (bzT its).length by unfold psB; rw [mapK_len], List.take_length]
      refine SN.block ?_
      refine SN.seq ?_
      refine SG.seq ?_
      refine SG.region ?_
      refine SL.val rfl rfl (fun w9 F9 S9 s => R.ldB (v := .slice a9 (bzT its).length c9) rfl (s.cel (by repeat (first | exact SelB.blk | exact SelB.fz | apply SelB.there))) (by rfl)) ?_
      refine SL.val rfl rfl (fun w9 F9 S9 s => R.as rfl) ?_
      refine SL.nil ?_
      refine SN.seq ?_
      exact SG.ret1M rfl rfl (by repeat (first | exact Dfrs.nil | apply Dfrs.cons | exact Sel.here | apply Sel.there)) ((Imp.sels (by repeat (first | exact Sels.nil | apply Sels.cons | exact Sel.keep | exact Sel.here | apply Sel.there)))) (⟨a9, c9, rfl, rfl⟩)
    · rintro d k c _ hk ⟨⟩

end Go.Proofs.YtlhkpakbenghgaaGreat
/-
  The walks of package stats.
-/
set_option linter.unusedVariables false
set_option linter.unusedSimpArgs false
set_option maxRecDepth 4000
namespace Go.Proofs.YtlhkpakbenghgaaGreat
open Go Brv Brv.Stats
def byW (u : Int) (ws : List WriteV) : Int := ws.foldl (fun u z => wr (u + (z.B'n : Int))) u
def byR (u : Int) (l : List RecV) : Int := l.foldl (fun u r => byW u r.Writes') u
theorem byW_step {u : Int} {ws : List WriteV} {j : Nat} {z : WriteV} (h : ws[j]? = some z) : wr (byW u (ws.take j) + (z.B'n : Int)) = byW u (ws.take (j + 1)) := by
  unfold byW; rw [List.take_add_one, h, List.foldl_append]; rfl
theorem byR_step {u : Int} {l : List RecV} {k : Nat} {r : RecV} (h : l[k]? = some r) : byW (byR u (l.take k)) r.Writes' = byR u (l.take (k + 1)) := by
  unfold byR; rw [List.take_add_one, h, List.foldl_append]; rfl

theorem Bytes_ok (a : Option Addr) (n c : Nat) (its : List RecV) (hb : n * 48 ≤ 140737488355328) : SpecS Tryz.prog 12 [.slice a n c] [sh (fun w => RecsOk w a n its)] (fun v H' => v = .int .i64 (byR 0 its) ∧ H' = []) := by
  refine SpecS.enter Tryz.func12 rfl 29 rfl (Nat.le_of_ble_eq_true rfl) (fun o => ?_)
  refine SG.fact (fun w9 F9 S9 s => (s.sh (p := fun w => RecsOk w a n its) (by repeat (first | exact Sel.keep | exact Sel.here | apply Sel.there))).len) (fun hf9 => ?_)
  have hln := hf9; clear hf9
  refine SG.seq ?_
  refine SG.region ?_
  refine SL.val rfl rfl (fun w9 F9 S9 s => R.as rfl) ?_
  refine SL.nil ?_
  refine SN.seq ?_
  refine SG.seq ?_
  refine SG.region ?_
  refine SL.val rfl rfl (fun w9 F9 S9 s => R.as rfl) ?_
  refine SL.nil ?_
  refine SN.seq ?_
  refine SG.seq ?_
  refine SG.seq ?_
  refine SG.region ?_
  refine SL.val rfl rfl (fun w9 F9 S9 s => R.mv rfl) ?_
  refine SL.val rfl rfl (fun w9 F9 S9 s => R.lenS rfl) ?_
  refine SL.val rfl rfl (fun w9 F9 S9 s => R.mv rfl) ?_
  refine SL.nil ?_
  refine SN.seq ?_
  refine SG.block ?_
  refine SG.loop (X := Nat) (fun k => [(0, .slice a n c), (3, .int .i64 (byR 0 (its.take k))), (8, .slice a n c), (9, .int .i64 (n : Int)), (10, .int .i64 (k : Int))]) (fun k => [sh (fun w => RecsOk w a n its)]) (fun k => k ≤ n) (fun k => n - k) (0) (Sub.cons rfl (Sub.cons rfl (Sub.cons rfl (Sub.cons rfl (Sub.cons rfl (Sub.nil _)))))) ((Imp.sels (by repeat (first | exact Sels.nil | apply Sels.cons | exact Sel.keep | exact Sel.here | apply Sel.there)))) (Nat.zero_le _) ?_
  intro k hk
  show SG _ _ _ _ _ [(0, .slice a n c), (3, .int .i64 (byR 0 (its.take k))), (8, .slice a n c), (9, .int .i64 (n : Int)), (10, .int .i64 (k : Int))] [sh (fun w => RecsOk w a n its)] _
  refine SG.seq ?_
  refine SG.region ?_
  refine SL.val rfl rfl (fun w9 F9 S9 s => R.lss rfl rfl) ?_
  refine SL.nil ?_
  refine SN.seq ?_
  refine SG.seq ?_
  refine SG.condP rfl (fun h0 => ?_) (fun h0 => ?_)
  · obtain ⟨r, hr⟩ : ∃ r, its[k]? = some r := ⟨_, List.getElem?_eq_getElem (by omega)⟩
    refine SG.fact (fun w9 F9 S9 s => recs_pt (s.sh (p := fun w => RecsOk w a n its) (by repeat (first | exact Sel.keep | exact Sel.here | apply Sel.there))) hr) (fun hf9 => ?_)
    obtain ⟨q, hq⟩ := hf9
    refine SG.fact (fun w9 F9 S9 s => (rec_at (recs_ok (s.sh (p := fun w => RecsOk w a n its) (by repeat (first | exact Sel.keep | exact Sel.here | apply Sel.there))) hr)).2) (fun hf9 => ?_)
    have hwn := hf9; clear hf9
    refine SG.skip ?_
    refine SN.seq ?_
    refine SG.seq ?_
    refine SG.block ?_
    refine SG.seq ?_
    refine SG.region ?_
    refine SL.val rfl rfl (fun w9 F9 S9 s => R.idx rfl rfl (by omega) (by omega) q hq) ?_
    refine SL.val rfl rfl (fun w9 F9 S9 s => R.ldN (vs := r.cells) rfl (recs_ld (s.sh (p := fun w => RecsOk w a n its) (by repeat (first | exact Sel.keep | exact Sel.here | apply Sel.there))) hq hr) rfl) ?_
    refine SL.step rfl rfl (CS.alloc [.int .i64 0, .int .i64 0, .int .i64 0, .slice none 0 0] rfl) ?_
    rintro _ _ ⟨b5, rfl, rfl⟩
    refine SL.step0 rfl (CS.stA (vs := r.cells) rfl rfl (by repeat (first | exact Sel.keep | exact Sel.here | apply Sel.there)) rfl (by rfl) (RecV.cells.one r)) ?_
    rintro _ _ rfl
    refine SL.nil ?_
    refine SN.seq ?_
    refine SG.seq ?_
    refine SG.region ?_
    refine SL.val rfl rfl (fun w9 F9 S9 s => R.fld rfl) ?_
    refine SL.val rfl rfl (fun w9 F9 S9 s => R.ldB (v := .slice r.Writes'a r.Writes'n r.Writes'c) rfl (s.cel (by repeat (first | exact SelB.blk | exact SelB.fz | apply SelB.there))) (by rfl)) ?_
    refine SL.val rfl rfl (fun w9 F9 S9 s => R.lenS rfl) ?_
    refine SL.val rfl rfl (fun w9 F9 S9 s => R.mv rfl) ?_
    refine SL.nil ?_
    refine SN.imp (Imp.weak (p := fun w => RecsOk w a n its) (q := fun w => Tab w r.Writes'a r.Writes'n 2 (r.Writes'.map WriteV.cells)) (by repeat (first | exact Sel.keep | exact Sel.here | apply Sel.there)) (fun w h => (rec_at (recs_ok h hr)).1)) ?_
    refine SN.seq ?_
    refine SG.block ?_
    refine SG.loop (X := Nat) (fun j => [(0, .slice a n c), (3, .int .i64 (byW (byR 0 (its.take k)) (r.Writes'.take j))), (8, .slice a n c), (9, .int .i64 (n : Int)), (10, .int .i64 (k : Int)), (15, .slice r.Writes'a r.Writes'n r.Writes'c), (16, .int .i64 (r.Writes'n : Int)), (17, .int .i64 (j : Int))]) (fun j => [sh (fun w => Tab w r.Writes'a r.Writes'n 2 (r.Writes'.map WriteV.cells)), sh (fun w => RecsOk w a n its)]) (fun j => j ≤ r.Writes'n) (fun j => r.Writes'n - j) (0) (Sub.cons rfl (Sub.cons rfl (Sub.cons rfl (Sub.cons rfl (Sub.cons rfl (Sub.cons rfl (Sub.cons rfl (Sub.cons rfl (Sub.nil _))))))))) ((Imp.sels (by repeat (first | exact Sels.nil | apply Sels.cons | exact Sel.keep | exact Sel.here | apply Sel.there)))) (Nat.zero_le _) ?_
    intro j hj
    show SG _ _ _ _ _ [(0, .slice a n c), (3, .int .i64 (byW (byR 0 (its.take k)) (r.Writes'.take j))), (8, .slice a n c), (9, .int .i64 (n : Int)), (10, .int .i64 (k : Int)), (15, .slice r.Writes'a r.Writes'n r.Writes'c), (16, .int .i64 (r.Writes'n : Int)), (17, .int .i64 (j : Int))] [sh (fun w => Tab w r.Writes'a r.Writes'n 2 (r.Writes'.map WriteV.cells)), sh (fun w => RecsOk w a n its)] _
    refine SG.seq ?_
    refine SG.region ?_
    refine SL.val rfl rfl (fun w9 F9 S9 s => R.lss rfl rfl) ?_
    refine SL.nil ?_
    refine SN.seq ?_
    refine SG.seq ?_
    refine SG.condP rfl (fun h1 => ?_) (fun h1 => ?_)
    · obtain ⟨z, hz⟩ : ∃ z, r.Writes'[j]? = some z := ⟨_, List.getElem?_eq_getElem (by omega)⟩
      refine SG.fact (fun w9 F9 S9 s => wrs_pt (s.sh (p := fun w => Tab w r.Writes'a r.Writes'n 2 (r.Writes'.map WriteV.cells)) (by repeat (first | exact Sel.keep | exact Sel.here | apply Sel.there))) hz) (fun hf9 => ?_)
      obtain ⟨q2, hq2⟩ := hf9
      refine SG.skip ?_
      refine SN.seq ?_
      refine SG.seq ?_
      refine SG.block ?_
      refine SG.seq ?_
      refine SG.region ?_
      refine SL.val rfl rfl (fun w9 F9 S9 s => R.idx rfl rfl (by omega) (by omega) q2 hq2) ?_
      refine SL.val rfl rfl (fun w9 F9 S9 s => R.ldN (vs := z.cells) rfl (wrs_ld (s.sh (p := fun w => Tab w r.Writes'a r.Writes'n 2 (r.Writes'.map WriteV.cells)) (by repeat (first | exact Sel.keep | exact Sel.here | apply Sel.there))) hq2 hz) rfl) ?_
      refine SL.step rfl rfl (CS.alloc [.int .i64 0, .slice none 0 0] rfl) ?_
      rintro _ _ ⟨b7, rfl, rfl⟩
      refine SL.step0 rfl (CS.stA (vs := z.cells) rfl rfl (by repeat (first | exact Sel.keep | exact Sel.here | apply Sel.there)) rfl (by rfl) (WriteV.cells.one z)) ?_
      rintro _ _ rfl
      refine SL.nil ?_
      refine SN.seq ?_
      refine SG.region ?_
      refine SL.val rfl rfl (fun w9 F9 S9 s => R.mv rfl) ?_
      refine SL.val rfl rfl (fun w9 F9 S9 s => R.fld rfl) ?_
      refine SL.val rfl rfl (fun w9 F9 S9 s => R.ldB (v := .slice z.B'a z.B'n z.B'c) rfl (s.cel (by repeat (first | exact SelB.blk | exact SelB.fz | apply SelB.there))) (by rfl)) ?_
      refine SL.val rfl rfl (fun w9 F9 S9 s => R.lenS rfl) ?_
      refine SL.val rfl rfl (fun w9 F9 S9 s => R.addW rfl rfl (byW (byR 0 (its.take k)) (r.Writes'.take (j + 1))) (byW_step hz)) ?_
      refine SL.val rfl rfl (fun w9 F9 S9 s => R.as rfl) ?_
      refine SL.nil ?_
      refine SN.block ?_
      refine SN.seq ?_
      refine SG.region ?_
      refine SL.val rfl rfl (fun w9 F9 S9 s => R.add rfl rfl (by omega)) ?_
      refine SL.val rfl rfl (fun w9 F9 S9 s => R.mv rfl) ?_
      refine SL.nil ?_
      exact SN.again (j + 1) (by show r.Writes'n - (j + 1) < r.Writes'n - j; omega) (Sub.cons rfl (Sub.cons rfl (Sub.cons rfl (Sub.cons rfl (Sub.cons rfl (Sub.cons rfl (Sub.cons rfl (Sub.cons rfl (Sub.nil _))))))))) ((Imp.sels (by repeat (first | exact Sels.nil | apply Sels.cons | exact Sel.keep | exact Sel.here | apply Sel.there)))) (by show j + 1 ≤ r.Writes'n; omega)
    · obtain rfl : r.Writes'n = j := by omega
      rw [List.take_of_length_le (show r.Writes'.length ≤ r.Writes'n by omega), byR_step hr]
      refine SG.exit _ rfl ?_
      refine SN.block ?_
      refine SN.seq ?_
      refine SG.region ?_
      refine SL.val rfl rfl (fun w9 F9 S9 s => R.add rfl rfl (by omega)) ?_
      refine SL.val rfl rfl (fun w9 F9 S9 s => R.mv rfl) ?_
      refine SL.nil ?_
      exact SN.again (k + 1) (by show n - (k + 1) < n - k; omega) (Sub.cons rfl (Sub.cons rfl (Sub.cons rfl (Sub.cons rfl (Sub.cons rfl (Sub.nil _)))))) ((Imp.sels (by repeat (first | exact Sels.nil | apply Sels.cons | exact Sel.keep | exact Sel.here | apply Sel.there)))) (by show k + 1 ≤ n; omega)
  · obtain rfl : n = k := by omega
    rw [List.take_of_length_le (show its.length ≤ n by omega)]
    refine SG.exit _ rfl ?_
    refine SN.seq ?_
    refine SG.seq ?_
    refine SG.region ?_
    refine SL.val rfl rfl (fun w9 F9 S9 s => R.mv rfl) ?_
    refine SL.val rfl rfl (fun w9 F9 S9 s => R.as rfl) ?_
    refine SL.nil ?_
    refine SN.seq ?_
    exact SG.ret1 rfl rfl ((Imp.sels (by repeat (first | exact Sels.nil | apply Sels.cons | exact Sel.keep | exact Sel.here | apply Sel.there)))) (⟨rfl, rfl⟩)

end Go.Proofs.YtlhkpakbenghgaaGreat
/-
  The walks of package stats.
-/
set_option linter.unusedVariables false
set_option linter.unusedSimpArgs false
set_option maxRecDepth 4000
namespace Go.Proofs.YtlhkpakbenghgaaGreat
open Go Brv Brv.Stats
def allB (l : List RecV) (i : Nat) : List Int := ((l.take i).map blksR).flatten
theorem allB_step {l : List RecV} {i : Nat} {r : RecV} (h : l[i]? = some r) : allB l (i + 1) = allB l i ++ blksR r := by unfold allB; rw [List.take_add_one, h]; simp
theorem blksR_at {r : RecV} {j : Nat} {z : WriteV} (h : r.Writes'[j]? = some z) : (blksR r)[j]? = some z.Block' := by unfold blksR; rw [List.getElem?_map, h]; rfl
theorem blksR_len (r : RecV) : (blksR r).length = r.Writes'.length := by unfold blksR; rw [List.length_map]
theorem mn_app {lo o : Option Int} {pre ks : List Int} {j : Nat} {q : Int} (h : MnIs lo (pre ++ ks.take j) o) (hq : ks[j]? = some q) : MnIs lo (pre ++ ks.take (j + 1)) (mnS lo o q) := by
  rw [List.take_add_one, hq, Option.toList_some, ← List.append_assoc]; exact h.snoc q
def cbS (q : Int) (v : V2) (r : RecV) : V2 := if q ∈ blksR r then bump r.Number' (some v) else v
def cb (q : Int) (l : List RecV) : V2 := l.foldl (cbS q) (0, 0)
theorem cb_step {q : Int} {l : List RecV} {i : Nat} {r : RecV} (h : l[i]? = some r) : cb q (l.take (i + 1)) = cbS q (cb q (l.take i)) r := by unfold cb; rw [List.take_add_one, h, List.foldl_append]; rfl
theorem hasT_put2 {α : Type} {S : List (Int × α)} (hs : Srt S) (q : Int) (v : α) (j : Int) : hasT (putT S q v) j = (decide (j = q) || hasT S j) := by
  rw [hasT_isSome, getT_put hs, hasT_isSome]
  by_cases e : j = q
  · rw [if_pos e]; simp [e]
  · rw [if_neg e]; simp [e]
theorem bz_fold (i num : Int) (qs : List Int) : ∀ (st : BzS), Srt st.1 → Srt st.2 → Srt (qs.foldl (bzW i num) st).1 ∧ ∀ j, getT (qs.foldl (bzW i num) st).1 j = if j ∈ qs ∧ hasT st.2 j = false then some (bump num (getT st.1 j)) else getT st.1 j := by
  induction qs with
  | nil => intro st h1 h2; exact ⟨h1, fun j => by simp⟩
  | cons q qs ih =>
    intro st h1 h2
    rw [List.foldl_cons]
    cases hh : hasT st.2 q with
    | true =>
      have e : bzW i num st q = (st.1, putT st.2 q i) := by unfold bzW; rw [hh]; rfl
      rw [e]
      obtain ⟨g1, g2⟩ := ih (st.1, putT st.2 q i) h1 (srt_put h2 _ _)
      refine ⟨g1, fun j => ?_⟩
      rw [g2 j, hasT_put2 h2]
      by_cases ej : j = q
      · subst ej; rw [hh]; simp
      · simp [ej]
    | false =>
      have e : bzW i num st q = (putT st.1 q (bump num (getT st.1 q)), putT st.2 q i) := by unfold bzW; rw [hh]; rfl
      rw [e]
      obtain ⟨g1, g2⟩ := ih (putT st.1 q (bump num (getT st.1 q)), putT st.2 q i) (srt_put h1 _ _) (srt_put h2 _ _)
      refine ⟨g1, fun j => ?_⟩
      rw [g2 j, hasT_put2 h2, getT_put h1]
      by_cases ej : j = q
      · subst ej; rw [hh]; simp
      · simp [ej]
theorem bzL_get (l : List RecV) : ∀ k, Srt (bzL l k) ∧ (∀ q, (getT (bzL l k) q).getD (0, 0) = cb q (l.take k)) ∧ ∀ q, (getT (bzL l k) q).isSome = true ↔ q ∈ allB l k := by
  intro k
  induction k with
  | zero => exact ⟨List.Pairwise.nil, fun q => rfl, fun q => by simp [allB, bzL, getT, hasT]⟩
  | succ k ih =>
    obtain ⟨h1, h2, h3⟩ := ih
    cases hr : l[k]? with
    | none =>
      have e : l.take (k + 1) = l.take k := by rw [List.take_add_one, hr]; simp
      have e2 : bzL l (k + 1) = bzL l k := by rw [bzL, hr]
      rw [e2, e]
      exact ⟨h1, h2, fun q => by rw [h3 q]; unfold allB; rw [e]⟩
    | some r =>
      have e2 : bzL l (k + 1) = bzR (bzL l k) k r.Number' (blksR r) := by rw [bzL, hr]
      obtain ⟨g1, g2⟩ := bz_fold (k : Int) r.Number' (blksR r) (bzL l k, []) h1 List.Pairwise.nil
      have hno : ∀ j, hasT ([] : List (Int × Int)) j = false := fun j => rfl
      have g3 : ∀ j, getT (bzL l (k + 1)) j = if j ∈ blksR r then some (bump r.Number' (getT (bzL l k) j)) else getT (bzL l k) j := fun j => by
        rw [e2]; unfold bzR; rw [g2 j]; simp [hno]
      refine ⟨by rw [e2]; exact g1, fun q => ?_, fun q => ?_⟩
      · rw [g3, cb_step hr, ← h2 q]
        unfold cbS
        by_cases hq : q ∈ blksR r
        · rw [if_pos hq, if_pos hq]; rfl
        · rw [if_neg hq, if_neg hq]
      · rw [g3, allB_step hr, List.mem_append]
        by_cases hq : q ∈ blksR r
        · rw [if_pos hq]; simp [hq]
        · rw [if_neg hq, h3 q]; simp [hq]
theorem bzT_srt (l : List RecV) : Srt (bzT l) := (bzL_get l _).1
theorem bzT_keys (l : List RecV) : ∀ q, q ∈ allB l l.length ↔ ∃ p ∈ bzT l, p.1 = q := fun q => by
  rw [← (bzL_get l l.length).2.2 q]
  constructor
  · intro h
    obtain ⟨v, hv⟩ := Option.isSome_iff_exists.1 h
    exact ⟨(q, v), getT_some hv, rfl⟩
  · rintro ⟨p, hp, rfl⟩
    have := (getT_iff (bzL_get l l.length).1 (k := p.1) (v := p.2)).2 hp
    rw [this]; rfl
theorem bzT_cb {l : List RecV} {k : Nat} {p : Int × V2} (h : (bzT l)[k]? = some p) : cb p.1 l = p.2 := by
  have h1 := getT_at (bzT_srt l) h
  have h2 := (bzL_get l l.length).2.1 p.1
  rw [List.take_length] at h2
  rw [← h2]
  show (getT (bzT l) p.1).getD (0, 0) = _
  rw [h1]; rfl
theorem bzT_len (l : List RecV) : (bzT l).length ≤ wsL l := Nat.le_trans (bzL_len _) (wsK_le l _)

theorem rwr_ok (r : RecV) (q0 : Int) : SpecS Tryz.prog 25 [.agg r.cells.toArray, .int .i64 q0] [sh (fun w => RecX w r)] (fun v H' => v = .bool (decide (q0 ∈ blksR r)) ∧ H' = []) := by
  refine SpecS.enter Tryz.func25 rfl 19 rfl (Nat.le_of_ble_eq_true rfl) (fun o => ?_)
  refine SG.fact (fun w9 F9 S9 s => (rec_at (s.sh (p := fun w => RecX w r) (by repeat (first | exact Sel.keep | exact Sel.here | apply Sel.there)))).2) (fun hf9 => ?_)
  have hwn := hf9; clear hf9
  refine SG.seq ?_
  refine SG.region ?_
  refine SL.step rfl rfl (CS.boxA rfl) ?_
  rintro _ _ ⟨b2, rfl, rfl⟩
  refine SL.val rfl rfl (fun w9 F9 S9 s => R.as rfl) ?_
  refine SL.nil ?_
  refine SN.seq ?_
  refine SG.seq ?_
  refine SG.seq ?_
  refine SG.region ?_
  refine SL.val rfl rfl (fun w9 F9 S9 s => R.fld rfl) ?_
  refine SL.val rfl rfl (fun w9 F9 S9 s => R.ldB (v := .slice r.Writes'a r.Writes'n r.Writes'c) rfl (s.cel (by repeat (first | exact SelB.blk | exact SelB.fz | apply SelB.there))) (by rfl)) ?_
  refine SL.val rfl rfl (fun w9 F9 S9 s => R.lenS rfl) ?_
  refine SL.val rfl rfl (fun w9 F9 S9 s => R.mv rfl) ?_
  refine SL.nil ?_
  refine SN.seq ?_
  refine SG.block ?_
  refine SG.loop (X := Nat) (fun j => [(1, .int .i64 q0), (8, .slice r.Writes'a r.Writes'n r.Writes'c), (9, .int .i64 ((r.Writes'n : Nat) : Int)), (10, .int .i64 ((j : Nat) : Int))]) (fun j => [sh (fun w => RecX w r)]) (fun j => j ≤ r.Writes'n ∧ q0 ∉ (blksR r).take j) (fun j => r.Writes'n - j) (0) (Sub.cons rfl (Sub.cons rfl (Sub.cons rfl (Sub.cons rfl (Sub.nil _))))) ((Imp.sels (by repeat (first | exact Sels.nil | apply Sels.cons | exact Sel.keep | exact Sel.here | apply Sel.there)))) (⟨Nat.zero_le _, by simp⟩) ?_
  rintro j ⟨hj, hno⟩
  show SG _ _ _ _ _ [(1, .int .i64 q0), (8, .slice r.Writes'a r.Writes'n r.Writes'c), (9, .int .i64 ((r.Writes'n : Nat) : Int)), (10, .int .i64 ((j : Nat) : Int))] [sh (fun w => RecX w r)] _
  refine SG.seq ?_
  refine SG.region ?_
  refine SL.val rfl rfl (fun w9 F9 S9 s => R.lss rfl rfl) ?_
  refine SL.nil ?_
  refine SN.seq ?_
  refine SG.seq ?_
  refine SG.condP rfl (fun h0 => ?_) (fun h0 => ?_)
  · obtain ⟨z, hz⟩ : ∃ z, r.Writes'[j]? = some z := ⟨_, List.getElem?_eq_getElem (by omega)⟩
    refine SG.fact (fun w9 F9 S9 s => wrs_pt ((s.sh (p := fun w => RecX w r) (by repeat (first | exact Sel.keep | exact Sel.here | apply Sel.there)))).1 hz) (fun hf9 => ?_)
    obtain ⟨q2, hq2⟩ := hf9
    refine SG.skip ?_
    refine SN.seq ?_
    refine SG.seq ?_
    refine SG.block ?_
    refine SG.seq ?_
    refine SG.region ?_
    refine SL.val rfl rfl (fun w9 F9 S9 s => R.idx rfl rfl (by omega) (by omega) q2 hq2) ?_
    refine SL.val rfl rfl (fun w9 F9 S9 s => R.ldN (vs := z.cells) rfl (wrs_ld ((s.sh (p := fun w => RecX w r) (by repeat (first | exact Sel.keep | exact Sel.here | apply Sel.there)))).1 hq2 hz) rfl) ?_
    refine SL.step rfl rfl (CS.alloc [.int .i64 0, .slice none 0 0] rfl) ?_
    rintro _ _ ⟨b6, rfl, rfl⟩
    refine SL.step0 rfl (CS.stA (vs := z.cells) rfl rfl (by repeat (first | exact Sel.keep | exact Sel.here | apply Sel.there)) rfl (by rfl) (WriteV.cells.one z)) ?_
    rintro _ _ rfl
    refine SL.nil ?_
    refine SN.seq ?_
    refine SG.seq ?_
    refine SG.region ?_
    refine SL.val rfl rfl (fun w9 F9 S9 s => R.fld rfl) ?_
    refine SL.val rfl rfl (fun w9 F9 S9 s => R.ldB (v := .int .i64 z.Block') rfl (s.cel (by repeat (first | exact SelB.blk | exact SelB.fz | apply SelB.there))) (by rfl)) ?_
    refine SL.val rfl rfl (fun w9 F9 S9 s => R.mv rfl) ?_
    refine SL.val rfl rfl (fun w9 F9 S9 s => R.eqI rfl rfl) ?_
    refine SL.nil ?_
    refine SN.seq ?_
    refine SG.condP rfl (fun h1 => ?_) (fun h1 => ?_)
    · refine SG.seq ?_
      refine SG.region ?_
      refine SL.val rfl rfl (fun w9 F9 S9 s => R.as rfl) ?_
      refine SL.nil ?_
      refine SN.seq ?_
      exact SG.ret1 rfl rfl ((Imp.sels (by repeat (first | exact Sels.nil | apply Sels.cons | exact Sel.keep | exact Sel.here | apply Sel.there)))) (⟨congrArg Value.bool (decide_eq_true (by rw [← h1]; exact List.mem_of_getElem? (blksR_at hz))).symm, rfl⟩)
    · refine SG.skip ?_
      refine SN.block ?_
      refine SN.seq ?_
      refine SG.region ?_
      refine SL.val rfl rfl (fun w9 F9 S9 s => R.add rfl rfl (by omega)) ?_
      refine SL.val rfl rfl (fun w9 F9 S9 s => R.mv rfl) ?_
      refine SL.nil ?_
      exact SN.again (j + 1) (by show r.Writes'n - (j + 1) < r.Writes'n - j; omega) (Sub.cons rfl (Sub.cons rfl (Sub.cons rfl (Sub.cons rfl (Sub.nil _))))) ((Imp.sels (by repeat (first | exact Sels.nil | apply Sels.cons | exact Sel.keep | exact Sel.here | apply Sel.there)))) (⟨by show j + 1 ≤ r.Writes'n; omega, by rw [List.take_add_one, blksR_at hz]; intro h9; rcases List.mem_append.1 h9 with h9 | h9; exact hno h9; exact h1 (by simpa using (List.mem_singleton.1 h9).symm)⟩)
  · refine SG.exit _ rfl ?_
    refine SN.seq ?_
    refine SG.seq ?_
    refine SG.region ?_
    refine SL.val rfl rfl (fun w9 F9 S9 s => R.as rfl) ?_
    refine SL.nil ?_
    refine SN.seq ?_
    exact SG.ret1 rfl rfl ((Imp.sels (by repeat (first | exact Sels.nil | apply Sels.cons | exact Sel.keep | exact Sel.here | apply Sel.there)))) (⟨congrArg Value.bool (decide_eq_false (by rwa [List.take_of_length_le (by rw [blksR_len]; omega)] at hno)).symm, rfl⟩)

set_option maxHeartbeats 1000000 in
theorem rBlocks_ok (a : Option Addr) (n c : Nat) (its : List RecV) (hb : n * 48 ≤ 140737488355328) (hws : wsL its ≤ 900000) : SpecS Tryz.prog 8 [.slice a n c] [sh (fun w => RecsOk w a n its)] (fun v H' => ∃ a' c', v = .slice a' (bzT its).length c' ∧ H' = [own 45 3 a' ((bzT its).length) c' (bCells (bzT its)).flatten]) := by
  refine SpecS.enter Tryz.func8 rfl 81 rfl (Nat.le_of_ble_eq_true rfl) (fun o => ?_)
  refine SG.fact (fun w9 F9 S9 s => (s.sh (p := fun w => RecsOk w a n its) (by repeat (first | exact Sel.keep | exact Sel.here | apply Sel.there))).len) (fun hf9 => ?_)
  have hln := hf9; clear hf9
  have hul := bzT_len its
  refine SG.seq ?_
  refine SG.region ?_
  refine SL.val rfl rfl (fun w9 F9 S9 s => R.as rfl) ?_
  refine SL.nil ?_
  refine SN.seq ?_
  refine SG.seq ?_
  refine SG.region ?_
  refine SL.val rfl rfl (fun w9 F9 S9 s => R.as rfl) ?_
  refine SL.nil ?_
  refine SN.seq ?_
  refine SG.block ?_
  refine SG.loop (X := Nat × Option Addr × Nat) (fun y => [(0, .slice a n c), (3, .slice y.2.1 y.1 y.2.2)]) (fun y => [own 45 3 y.2.1 (y.1) y.2.2 (bCells (List.take y.1 (bzT its))).flatten, sh (fun w => RecsOk w a n its)]) (fun y => y.1 ≤ (bzT its).length) (fun y => (bzT its).length - y.1) ((0, none, 0)) (Sub.cons rfl (Sub.cons rfl (Sub.nil _))) (((Imp.ownNil 45 3).trans (Imp.sels (by repeat (first | exact Sels.nil | apply Sels.cons | exact Sel.keep | exact Sel.here | apply Sel.there))))) (Nat.zero_le _) ?_
  rintro ⟨k, a9, c9⟩ hk
  dsimp only at hk
  show SG _ _ _ _ _ [(0, .slice a n c), (3, .slice a9 k c9)] [own 45 3 a9 (k) c9 (bCells (List.take k (bzT its))).flatten, sh (fun w => RecsOk w a n its)] _
  refine SG.block ?_
  refine SG.seq ?_
  refine SG.region ?_
  refine SL.val rfl rfl (fun w9 F9 S9 s => R.as rfl) ?_
  refine SL.nil ?_
  refine SN.seq ?_
  refine SG.seq ?_
  refine SG.region ?_
  refine SL.val rfl rfl (fun w9 F9 S9 s => R.as rfl) ?_
  refine SL.nil ?_
  refine SN.seq ?_
  refine SG.seq ?_
  refine SG.seq ?_
  refine SG.region ?_
  refine SL.val rfl rfl (fun w9 F9 S9 s => R.mv rfl) ?_
  refine SL.val rfl rfl (fun w9 F9 S9 s => R.lenS rfl) ?_
  refine SL.val rfl rfl (fun w9 F9 S9 s => R.mv rfl) ?_
  refine SL.nil ?_
  refine SN.seq ?_
  refine SG.block ?_
  refine SG.loop (X := Nat × Option Int) (fun y => [(0, .slice a n c), (3, .slice a9 k c9), (4, .int .i64 ((y.2).getD 0)), (5, .bool (y.2).isSome), (13, .slice a n c), (14, .int .i64 ((n : Nat) : Int)), (15, .int .i64 ((y.1 : Nat) : Int))]) (fun y => [own 45 3 a9 (k) c9 (bCells (List.take k (bzT its))).flatten, sh (fun w => RecsOk w a n its)]) (fun y => y.1 ≤ n ∧ MnIs (loK (bzT its) k) (allB its y.1) y.2) (fun y => n - y.1) ((0, none)) (Sub.cons rfl (Sub.cons rfl (Sub.cons rfl (Sub.cons rfl (Sub.cons rfl (Sub.cons rfl (Sub.cons rfl (Sub.nil _)))))))) ((Imp.sels (by repeat (first | exact Sels.nil | apply Sels.cons | exact Sel.keep | exact Sel.here | apply Sel.there)))) (⟨Nat.zero_le _, MnIs.nil _⟩) ?_
  rintro ⟨i, o1⟩ ⟨hi, hm1⟩
  dsimp only at hi hm1
  show SG _ _ _ _ _ [(0, .slice a n c), (3, .slice a9 k c9), (4, .int .i64 ((o1).getD 0)), (5, .bool (o1).isSome), (13, .slice a n c), (14, .int .i64 ((n : Nat) : Int)), (15, .int .i64 ((i : Nat) : Int))] [own 45 3 a9 (k) c9 (bCells (List.take k (bzT its))).flatten, sh (fun w => RecsOk w a n its)] _
  refine SG.seq ?_
  refine SG.region ?_
  refine SL.val rfl rfl (fun w9 F9 S9 s => R.lss rfl rfl) ?_
  refine SL.nil ?_
  refine SN.seq ?_
  refine SG.seq ?_
  refine SG.condP rfl (fun h0 => ?_) (fun h0 => ?_)
  · obtain ⟨r, hr⟩ : ∃ r, its[i]? = some r := ⟨_, List.getElem?_eq_getElem (by omega)⟩
    refine SG.fact (fun w9 F9 S9 s => recs_pt (s.sh (p := fun w => RecsOk w a n its) (by repeat (first | exact Sel.keep | exact Sel.here | apply Sel.there))) hr) (fun hf9 => ?_)
    obtain ⟨q, hq⟩ := hf9
    refine SG.fact (fun w9 F9 S9 s => (rec_at (recs_ok (s.sh (p := fun w => RecsOk w a n its) (by repeat (first | exact Sel.keep | exact Sel.here | apply Sel.there))) hr)).2) (fun hf9 => ?_)
    have hwn := hf9; clear hf9
    refine SG.skip ?_
    refine SN.seq ?_
    refine SG.seq ?_
    refine SG.block ?_
    refine SG.seq ?_
    refine SG.region ?_
    refine SL.val rfl rfl (fun w9 F9 S9 s => R.idx rfl rfl (by omega) (by omega) q hq) ?_
    refine SL.val rfl rfl (fun w9 F9 S9 s => R.ldN (vs := r.cells) rfl (recs_ld (s.sh (p := fun w => RecsOk w a n its) (by repeat (first | exact Sel.keep | exact Sel.here | apply Sel.there))) hq hr) rfl) ?_
    refine SL.step rfl rfl (CS.alloc [.int .i64 0, .int .i64 0, .int .i64 0, .slice none 0 0] rfl) ?_
    rintro _ _ ⟨b7, rfl, rfl⟩
    refine SL.step0 rfl (CS.stA (vs := r.cells) rfl rfl (by repeat (first | exact Sel.keep | exact Sel.here | apply Sel.there)) rfl (by rfl) (RecV.cells.one r)) ?_
    rintro _ _ rfl
    refine SL.nil ?_
    refine SN.seq ?_
    refine SG.seq ?_
    refine SG.region ?_
    refine SL.val rfl rfl (fun w9 F9 S9 s => R.fld rfl) ?_
    refine SL.val rfl rfl (fun w9 F9 S9 s => R.ldB (v := .slice r.Writes'a r.Writes'n r.Writes'c) rfl (s.cel (by repeat (first | exact SelB.blk | exact SelB.fz | apply SelB.there))) (by rfl)) ?_
    refine SL.val rfl rfl (fun w9 F9 S9 s => R.lenS rfl) ?_
    refine SL.val rfl rfl (fun w9 F9 S9 s => R.mv rfl) ?_
    refine SL.nil ?_
    refine SN.imp (Imp.weak (p := fun w => RecsOk w a n its) (q := fun w => Tab w r.Writes'a r.Writes'n 2 (r.Writes'.map WriteV.cells)) (by repeat (first | exact Sel.keep | exact Sel.here | apply Sel.there)) (fun w h => (rec_at (recs_ok h hr)).1)) ?_
    refine SN.seq ?_
    refine SG.block ?_
    refine SG.loop (X := Nat × Option Int) (fun y => [(0, .slice a n c), (3, .slice a9 k c9), (4, .int .i64 ((y.2).getD 0)), (5, .bool (y.2).isSome), (13, .slice a n c), (14, .int .i64 ((n : Nat) : Int)), (15, .int .i64 ((i : Nat) : Int)), (20, .slice r.Writes'a r.Writes'n r.Writes'c), (21, .int .i64 ((r.Writes'n : Nat) : Int)), (22, .int .i64 ((y.1 : Nat) : Int))]) (fun y => [own 45 3 a9 (k) c9 (bCells (List.take k (bzT its))).flatten, sh (fun w => Tab w r.Writes'a r.Writes'n 2 (r.Writes'.map WriteV.cells)), sh (fun w => RecsOk w a n its)]) (fun y => y.1 ≤ r.Writes'n ∧ MnIs (loK (bzT its) k) (allB its i ++ (blksR r).take y.1) y.2) (fun y => r.Writes'n - y.1) ((0, o1)) (Sub.cons rfl (Sub.cons rfl (Sub.cons rfl (Sub.cons rfl (Sub.cons rfl (Sub.cons rfl (Sub.cons rfl (Sub.cons rfl (Sub.cons rfl (Sub.cons rfl (Sub.nil _))))))))))) ((Imp.sels (by repeat (first | exact Sels.nil | apply Sels.cons | exact Sel.keep | exact Sel.here | apply Sel.there)))) (⟨Nat.zero_le _, by show MnIs _ (allB its i ++ []) o1; rw [List.append_nil]; exact hm1⟩) ?_
    rintro ⟨j, o⟩ ⟨hj, hm⟩
    dsimp only at hj hm
    show SG _ _ _ _ _ [(0, .slice a n c), (3, .slice a9 k c9), (4, .int .i64 ((o).getD 0)), (5, .bool (o).isSome), (13, .slice a n c), (14, .int .i64 ((n : Nat) : Int)), (15, .int .i64 ((i : Nat) : Int)), (20, .slice r.Writes'a r.Writes'n r.Writes'c), (21, .int .i64 ((r.Writes'n : Nat) : Int)), (22, .int .i64 ((j : Nat) : Int))] [own 45 3 a9 (k) c9 (bCells (List.take k (bzT its))).flatten, sh (fun w => Tab w r.Writes'a r.Writes'n 2 (r.Writes'.map WriteV.cells)), sh (fun w => RecsOk w a n its)] _
    refine SG.seq ?_
    refine SG.region ?_
    refine SL.val rfl rfl (fun w9 F9 S9 s => R.lss rfl rfl) ?_
    refine SL.nil ?_
    refine SN.seq ?_
    refine SG.seq ?_
    refine SG.condP rfl (fun h1 => ?_) (fun h1 => ?_)
    · obtain ⟨z, hz⟩ : ∃ z, r.Writes'[j]? = some z := ⟨_, List.getElem?_eq_getElem (by omega)⟩
      refine SG.fact (fun w9 F9 S9 s => wrs_pt (s.sh (p := fun w => Tab w r.Writes'a r.Writes'n 2 (r.Writes'.map WriteV.cells)) (by repeat (first | exact Sel.keep | exact Sel.here | apply Sel.there))) hz) (fun hf9 => ?_)
      obtain ⟨q2, hq2⟩ := hf9
      refine SG.skip ?_
      refine SN.seq ?_
      refine SG.seq ?_
      refine SG.block ?_
      refine SG.seq ?_
      refine SG.region ?_
      refine SL.val rfl rfl (fun w9 F9 S9 s => R.idx rfl rfl (by omega) (by omega) q2 hq2) ?_
      refine SL.val rfl rfl (fun w9 F9 S9 s => R.ldN (vs := z.cells) rfl (wrs_ld (s.sh (p := fun w => Tab w r.Writes'a r.Writes'n 2 (r.Writes'.map WriteV.cells)) (by repeat (first | exact Sel.keep | exact Sel.here | apply Sel.there))) hq2 hz) rfl) ?_
      refine SL.step rfl rfl (CS.alloc [.int .i64 0, .slice none 0 0] rfl) ?_
      rintro _ _ ⟨b9, rfl, rfl⟩
      refine SL.step0 rfl (CS.stA (vs := z.cells) rfl rfl (by repeat (first | exact Sel.keep | exact Sel.here | apply Sel.there)) rfl (by rfl) (WriteV.cells.one z)) ?_
      rintro _ _ rfl
      refine SL.nil ?_
      refine SN.fact (fun w9 F9 S9 s => fun (h0 : 0 < k) => s.ownG (show Sel _ (own 45 3 a9 (k) c9 (bCells (List.take k (bzT its))).flatten) _ from (by repeat (first | exact Sel.keep | exact Sel.here | apply Sel.there))) h0) (fun hf9 => ?_)
      have hga := hf9; clear hf9
      refine SN.seq ?_
      refine SG.seq ?_
      refine SG.cut (X := Bool) (fun w => [(0, .slice a n c), (3, .slice a9 k c9), (4, .int .i64 ((o).getD 0)), (5, .bool (o).isSome), (13, .slice a n c), (14, .int .i64 ((n : Nat) : Int)), (15, .int .i64 ((i : Nat) : Int)), (20, .slice r.Writes'a r.Writes'n r.Writes'c), (21, .int .i64 ((r.Writes'n : Nat) : Int)), (22, .int .i64 ((j : Nat) : Int)), (9, .pointer (some ⟨b9, 0, none⟩)), (50, .bool w)]) (fun w => [own 45 3 a9 (k) c9 (bCells (List.take k (bzT its))).flatten, blk b9 z.cells 30, sh (fun w => Tab w r.Writes'a r.Writes'n 2 (r.Writes'.map WriteV.cells)), sh (fun w => RecsOk w a n its)]) (fun w => w = (gtO (loK (bzT its) k) z.Block' && ltO o z.Block')) ?_ ?_
      · refine SG.draw [] [0, 1, 2, 3, 4, 5, 6, 7, 8, 9, 10, 11, 12, 13, 14, 15, 16, 17, 18, 19, 20, 21, 22, 23, 24] (by decide +kernel) rfl ?_
        refine SW.pure rfl rfl rfl rfl (fun w9 => R.mv rfl) ?_
        refine SW.pure rfl rfl rfl rfl (fun w9 => R.lenS rfl) ?_
        refine SW.pure rfl rfl rfl rfl (fun w9 => R.eqI rfl rfl) ?_
        refine SW.pure rfl rfl rfl rfl (fun w9 => R.mv rfl) ?_
        refine SW.caseP 29 rfl (fun hg10_3 => ?_) (fun hg10_3 => ?_)
        · refine SW.pass (hd := rfl) rfl rfl rfl ?_
          refine SW.pass (hd := rfl) rfl rfl rfl ?_
          refine SW.pass (hd := rfl) rfl rfl rfl ?_
          refine SW.pass (hd := rfl) rfl rfl rfl ?_
          refine SW.pass (hd := rfl) rfl rfl rfl ?_
          refine SW.pass (hd := rfl) rfl rfl rfl ?_
          refine SW.pass (hd := rfl) rfl rfl rfl ?_
          refine SW.pass (hd := rfl) rfl rfl rfl ?_
          refine SW.pass (hd := rfl) rfl rfl rfl ?_
          refine SW.pass (hd := rfl) rfl rfl rfl ?_
          first | refine SW.pure rfl rfl rfl rfl (fun w9 => R.pickT rfl rfl) ?_ | refine SW.pure rfl rfl rfl rfl (fun w9 => R.pickF rfl rfl) ?_
          refine SW.pure rfl rfl rfl rfl (fun w9 => R.mv rfl) ?_
          refine SW.pure rfl rfl rfl rfl (fun w9 => R.mv rfl) ?_
          refine SW.pure rfl rfl rfl rfl (fun w9 => R.not rfl) ?_
          refine SW.pure rfl rfl rfl rfl (fun w9 => R.mv rfl) ?_
          refine SW.caseB 44 rfl (fun hg10_18 => ?_) (fun hg10_18 => ?_)
          · refine SW.pass (hd := rfl) rfl rfl rfl ?_
            refine SW.pass (hd := rfl) rfl rfl rfl ?_
            refine SW.pass (hd := rfl) rfl rfl rfl ?_
            refine SW.pass (hd := rfl) rfl rfl rfl ?_
            first | refine SW.pure rfl rfl rfl rfl (fun w9 => R.pickT rfl rfl) ?_ | refine SW.pure rfl rfl rfl rfl (fun w9 => R.pickF rfl rfl) ?_
            first | refine SW.pure rfl rfl rfl rfl (fun w9 => R.pickT rfl rfl) ?_ | refine SW.pure rfl rfl rfl rfl (fun w9 => R.pickF rfl rfl) ?_
            refine SW.nil ?_
            exact SN.handX (true) (Sub.cons rfl (Sub.cons rfl (Sub.cons rfl (Sub.cons rfl (Sub.cons rfl (Sub.cons rfl (Sub.cons rfl (Sub.cons rfl (Sub.cons rfl (Sub.cons rfl (Sub.cons rfl (Sub.cons rfl (Sub.nil _))))))))))))) ((Imp.sels (by repeat (first | exact Sels.nil | apply Sels.cons | exact Sel.keep | exact Sel.here | apply Sel.there)))) (by rw [gtO_0 (by omega), ltO_n (by simpa using hg10_18)]; rfl)
          · refine SW.pure rfl rfl rfl rfl (fun w9 => R.fld rfl) ?_
            refine SW.read rfl rfl rfl rfl (fun w9 F9 S9 s => R.ldB (v := .int .i64 z.Block') rfl (s.cel (by repeat (first | exact SelB.blk | exact SelB.fz | apply SelB.there))) (by rfl)) ?_
            refine SW.pure rfl rfl rfl rfl (fun w9 => R.mv rfl) ?_
            refine SW.pure rfl rfl rfl rfl (fun w9 => R.lss rfl rfl) ?_
            first | refine SW.pure rfl rfl rfl rfl (fun w9 => R.pickT rfl rfl) ?_ | refine SW.pure rfl rfl rfl rfl (fun w9 => R.pickF rfl rfl) ?_
            first | refine SW.pure rfl rfl rfl rfl (fun w9 => R.pickT rfl rfl) ?_ | refine SW.pure rfl rfl rfl rfl (fun w9 => R.pickF rfl rfl) ?_
            refine SW.nil ?_
            exact SN.handX (decide (z.Block' < o.getD 0)) (Sub.cons rfl (Sub.cons rfl (Sub.cons rfl (Sub.cons rfl (Sub.cons rfl (Sub.cons rfl (Sub.cons rfl (Sub.cons rfl (Sub.cons rfl (Sub.cons rfl (Sub.cons rfl (Sub.cons rfl (Sub.nil _))))))))))))) ((Imp.sels (by repeat (first | exact Sels.nil | apply Sels.cons | exact Sel.keep | exact Sel.here | apply Sel.there)))) (by rw [gtO_0 (by omega), ltO_s (by simpa using hg10_18), Bool.true_and])
        · obtain ⟨k1, hk1⟩ : ∃ k1, k = k1 + 1 := ⟨k - 1, by omega⟩
          obtain ⟨pl, hpl⟩ : ∃ pl, (bzT its)[k1]? = some pl := ⟨_, List.getElem?_eq_getElem (by omega)⟩
          have hplT : (List.take k (bzT its))[k1]? = some pl := by rw [List.getElem?_take_of_lt (by omega)]; exact hpl
          obtain ⟨g9, rfl⟩ := hga (by omega)
          refine SW.pure rfl rfl rfl rfl (fun w9 => R.fld rfl) ?_
          refine SW.read rfl rfl rfl rfl (fun w9 F9 S9 s => R.ldB (v := .int .i64 z.Block') rfl (s.cel (by repeat (first | exact SelB.blk | exact SelB.fz | apply SelB.there))) (by rfl)) ?_
          refine SW.pure rfl rfl rfl rfl (fun w9 => R.mv rfl) ?_
          refine SW.pure rfl rfl rfl rfl (fun w9 => R.mv rfl) ?_
          refine SW.pure rfl rfl rfl rfl (fun w9 => R.lenS rfl) ?_
          refine SW.pure rfl rfl rfl rfl (fun w9 => R.subW rfl rfl ((k1 : Nat) : Int) (by rw [wrap_i64 (by omega)]; omega)) ?_
          refine SW.pure rfl rfl rfl rfl (fun w9 => R.idxO rfl rfl (by omega) (by omega) rfl (k1 * 3) (by omega)) ?_
          refine SW.pure rfl rfl rfl rfl (fun w9 => R.fld rfl) ?_
          refine SW.read rfl rfl rfl rfl (fun w9 F9 S9 s => R.ld (v := .int .i64 pl.1) rfl ((row_ld (f := (fun p : Int × V2 => bz3 p.1 p.2)) (fun _ => rfl) (s.ownC (show Sel _ (own 45 3 (some ⟨g9, 0, none⟩) (k) c9 (bCells (List.take k (bzT its))).flatten) _ from (by repeat (first | exact Sel.keep | exact Sel.here | apply Sel.there)))) hplT).load (j := 0) rfl)) ?_
          refine SW.pure rfl rfl rfl rfl (fun w9 => R.gtr rfl rfl) ?_
          first | refine SW.pure rfl rfl rfl rfl (fun w9 => R.pickT rfl rfl) ?_ | refine SW.pure rfl rfl rfl rfl (fun w9 => R.pickF rfl rfl) ?_
          refine SW.pure rfl rfl rfl rfl (fun w9 => R.mv rfl) ?_
          refine SW.caseP 41 rfl (fun hg10_15 => ?_) (fun hg10_15 => ?_)
          · refine SW.pure rfl rfl rfl rfl (fun w9 => R.mv rfl) ?_
            refine SW.pure rfl rfl rfl rfl (fun w9 => R.not rfl) ?_
            refine SW.pure rfl rfl rfl rfl (fun w9 => R.mv rfl) ?_
            refine SW.caseB 44 rfl (fun hg10_18 => ?_) (fun hg10_18 => ?_)
            · refine SW.pass (hd := rfl) rfl rfl rfl ?_
              refine SW.pass (hd := rfl) rfl rfl rfl ?_
              refine SW.pass (hd := rfl) rfl rfl rfl ?_
              refine SW.pass (hd := rfl) rfl rfl rfl ?_
              first | refine SW.pure rfl rfl rfl rfl (fun w9 => R.pickT rfl rfl) ?_ | refine SW.pure rfl rfl rfl rfl (fun w9 => R.pickF rfl rfl) ?_
              first | refine SW.pure rfl rfl rfl rfl (fun w9 => R.pickT rfl rfl) ?_ | refine SW.pure rfl rfl rfl rfl (fun w9 => R.pickF rfl rfl) ?_
              refine SW.nil ?_
              exact SN.handX (true) (Sub.cons rfl (Sub.cons rfl (Sub.cons rfl (Sub.cons rfl (Sub.cons rfl (Sub.cons rfl (Sub.cons rfl (Sub.cons rfl (Sub.cons rfl (Sub.cons rfl (Sub.cons rfl (Sub.cons rfl (Sub.nil _))))))))))))) ((Imp.sels (by repeat (first | exact Sels.nil | apply Sels.cons | exact Sel.keep | exact Sel.here | apply Sel.there)))) (by rw [gtO_s hpl hk1, show decide (pl.1 < z.Block') = true from decide_eq_true (by omega), ltO_n (by simpa using hg10_18)]; rfl)
            · refine SW.pure rfl rfl rfl rfl (fun w9 => R.fld rfl) ?_
              refine SW.read rfl rfl rfl rfl (fun w9 F9 S9 s => R.ldB (v := .int .i64 z.Block') rfl (s.cel (by repeat (first | exact SelB.blk | exact SelB.fz | apply SelB.there))) (by rfl)) ?_
              refine SW.pure rfl rfl rfl rfl (fun w9 => R.mv rfl) ?_
              refine SW.pure rfl rfl rfl rfl (fun w9 => R.lss rfl rfl) ?_
              first | refine SW.pure rfl rfl rfl rfl (fun w9 => R.pickT rfl rfl) ?_ | refine SW.pure rfl rfl rfl rfl (fun w9 => R.pickF rfl rfl) ?_
              first | refine SW.pure rfl rfl rfl rfl (fun w9 => R.pickT rfl rfl) ?_ | refine SW.pure rfl rfl rfl rfl (fun w9 => R.pickF rfl rfl) ?_
              refine SW.nil ?_
              exact SN.handX (decide (z.Block' < o.getD 0)) (Sub.cons rfl (Sub.cons rfl (Sub.cons rfl (Sub.cons rfl (Sub.cons rfl (Sub.cons rfl (Sub.cons rfl (Sub.cons rfl (Sub.cons rfl (Sub.cons rfl (Sub.cons rfl (Sub.cons rfl (Sub.nil _))))))))))))) ((Imp.sels (by repeat (first | exact Sels.nil | apply Sels.cons | exact Sel.keep | exact Sel.here | apply Sel.there)))) (by rw [gtO_s hpl hk1, show decide (pl.1 < z.Block') = true from decide_eq_true (by omega), ltO_s (by simpa using hg10_18), Bool.true_and])
          · refine SW.pass (hd := rfl) rfl rfl rfl ?_
            refine SW.pass (hd := rfl) rfl rfl rfl ?_
            refine SW.pass (hd := rfl) rfl rfl rfl ?_
            refine SW.pass (hd := rfl) rfl rfl rfl ?_
            refine SW.pass (hd := rfl) rfl rfl rfl ?_
            refine SW.pass (hd := rfl) rfl rfl rfl ?_
            refine SW.pass (hd := rfl) rfl rfl rfl ?_
            refine SW.pass (hd := rfl) rfl rfl rfl ?_
            first | refine SW.pure rfl rfl rfl rfl (fun w9 => R.pickT rfl rfl) ?_ | refine SW.pure rfl rfl rfl rfl (fun w9 => R.pickF rfl rfl) ?_
            refine SW.nil ?_
            exact SN.handX (false) (Sub.cons rfl (Sub.cons rfl (Sub.cons rfl (Sub.cons rfl (Sub.cons rfl (Sub.cons rfl (Sub.cons rfl (Sub.cons rfl (Sub.cons rfl (Sub.cons rfl (Sub.cons rfl (Sub.cons rfl (Sub.nil _))))))))))))) ((Imp.sels (by repeat (first | exact Sels.nil | apply Sels.cons | exact Sel.keep | exact Sel.here | apply Sel.there)))) (by rw [gtO_s hpl hk1, show decide (pl.1 < z.Block') = false from decide_eq_false (by omega)]; rfl)
      · rintro w hw
        show SN _ _ _ _ _ [(0, .slice a n c), (3, .slice a9 k c9), (4, .int .i64 ((o).getD 0)), (5, .bool (o).isSome), (13, .slice a n c), (14, .int .i64 ((n : Nat) : Int)), (15, .int .i64 ((i : Nat) : Int)), (20, .slice r.Writes'a r.Writes'n r.Writes'c), (21, .int .i64 ((r.Writes'n : Nat) : Int)), (22, .int .i64 ((j : Nat) : Int)), (9, .pointer (some ⟨b9, 0, none⟩)), (50, .bool w)] [own 45 3 a9 (k) c9 (bCells (List.take k (bzT its))).flatten, blk b9 z.cells 30, sh (fun w => Tab w r.Writes'a r.Writes'n 2 (r.Writes'.map WriteV.cells)), sh (fun w => RecsOk w a n its)]
        refine SN.seq ?_
        refine SG.condB rfl (fun h2 => ?_) (fun h2 => ?_)
        · refine SG.seq ?_
          refine SG.region ?_
          refine SL.val rfl rfl (fun w9 F9 S9 s => R.fld rfl) ?_
          refine SL.val rfl rfl (fun w9 F9 S9 s => R.ldB (v := .int .i64 z.Block') rfl (s.cel (by repeat (first | exact SelB.blk | exact SelB.fz | apply SelB.there))) (by rfl)) ?_
          refine SL.val rfl rfl (fun w9 F9 S9 s => R.as rfl) ?_
          refine SL.nil ?_
          refine SN.seq ?_
          refine SG.region ?_
          refine SL.val rfl rfl (fun w9 F9 S9 s => R.as rfl) ?_
          refine SL.nil ?_
          refine SN.block ?_
          refine SN.seq ?_
          refine SG.region ?_
          refine SL.val rfl rfl (fun w9 F9 S9 s => R.add rfl rfl (by omega)) ?_
          refine SL.val rfl rfl (fun w9 F9 S9 s => R.mv rfl) ?_
          refine SL.nil ?_
          exact SN.again ((j + 1, some z.Block')) (by show r.Writes'n - (j + 1) < r.Writes'n - j; omega) (Sub.cons rfl (Sub.cons rfl (Sub.cons rfl (Sub.cons rfl (Sub.cons rfl (Sub.cons rfl (Sub.cons rfl (Sub.cons rfl (Sub.cons rfl (Sub.cons rfl (Sub.nil _))))))))))) ((Imp.sels (by repeat (first | exact Sels.nil | apply Sels.cons | exact Sel.keep | exact Sel.here | apply Sel.there)))) (⟨by show j + 1 ≤ r.Writes'n; omega, by have h9 := mn_app hm (blksR_at hz); rwa [mnS_yes (by rw [← hw]; exact h2)] at h9⟩)
        · refine SG.skip ?_
          refine SN.block ?_
          refine SN.seq ?_
          refine SG.region ?_
          refine SL.val rfl rfl (fun w9 F9 S9 s => R.add rfl rfl (by omega)) ?_
          refine SL.val rfl rfl (fun w9 F9 S9 s => R.mv rfl) ?_
          refine SL.nil ?_
          exact SN.again ((j + 1, o)) (by show r.Writes'n - (j + 1) < r.Writes'n - j; omega) (Sub.cons rfl (Sub.cons rfl (Sub.cons rfl (Sub.cons rfl (Sub.cons rfl (Sub.cons rfl (Sub.cons rfl (Sub.cons rfl (Sub.cons rfl (Sub.cons rfl (Sub.nil _))))))))))) ((Imp.sels (by repeat (first | exact Sels.nil | apply Sels.cons | exact Sel.keep | exact Sel.here | apply Sel.there)))) (⟨by show j + 1 ≤ r.Writes'n; omega, by have h9 := mn_app hm (blksR_at hz); rwa [mnS_no (by rw [← hw]; simpa using h2)] at h9⟩)
    · refine SG.exit _ rfl ?_
      refine SN.block ?_
      refine SN.seq ?_
      refine SG.region ?_
      refine SL.val rfl rfl (fun w9 F9 S9 s => R.add rfl rfl (by omega)) ?_
      refine SL.val rfl rfl (fun w9 F9 S9 s => R.mv rfl) ?_
      refine SL.nil ?_
      exact SN.again ((i + 1, o)) (by show n - (i + 1) < n - i; omega) (Sub.cons rfl (Sub.cons rfl (Sub.cons rfl (Sub.cons rfl (Sub.cons rfl (Sub.cons rfl (Sub.cons rfl (Sub.nil _)))))))) ((Imp.sels (by repeat (first | exact Sels.nil | apply Sels.cons | exact Sel.keep | exact Sel.here | apply Sel.there)))) (⟨by show i + 1 ≤ n; omega, by rw [allB_step hr]; rwa [List.take_of_length_le (by rw [blksR_len]; omega)] at hm⟩)
  · obtain rfl : n = i := by omega
    rw [hln] at hm1
    have hnx := tab_next (bzT_srt its) (bzT_keys its) hk hm1
    refine SG.exit _ rfl ?_
    refine SN.seq ?_
    refine SG.seq ?_
    refine SG.seq ?_
    refine SG.region ?_
    refine SL.val rfl rfl (fun w9 F9 S9 s => R.mv rfl) ?_
    refine SL.val rfl rfl (fun w9 F9 S9 s => R.not rfl) ?_
    refine SL.nil ?_
    refine SN.seq ?_
    refine SG.condB rfl (fun h3 => ?_) (fun h3 => ?_)
    · obtain ⟨ho, hkl⟩ : o1 = none ∧ k = (bzT its).length := by
        rcases hnx with h | ⟨p, hp, ho⟩
        · exact h
        · simp [ho] at h3
      subst hkl
      rw [List.take_length]
      refine SG.seq ?_
      refine SG.region ?_
      refine SL.val rfl rfl (fun w9 F9 S9 s => R.mv rfl) ?_
      refine SL.val rfl rfl (fun w9 F9 S9 s => R.as rfl) ?_
      refine SL.nil ?_
      refine SN.seq ?_
      exact SG.ret1 rfl rfl ((Imp.sels (by repeat (first | exact Sels.nil | apply Sels.cons | exact Sel.keep | exact Sel.here | apply Sel.there)))) (⟨a9, c9, rfl, rfl⟩)
    · obtain ⟨p, hp, ho⟩ : ∃ p, (bzT its)[k]? = some p ∧ o1 = some p.1 := by
        rcases hnx with ⟨h, _⟩ | h
        · simp [h] at h3
        · exact h
      subst ho
      have hpl := (List.getElem?_eq_some_iff.1 hp).1
      refine SG.skip ?_
      refine SN.seq ?_
      refine SG.seq ?_
      refine SG.region ?_
      refine SL.val rfl rfl (fun w9 F9 S9 s => R.mv rfl) ?_
      refine SL.val rfl rfl (fun w9 F9 S9 s => R.buildN (l := [.int .i64 p.1, .int .i64 0, .int .i64 0]) rfl rfl) ?_
      refine SL.step rfl rfl (CS.alloc [.int .i64 0, .int .i64 0, .int .i64 0] rfl) ?_
      rintro _ _ ⟨b10, rfl, rfl⟩
      refine SL.step0 rfl (CS.stA rfl rfl (by repeat (first | exact Sel.keep | exact Sel.here | apply Sel.there)) (by rfl) (by rfl) (by intro u hu; simp only [List.mem_cons, List.not_mem_nil, or_false] at hu; rcases hu with rfl | rfl | rfl <;> rfl)) ?_
      rintro _ _ rfl
      refine SL.nil ?_
      refine SN.seq ?_
      refine SG.seq ?_
      refine SG.seq ?_
      refine SG.region ?_
      refine SL.val rfl rfl (fun w9 F9 S9 s => R.mv rfl) ?_
      refine SL.val rfl rfl (fun w9 F9 S9 s => R.lenS rfl) ?_
      refine SL.val rfl rfl (fun w9 F9 S9 s => R.mv rfl) ?_
      refine SL.nil ?_
      refine SN.seq ?_
      refine SG.block ?_
      refine SG.loop (X := Nat) (fun i => [(0, .slice a n c), (3, .slice a9 k c9), (4, .int .i64 p.1), (10, .pointer (some ⟨b10, 0, none⟩)), (60, .slice a n c), (61, .int .i64 ((n : Nat) : Int)), (62, .int .i64 ((i : Nat) : Int))]) (fun i => [own 45 3 a9 (k) c9 (bCells (List.take k (bzT its))).flatten, blk b10 [.int .i64 p.1, .int .i64 (cb p.1 (List.take i its)).1, .int .i64 (cb p.1 (List.take i its)).2] 45, sh (fun w => RecsOk w a n its)]) (fun i => i ≤ n) (fun i => n - i) (0) (Sub.cons rfl (Sub.cons rfl (Sub.cons rfl (Sub.cons rfl (Sub.cons rfl (Sub.cons rfl (Sub.cons rfl (Sub.nil _)))))))) ((Imp.sels (by repeat (first | exact Sels.nil | apply Sels.cons | exact Sel.keep | exact Sel.here | apply Sel.there)))) (Nat.zero_le _) ?_
      intro i hi
      show SG _ _ _ _ _ [(0, .slice a n c), (3, .slice a9 k c9), (4, .int .i64 p.1), (10, .pointer (some ⟨b10, 0, none⟩)), (60, .slice a n c), (61, .int .i64 ((n : Nat) : Int)), (62, .int .i64 ((i : Nat) : Int))] [own 45 3 a9 (k) c9 (bCells (List.take k (bzT its))).flatten, blk b10 [.int .i64 p.1, .int .i64 (cb p.1 (List.take i its)).1, .int .i64 (cb p.1 (List.take i its)).2] 45, sh (fun w => RecsOk w a n its)] _
      refine SG.seq ?_
      refine SG.region ?_
      refine SL.val rfl rfl (fun w9 F9 S9 s => R.lss rfl rfl) ?_
      refine SL.nil ?_
      refine SN.seq ?_
      refine SG.seq ?_
      refine SG.condP rfl (fun h4 => ?_) (fun h4 => ?_)
      · obtain ⟨r, hr⟩ : ∃ r, its[i]? = some r := ⟨_, List.getElem?_eq_getElem (by omega)⟩
        refine SG.fact (fun w9 F9 S9 s => recs_pt (s.sh (p := fun w => RecsOk w a n its) (by repeat (first | exact Sel.keep | exact Sel.here | apply Sel.there))) hr) (fun hf9 => ?_)
        obtain ⟨q, hq⟩ := hf9
        refine SG.fact (fun w9 F9 S9 s => (rec_at (recs_ok (s.sh (p := fun w => RecsOk w a n its) (by repeat (first | exact Sel.keep | exact Sel.here | apply Sel.there))) hr)).2) (fun hf9 => ?_)
        have hwn := hf9; clear hf9
        refine SG.skip ?_
        refine SN.seq ?_
        refine SG.seq ?_
        refine SG.block ?_
        refine SG.seq ?_
        refine SG.region ?_
        refine SL.val rfl rfl (fun w9 F9 S9 s => R.idx rfl rfl (by omega) (by omega) q hq) ?_
        refine SL.val rfl rfl (fun w9 F9 S9 s => R.ldN (vs := r.cells) rfl (recs_ld (s.sh (p := fun w => RecsOk w a n its) (by repeat (first | exact Sel.keep | exact Sel.here | apply Sel.there))) hq hr) rfl) ?_
        refine SL.step rfl rfl (CS.alloc [.int .i64 0, .int .i64 0, .int .i64 0, .slice none 0 0] rfl) ?_
        rintro _ _ ⟨b12, rfl, rfl⟩
        refine SL.step0 rfl (CS.stA (vs := r.cells) rfl rfl (by repeat (first | exact Sel.keep | exact Sel.here | apply Sel.there)) rfl (by rfl) (RecV.cells.one r)) ?_
        rintro _ _ rfl
        refine SL.nil ?_
        refine SN.imp (Imp.weak (p := fun w => RecsOk w a n its) (q := fun w => RecX w r) (by repeat (first | exact Sel.keep | exact Sel.here | apply Sel.there)) (fun w h => recs_ok h hr)) ?_
        refine SN.seq ?_
        refine SG.seq ?_
        refine SG.region ?_
        refine SL.val rfl rfl (fun w9 F9 S9 s => R.ldBN (cs := r.cells.toArray) rfl (s.cel (by repeat (first | exact SelB.blk | exact SelB.fz | apply SelB.there))) rfl) ?_
        refine SL.val rfl rfl (fun w9 F9 S9 s => R.mv rfl) ?_
        refine SL.step rfl rfl (CS.call rfl go25 (rwr_ok r p.1) (by repeat (first | exact Sels.nil | apply Sels.cons | exact Sel.keep | exact Sel.here | apply Sel.there))) ?_
        rintro _ _ ⟨_, ⟨rfl, rfl⟩, rfl⟩
        refine SL.n0 ?_
        refine SL.nil ?_
        refine SN.seq ?_
        refine SG.condP rfl (fun h5 => ?_) (fun h5 => ?_)
        · have hsv : cb p.1 (List.take (i + 1) its) = (wr ((cb p.1 (List.take i its)).1 + 1), r.Number') := by rw [cb_step hr]; exact if_pos h5
          refine SG.seq ?_
          refine SG.region ?_
          refine SL.val rfl rfl (fun w9 F9 S9 s => R.fld rfl) ?_
          refine SL.val rfl rfl (fun w9 F9 S9 s => R.ldB (v := .int .i64 (cb p.1 (List.take i its)).1) rfl (s.cel (by repeat (first | exact SelB.blk | exact SelB.fz | apply SelB.there))) (by rfl)) ?_
          refine SL.val rfl rfl (fun w9 F9 S9 s => R.addW rfl rfl (wr ((cb p.1 (List.take i its)).1 + 1)) rfl) ?_
          refine SL.val rfl rfl (fun w9 F9 S9 s => R.fld rfl) ?_
          refine SL.step0 rfl (CS.st rfl rfl (show Sel _ (blk b10 _ _) _ from (by repeat (first | exact Sel.keep | exact Sel.here | apply Sel.there))) (by repeat (first | exact SetAt.here | apply SetAt.there)) rfl) ?_
          rintro _ _ rfl
          refine SL.nil ?_
          refine SN.seq ?_
          refine SG.region ?_
          refine SL.val rfl rfl (fun w9 F9 S9 s => R.fld rfl) ?_
          refine SL.val rfl rfl (fun w9 F9 S9 s => R.ldB (v := .int .i64 r.Number') rfl (s.cel (by repeat (first | exact SelB.blk | exact SelB.fz | apply SelB.there))) (by rfl)) ?_
          refine SL.val rfl rfl (fun w9 F9 S9 s => R.fld rfl) ?_
          refine SL.step0 rfl (CS.st rfl rfl (show Sel _ (blk b10 _ _) _ from (by repeat (first | exact Sel.keep | exact Sel.here | apply Sel.there))) (by repeat (first | exact SetAt.here | apply SetAt.there)) rfl) ?_
          rintro _ _ rfl
          refine SL.nil ?_
          refine SN.block ?_
          refine SN.seq ?_
          refine SG.region ?_
          refine SL.val rfl rfl (fun w9 F9 S9 s => R.add rfl rfl (by omega)) ?_
          refine SL.val rfl rfl (fun w9 F9 S9 s => R.mv rfl) ?_
          refine SL.nil ?_
          exact SN.again (i + 1) (by show n - (i + 1) < n - i; omega) (Sub.cons rfl (Sub.cons rfl (Sub.cons rfl (Sub.cons rfl (Sub.cons rfl (Sub.cons rfl (Sub.cons rfl (Sub.nil _)))))))) ((show Imp _ _ by rw [hsv]; exact (Imp.sels (by repeat (first | exact Sels.nil | apply Sels.cons | exact Sel.keep | exact Sel.here | apply Sel.there))))) (by show i + 1 ≤ n; omega)
        · have hsv : cb p.1 (List.take (i + 1) its) = (cb p.1 (List.take i its)) := by rw [cb_step hr]; exact if_neg h5
          refine SG.skip ?_
          refine SN.block ?_
          refine SN.seq ?_
          refine SG.region ?_
          refine SL.val rfl rfl (fun w9 F9 S9 s => R.add rfl rfl (by omega)) ?_
          refine SL.val rfl rfl (fun w9 F9 S9 s => R.mv rfl) ?_
          refine SL.nil ?_
          exact SN.again (i + 1) (by show n - (i + 1) < n - i; omega) (Sub.cons rfl (Sub.cons rfl (Sub.cons rfl (Sub.cons rfl (Sub.cons rfl (Sub.cons rfl (Sub.cons rfl (Sub.nil _)))))))) ((show Imp _ _ by rw [hsv]; exact (Imp.sels (by repeat (first | exact Sels.nil | apply Sels.cons | exact Sel.keep | exact Sel.here | apply Sel.there))))) (by show i + 1 ≤ n; omega)
      · obtain rfl : n = i := by omega
        have hpv : cb p.1 (List.take n its) = p.2 := by rw [List.take_of_length_le (by omega)]; exact bzT_cb hp
        rw [hpv]
        refine SG.exit _ rfl ?_
        refine SN.seq ?_
        refine SG.region ?_
        refine SL.val rfl rfl (fun w9 F9 S9 s => R.mv rfl) ?_
        refine SL.val rfl rfl (fun w9 F9 S9 s => R.ldBN (cs := (bz3 p.1 p.2).toArray) rfl (s.cel (show SelB _ b10 (bz3 p.1 p.2) _ from (by repeat (first | exact SelB.blk | exact SelB.fz | apply SelB.there)))) rfl) ?_
        refine SL.step rfl rfl (CS.buildA rfl rfl rfl rfl rfl (bz3 p.1 p.2) rfl) ?_
        rintro _ _ ⟨b79, rfl, rfl⟩
        refine SL.step rfl rfl (CS.app rfl rfl (show Sel _ (own 45 3 a9 (k) c9 (bCells (List.take k (bzT its))).flatten) _ from (by repeat (first | exact Sel.keep | exact Sel.here | apply Sel.there))) (fun w9 F9 S9 s => s.blkC (show Sel _ (blk b79 (bz3 p.1 p.2) _) _ from (by repeat (first | exact Sel.keep | exact Sel.here | apply Sel.there)))) rfl (bz3_one _ _) (by simp [maxLen]; omega) (by omega)) ?_
        rintro _ _ ⟨a80, c80, rfl, rfl⟩
        refine SL.val rfl rfl (fun w9 F9 S9 s => R.as rfl) ?_
        refine SL.nil ?_
        refine SN.block ?_
        exact SN.again ((k + 1, a80, c80)) (by show (bzT its).length - (k + 1) < (bzT its).length - k; omega) (Sub.cons rfl (Sub.cons rfl (Sub.nil _))) ((show Imp _ _ by dsimp only; rw [← bCells_take hp]; exact (Imp.sels (by repeat (first | exact Sels.nil | apply Sels.cons | exact Sel.keep | exact Sel.here | apply Sel.there))))) (by show k + 1 ≤ (bzT its).length; omega)

end Go.Proofs.YtlhkpakbenghgaaGreat
/-
  The walks of package stats.
-/
set_option linter.unusedVariables false
set_option linter.unusedSimpArgs false
set_option maxRecDepth 4000
namespace Go.Proofs.YtlhkpakbenghgaaGreat
open Go Brv Brv.Stats
theorem hot1_ok (x y : E3) : SpecS Tryz.prog 27 [.agg (cellB x).toArray, .agg (cellB y).toArray] [] (fun v H' => v = .int .i64 (cmpF y.2.1 x.2.1) ∧ H' = []) := by
  refine SpecS.enter Tryz.func27 rfl 10 rfl (Nat.le_of_ble_eq_true rfl) (fun o => ?_)
  refine SG.seq ?_
  refine SG.region ?_
  refine SL.step rfl rfl (CS.boxA rfl) ?_
  rintro _ _ ⟨b2, rfl, rfl⟩
  refine SL.step rfl rfl (CS.boxA rfl) ?_
  rintro _ _ ⟨b3, rfl, rfl⟩
  refine SL.val rfl rfl (fun w9 F9 S9 s => R.as rfl) ?_
  refine SL.nil ?_
  refine SN.seq ?_
  refine SG.seq ?_
  refine SG.region ?_
  refine SL.val rfl rfl (fun w9 F9 S9 s => R.fld rfl) ?_
  refine SL.val rfl rfl (fun w9 F9 S9 s => R.ldB (v := .int .i64 y.2.1) rfl (s.cel (by repeat (first | exact SelB.blk | exact SelB.fz | apply SelB.there))) (by rfl)) ?_
  refine SL.val rfl rfl (fun w9 F9 S9 s => R.fld rfl) ?_
  refine SL.val rfl rfl (fun w9 F9 S9 s => R.ldB (v := .int .i64 x.2.1) rfl (s.cel (by repeat (first | exact SelB.blk | exact SelB.fz | apply SelB.there))) (by rfl)) ?_
  refine SL.step rfl rfl (CS.callR rfl go28 (fun w9 F9 S9 s => (cmpI_ok y.2.1 x.2.1 w9).mono fun v w1 ⟨h1, h2⟩ => ⟨h1, by rw [h2]; exact Ext.refl _ _⟩)) ?_
  rintro _ _ ⟨rfl, rfl⟩
  refine SL.val rfl rfl (fun w9 F9 S9 s => R.as rfl) ?_
  refine SL.nil ?_
  refine SN.seq ?_
  exact SG.ret1 rfl rfl ((Imp.sels (by repeat (first | exact Sels.nil | apply Sels.cons | exact Sel.keep | exact Sel.here | apply Sel.there)))) (⟨rfl, rfl⟩)

theorem hot2_ok (x : E3) : SpecS Tryz.prog 33 [.agg (cellB x).toArray] [] (fun v H' => v = .int .i64 x.1 ∧ H' = []) := by
  refine SpecS.enter Tryz.func33 rfl 5 rfl (Nat.le_of_ble_eq_true rfl) (fun o => ?_)
  refine SG.seq ?_
  refine SG.region ?_
  refine SL.step rfl rfl (CS.boxA rfl) ?_
  rintro _ _ ⟨b1, rfl, rfl⟩
  refine SL.val rfl rfl (fun w9 F9 S9 s => R.as rfl) ?_
  refine SL.nil ?_
  refine SN.seq ?_
  refine SG.seq ?_
  refine SG.region ?_
  refine SL.val rfl rfl (fun w9 F9 S9 s => R.fld rfl) ?_
  refine SL.val rfl rfl (fun w9 F9 S9 s => R.ldB (v := .int .i64 x.1) rfl (s.cel (by repeat (first | exact SelB.blk | exact SelB.fz | apply SelB.there))) (by rfl)) ?_
  refine SL.val rfl rfl (fun w9 F9 S9 s => R.as rfl) ?_
  refine SL.nil ?_
  refine SN.seq ?_
  exact SG.ret1 rfl rfl ((Imp.sels (by repeat (first | exact Sels.nil | apply Sels.cons | exact Sel.keep | exact Sel.here | apply Sel.there)))) (⟨rfl, rfl⟩)

theorem bf_cmp {x y : E3} : (cmpF y.2.1 x.2.1 < 0) ↔ bf x y = true := by rw [cmpF_neg]; exact Iff.rfl

theorem ins_ok (a : Option Addr) (n c : Nat) (l0 : List E3) (a0 b0 : Nat) (hab : a0 ≤ b0) (hbn : b0 ≤ n) (hn : n ≤ 4611686018427387904) : SpecS Tryz.prog 83 [.slice a n c, .int .i64 (a0 : Int), .int .i64 (b0 : Int), .func (.func 27) #[] #[]] [own 45 3 a n c (List.map cellB l0).flatten] (fun v H' => v = .tuple #[] ∧ H' = [own 45 3 a n c (List.map cellB (insM l0 a0 b0)).flatten]) := by
  refine SpecS.enter Tryz.func83 rfl 53 rfl (Nat.le_of_ble_eq_true rfl) (fun o => ?_)
  refine SG.fact (fun w9 F9 S9 s => s.ownL (show Sel _ (own 45 3 a n c (List.map cellB l0).flatten) _ from (by repeat (first | exact Sel.keep | exact Sel.here | apply Sel.there)))) (fun hf9 => ?_)
  obtain ⟨hll0, hnc⟩ := hf9
  rw [flat_len cellB_len] at hll0
  have hll : l0.length = n := by omega
  refine SG.seq ?_
  refine SG.region ?_
  refine SL.val rfl rfl (fun w9 F9 S9 s => R.mv rfl) ?_
  refine SL.val rfl rfl (fun w9 F9 S9 s => R.addW rfl rfl ((a0 + 1 + 0 : Nat) : Int) (by rw [wrap_i64 (by omega)]; omega)) ?_
  refine SL.val rfl rfl (fun w9 F9 S9 s => R.as rfl) ?_
  refine SL.nil ?_
  refine SN.seq ?_
  refine SG.block ?_
  refine SG.loop (X := Nat) (fun k => [(0, .slice a n c), (1, .int .i64 (a0 : Int)), (2, .int .i64 (b0 : Int)), (3, .func (.func 27) #[] #[]), (8, .int .i64 ((a0 + 1 + k : Nat) : Int))]) (fun k => [own 45 3 a n c (List.map cellB (insK l0 a0 k)).flatten]) (fun k => k ≤ b0 - (a0 + 1)) (fun k => b0 - (a0 + 1) - k) (0) (Sub.cons rfl (Sub.cons rfl (Sub.cons rfl (Sub.cons rfl (Sub.cons rfl (Sub.nil _)))))) ((Imp.sels (by repeat (first | exact Sels.nil | apply Sels.cons | exact Sel.keep | exact Sel.here | apply Sel.there)))) (Nat.zero_le _) ?_
  intro k hk
  have hil := insK_len l0 a0 k
  show SG _ _ _ _ _ [(0, .slice a n c), (1, .int .i64 (a0 : Int)), (2, .int .i64 (b0 : Int)), (3, .func (.func 27) #[] #[]), (8, .int .i64 ((a0 + 1 + k : Nat) : Int))] [own 45 3 a n c (List.map cellB (insK l0 a0 k)).flatten] _
  refine SG.seq ?_
  refine SG.seq ?_
  refine SG.region ?_
  refine SL.val rfl rfl (fun w9 F9 S9 s => R.mv rfl) ?_
  refine SL.val rfl rfl (fun w9 F9 S9 s => R.mv rfl) ?_
  refine SL.val rfl rfl (fun w9 F9 S9 s => R.lss rfl rfl) ?_
  refine SL.nil ?_
  refine SN.seq ?_
  refine SG.condP rfl (fun h0 => ?_) (fun h0 => ?_)
  · refine SG.fact (fun w9 F9 S9 s => s.ownG (show Sel _ (own 45 3 a n c (List.map cellB (insK l0 a0 k)).flatten) _ from (by repeat (first | exact Sel.keep | exact Sel.here | apply Sel.there))) (by omega)) (fun hf9 => ?_)
    obtain ⟨g, rfl⟩ := hf9
    refine SG.skip ?_
    refine SN.seq ?_
    refine SG.seq ?_
    refine SG.block ?_
    refine SG.seq ?_
    refine SG.region ?_
    refine SL.val rfl rfl (fun w9 F9 S9 s => R.mv rfl) ?_
    refine SL.val rfl rfl (fun w9 F9 S9 s => R.as rfl) ?_
    refine SL.nil ?_
    refine SN.seq ?_
    refine SG.block ?_
    refine SG.loop (X := Nat × List E3) (fun y => [(0, .slice (some ⟨g, 0, none⟩) n c), (1, .int .i64 (a0 : Int)), (2, .int .i64 (b0 : Int)), (3, .func (.func 27) #[] #[]), (8, .int .i64 ((a0 + 1 + k : Nat) : Int)), (9, .int .i64 (y.1 : Int))]) (fun y => [own 45 3 (some ⟨g, 0, none⟩) n c (List.map cellB y.2).flatten]) (fun y => y.2.length = n ∧ y.1 < n ∧ sinkM y.2 a0 y.1 = insK l0 a0 (k + 1)) (fun y => y.1) ((a0 + 1 + k, insK l0 a0 k)) (Sub.cons rfl (Sub.cons rfl (Sub.cons rfl (Sub.cons rfl (Sub.cons rfl (Sub.cons rfl (Sub.nil _))))))) ((Imp.sels (by repeat (first | exact Sels.nil | apply Sels.cons | exact Sel.keep | exact Sel.here | apply Sel.there)))) (⟨by show (insK l0 a0 k).length = n; omega, by show a0 + 1 + k < n; omega, rfl⟩) ?_
    rintro ⟨j, l⟩ ⟨hl, hj, hs⟩
    dsimp only at hl hj hs
    show SG _ _ _ _ _ [(0, .slice (some ⟨g, 0, none⟩) n c), (1, .int .i64 (a0 : Int)), (2, .int .i64 (b0 : Int)), (3, .func (.func 27) #[] #[]), (8, .int .i64 ((a0 + 1 + k : Nat) : Int)), (9, .int .i64 (j : Int))] [own 45 3 (some ⟨g, 0, none⟩) n c (List.map cellB l).flatten] _
    refine SG.seq ?_
    refine SG.seq ?_
    refine SG.draw [14] [0, 1, 2, 3, 4, 5, 6, 7, 8, 9, 10, 11, 12, 13, 14, 15, 16] (by decide +kernel) rfl ?_
    refine SW.pure rfl rfl rfl rfl (fun w9 => R.mv rfl) ?_
    refine SW.pure rfl rfl rfl rfl (fun w9 => R.mv rfl) ?_
    refine SW.pure rfl rfl rfl rfl (fun w9 => R.gtr rfl rfl) ?_
    refine SW.pure rfl rfl rfl rfl (fun w9 => R.mv rfl) ?_
    refine SW.caseP 21 rfl (fun hg4_3 => ?_) (fun hg4_3 => ?_)
    · obtain ⟨j1, rfl⟩ : ∃ j1, j = j1 + 1 := ⟨j - 1, by omega⟩
      obtain ⟨x, hx⟩ : ∃ x, l[j1]? = some x := ⟨_, List.getElem?_eq_getElem (by omega)⟩
      obtain ⟨y, hy⟩ : ∃ y, l[j1 + 1]? = some y := ⟨_, List.getElem?_eq_getElem (by omega)⟩
      refine SW.pure rfl rfl rfl rfl (fun w9 => R.mv rfl) ?_
      refine SW.pure rfl rfl rfl rfl (fun w9 => R.mv rfl) ?_
      refine SW.pure rfl rfl rfl rfl (fun w9 => R.mv rfl) ?_
      refine SW.pure rfl rfl rfl rfl (fun w9 => R.idxO (i := ((j1 + 1 : Nat) : Int)) rfl rfl (by omega) (by omega) rfl ((j1 + 1) * 3) (by omega)) ?_
      refine SW.read rfl rfl rfl rfl (fun w9 F9 S9 s => R.ldN (vs := cellB y) rfl (row_ld cellB_len (s.ownC (show Sel _ (own 45 3 (some ⟨g, 0, none⟩) n c (List.map cellB l).flatten) _ from (by repeat (first | exact Sel.keep | exact Sel.here | apply Sel.there)))) hy) rfl) ?_
      refine SW.pure rfl rfl rfl rfl (fun w9 => R.mv rfl) ?_
      refine SW.pure rfl rfl rfl rfl (fun w9 => R.mv rfl) ?_
      refine SW.pure rfl rfl rfl rfl (fun w9 => R.subW rfl rfl (j1 : Int) (by rw [wrap_i64 (by omega)]; omega)) ?_
      refine SW.pure rfl rfl rfl rfl (fun w9 => R.idxO (i := (j1 : Int)) rfl rfl (by omega) (by omega) rfl (j1 * 3) (by omega)) ?_
      refine SW.read rfl rfl rfl rfl (fun w9 F9 S9 s => R.ldN (vs := cellB x) rfl (row_ld cellB_len (s.ownC (show Sel _ (own 45 3 (some ⟨g, 0, none⟩) n c (List.map cellB l).flatten) _ from (by repeat (first | exact Sel.keep | exact Sel.here | apply Sel.there)))) hx) rfl) ?_
      refine SW.step rfl rfl rfl rfl (CS.callV rfl rfl rfl go27 (hot1_ok y x) (by repeat (first | exact Sels.nil | apply Sels.cons | exact Sel.keep | exact Sel.here | apply Sel.there))) ?_
      rintro _ _ ⟨_, ⟨rfl, rfl⟩, rfl⟩
      refine ⟨⟨.inl (by decide +kernel), ⟨.inl (by decide +kernel), trivial⟩⟩, ?_⟩
      refine SW.n0 ?_
      refine SW.pure rfl rfl rfl rfl (fun w9 => R.lss rfl rfl) ?_
      first | refine SW.pure rfl rfl rfl rfl (fun w9 => R.pickT rfl rfl) ?_ | refine SW.pure rfl rfl rfl rfl (fun w9 => R.pickF rfl rfl) ?_
      refine SW.nil ?_
      refine SN.seq ?_
      refine SG.condP rfl (fun h1 => ?_) (fun h1 => ?_)
      · refine SG.skip ?_
        refine SN.seq ?_
        refine SG.seq ?_
        refine SG.block ?_
        refine SG.draw [15, 17] [0, 1, 2, 3, 4, 5, 6, 7, 8, 9, 10, 11, 12, 13, 14, 15, 16, 17] (by decide +kernel) rfl ?_
        refine SW.pure rfl rfl rfl rfl (fun w9 => R.mv rfl) ?_
        refine SW.pure rfl rfl rfl rfl (fun w9 => R.mv rfl) ?_
        refine SW.pure rfl rfl rfl rfl (fun w9 => R.mv rfl) ?_
        refine SW.pure rfl rfl rfl rfl (fun w9 => R.mv rfl) ?_
        refine SW.pure rfl rfl rfl rfl (fun w9 => R.subW rfl rfl (j1 : Int) (by rw [wrap_i64 (by omega)]; omega)) ?_
        refine SW.pure rfl rfl rfl rfl (fun w9 => R.mv rfl) ?_
        refine SW.pure rfl rfl rfl rfl (fun w9 => R.mv rfl) ?_
        refine SW.pure rfl rfl rfl rfl (fun w9 => R.subW rfl rfl (j1 : Int) (by rw [wrap_i64 (by omega)]; omega)) ?_
        refine SW.pure rfl rfl rfl rfl (fun w9 => R.idxO (i := (j1 : Int)) rfl rfl (by omega) (by omega) rfl (j1 * 3) (by omega)) ?_
        refine SW.read rfl rfl rfl rfl (fun w9 F9 S9 s => R.ldN (vs := cellB x) rfl (row_ld cellB_len (s.ownC (show Sel _ (own 45 3 (some ⟨g, 0, none⟩) n c (List.map cellB l).flatten) _ from (by repeat (first | exact Sel.keep | exact Sel.here | apply Sel.there)))) hx) rfl) ?_
        refine SW.pure rfl rfl rfl rfl (fun w9 => R.mv rfl) ?_
        refine SW.pure rfl rfl rfl rfl (fun w9 => R.mv rfl) ?_
        refine SW.pure rfl rfl rfl rfl (fun w9 => R.idxO (i := ((j1 + 1 : Nat) : Int)) rfl rfl (by omega) (by omega) rfl ((j1 + 1) * 3) (by omega)) ?_
        refine SW.read rfl rfl rfl rfl (fun w9 F9 S9 s => R.ldN (vs := cellB y) rfl (row_ld cellB_len (s.ownC (show Sel _ (own 45 3 (some ⟨g, 0, none⟩) n c (List.map cellB l).flatten) _ from (by repeat (first | exact Sel.keep | exact Sel.here | apply Sel.there)))) hy) rfl) ?_
        refine SW.pure rfl rfl rfl rfl (fun w9 => R.idxO (i := ((j1 + 1 : Nat) : Int)) rfl rfl (by omega) (by omega) rfl ((j1 + 1) * 3) (by omega)) ?_
        refine SW.step0 rfl rfl rfl (CS.stR (f := cellB) (v := x) cellB_len cellB_one rfl rfl (show Sel _ (own 45 3 (some ⟨g, 0, none⟩) n c (List.map cellB l).flatten) _ from (by repeat (first | exact Sel.keep | exact Sel.here | apply Sel.there))) (by omega) (by first | omega | (simp only [List.length_set]; omega))) ?_
        rintro _ _ rfl
        refine ⟨⟨.inl (by decide +kernel), ⟨.inl (by decide +kernel), trivial⟩⟩, ?_⟩
        refine SW.pure rfl rfl rfl rfl (fun w9 => R.idxO (i := (j1 : Int)) rfl rfl (by omega) (by omega) rfl (j1 * 3) (by omega)) ?_
        refine SW.step0 rfl rfl rfl (CS.stR (f := cellB) (v := y) cellB_len cellB_one rfl rfl (show Sel _ (own 45 3 (some ⟨g, 0, none⟩) n c (List.map cellB (l.set (j1 + 1) x)).flatten) _ from (by repeat (first | exact Sel.keep | exact Sel.here | apply Sel.there))) (by omega) (by first | omega | (simp only [List.length_set]; omega))) ?_
        rintro _ _ rfl
        refine ⟨⟨.inl (by decide +kernel), ⟨.inl (by decide +kernel), trivial⟩⟩, ?_⟩
        refine SW.nil ?_
        refine SN.block ?_
        refine SN.seq ?_
        refine SG.region ?_
        refine SL.val rfl rfl (fun w9 F9 S9 s => R.mv rfl) ?_
        refine SL.val rfl rfl (fun w9 F9 S9 s => R.subW rfl rfl (j1 : Int) (by rw [wrap_i64 (by omega)]; omega)) ?_
        refine SL.val rfl rfl (fun w9 F9 S9 s => R.as rfl) ?_
        refine SL.nil ?_
        exact SN.again ((j1, (l.set (j1 + 1) x).set j1 y)) (by show j1 < j1 + 1; omega) (Sub.cons rfl (Sub.cons rfl (Sub.cons rfl (Sub.cons rfl (Sub.cons rfl (Sub.cons rfl (Sub.nil _))))))) ((Imp.sels (by repeat (first | exact Sels.nil | apply Sels.cons | exact Sel.keep | exact Sel.here | apply Sel.there)))) (⟨by show ((l.set (j1 + 1) x).set j1 y).length = n; simp only [List.length_set]; exact hl, by show j1 < n; omega, by rw [← hs, sinkM_yes (by omega) hx hy (bf_cmp.1 h1)]⟩)
      · have hsf : insK l0 a0 (k + 1) = l := by rw [← hs]; exact sinkM_no hx hy (Bool.eq_false_iff.2 fun e => h1 (bf_cmp.2 e))
        rw [← hsf]
        refine SG.exit _ rfl ?_
        refine SN.block ?_
        refine SN.seq ?_
        refine SG.region ?_
        refine SL.val rfl rfl (fun w9 F9 S9 s => R.mv rfl) ?_
        refine SL.val rfl rfl (fun w9 F9 S9 s => R.addW rfl rfl ((a0 + 1 + (k + 1) : Nat) : Int) (by rw [wrap_i64 (by omega)]; omega)) ?_
        refine SL.val rfl rfl (fun w9 F9 S9 s => R.as rfl) ?_
        refine SL.nil ?_
        exact SN.again (k + 1) (by show b0 - (a0 + 1) - (k + 1) < b0 - (a0 + 1) - k; omega) (Sub.cons rfl (Sub.cons rfl (Sub.cons rfl (Sub.cons rfl (Sub.cons rfl (Sub.nil _)))))) ((Imp.sels (by repeat (first | exact Sels.nil | apply Sels.cons | exact Sel.keep | exact Sel.here | apply Sel.there)))) (by show k + 1 ≤ b0 - (a0 + 1); omega)
    · have hsf : insK l0 a0 (k + 1) = l := by rw [← hs]; exact sinkM_stop (by omega)
      rw [← hsf]
      refine SW.pass (hd := rfl) rfl rfl rfl ?_
      refine SW.pass (hd := rfl) rfl rfl rfl ?_
      refine SW.pass (hd := rfl) rfl rfl rfl ?_
      refine SW.pass (hd := rfl) rfl rfl rfl ?_
      refine SW.pass (hd := rfl) rfl rfl rfl ?_
      refine SW.pass (hd := rfl) rfl rfl rfl ?_
      refine SW.pass (hd := rfl) rfl rfl rfl ?_
      refine SW.pass (hd := rfl) rfl rfl rfl ?_
      refine SW.pass (hd := rfl) rfl rfl rfl ?_
      refine SW.pass (hd := rfl) rfl rfl rfl ?_
      refine SW.passS rfl rfl rfl rfl ⟨trivial, ?_⟩
      refine SW.pass (hd := rfl) rfl rfl rfl ?_
      first | refine SW.pure rfl rfl rfl rfl (fun w9 => R.pickT rfl rfl) ?_ | refine SW.pure rfl rfl rfl rfl (fun w9 => R.pickF rfl rfl) ?_
      refine SW.nil ?_
      refine SN.seq ?_
      refine SG.condF rfl ?_
      refine SG.exit _ rfl ?_
      refine SN.block ?_
      refine SN.seq ?_
      refine SG.region ?_
      refine SL.val rfl rfl (fun w9 F9 S9 s => R.mv rfl) ?_
      refine SL.val rfl rfl (fun w9 F9 S9 s => R.addW rfl rfl ((a0 + 1 + (k + 1) : Nat) : Int) (by rw [wrap_i64 (by omega)]; omega)) ?_
      refine SL.val rfl rfl (fun w9 F9 S9 s => R.as rfl) ?_
      refine SL.nil ?_
      exact SN.again (k + 1) (by show b0 - (a0 + 1) - (k + 1) < b0 - (a0 + 1) - k; omega) (Sub.cons rfl (Sub.cons rfl (Sub.cons rfl (Sub.cons rfl (Sub.cons rfl (Sub.nil _)))))) ((Imp.sels (by repeat (first | exact Sels.nil | apply Sels.cons | exact Sel.keep | exact Sel.here | apply Sel.there)))) (by show k + 1 ≤ b0 - (a0 + 1); omega)
  · obtain rfl : b0 - (a0 + 1) = k := by omega
    refine SG.exit _ rfl ?_
    exact SN.end0 rfl ((Imp.sels (by repeat (first | exact Sels.nil | apply Sels.cons | exact Sel.keep | exact Sel.here | apply Sel.there)))) (⟨rfl, rfl⟩)

end Go.Proofs.YtlhkpakbenghgaaGreat
/-
  The walks of package stats.
-/
set_option linter.unusedVariables false
set_option linter.unusedSimpArgs false
set_option maxRecDepth 4000
namespace Go.Proofs.YtlhkpakbenghgaaGreat
open Go Brv Brv.Stats
theorem swr_ok (a : Option Addr) (n c : Nat) (l0 : List E3) (a0 b0 k0 : Nat) (han : a0 + k0 ≤ n) (hbn : b0 + k0 ≤ n) (hn : n ≤ 1152921504606846976) : SpecS Tryz.prog 100 [.slice a n c, .int .i64 ((a0 : Nat) : Int), .int .i64 ((b0 : Nat) : Int), .int .i64 ((k0 : Nat) : Int), .func (.func 27) #[] #[]] [own 45 3 a n c (List.map cellB l0).flatten] (fun v H' => v = .tuple #[] ∧ H' = [own 45 3 a n c (List.map cellB (swpK l0 a0 b0 k0)).flatten]) := by
  refine SpecS.enter Tryz.func100 rfl 38 rfl (Nat.le_of_ble_eq_true rfl) (fun o => ?_)
  refine SG.fact (fun w9 F9 S9 s => s.ownL (show Sel _ (own 45 3 a n c (List.map cellB l0).flatten) _ from (by repeat (first | exact Sel.keep | exact Sel.here | apply Sel.there)))) (fun hf9 => ?_)
  obtain ⟨hll0, hnc⟩ := hf9
  rw [flat_len cellB_len] at hll0
  have hll : l0.length = n := by omega
  refine SG.seq ?_
  refine SG.region ?_
  refine SL.val rfl rfl (fun w9 F9 S9 s => R.as rfl) ?_
  refine SL.nil ?_
  refine SN.seq ?_
  refine SG.block ?_
  refine SG.loop (X := Nat) (fun k => [(0, .slice a n c), (1, .int .i64 ((a0 : Nat) : Int)), (2, .int .i64 ((b0 : Nat) : Int)), (3, .int .i64 ((k0 : Nat) : Int)), (4, .func (.func 27) #[] #[]), (10, .int .i64 ((k : Nat) : Int))]) (fun k => [own 45 3 a n c (List.map cellB (swpK l0 a0 b0 k)).flatten]) (fun k => k ≤ k0) (fun k => k0 - k) (0) (Sub.cons rfl (Sub.cons rfl (Sub.cons rfl (Sub.cons rfl (Sub.cons rfl (Sub.cons rfl (Sub.nil _))))))) ((Imp.sels (by repeat (first | exact Sels.nil | apply Sels.cons | exact Sel.keep | exact Sel.here | apply Sel.there)))) (Nat.zero_le _) ?_
  intro k hk
  have hsl := swpK_len l0 a0 b0 k
  show SG _ _ _ _ _ [(0, .slice a n c), (1, .int .i64 ((a0 : Nat) : Int)), (2, .int .i64 ((b0 : Nat) : Int)), (3, .int .i64 ((k0 : Nat) : Int)), (4, .func (.func 27) #[] #[]), (10, .int .i64 ((k : Nat) : Int))] [own 45 3 a n c (List.map cellB (swpK l0 a0 b0 k)).flatten] _
  refine SG.seq ?_
  refine SG.seq ?_
  refine SG.region ?_
  refine SL.val rfl rfl (fun w9 F9 S9 s => R.mv rfl) ?_
  refine SL.val rfl rfl (fun w9 F9 S9 s => R.mv rfl) ?_
  refine SL.val rfl rfl (fun w9 F9 S9 s => R.lss rfl rfl) ?_
  refine SL.nil ?_
  refine SN.seq ?_
  refine SG.condP rfl (fun h0 => ?_) (fun h0 => ?_)
  · refine SG.fact (fun w9 F9 S9 s => s.ownG (show Sel _ (own 45 3 a n c (List.map cellB (swpK l0 a0 b0 k)).flatten) _ from (by repeat (first | exact Sel.keep | exact Sel.here | apply Sel.there))) (by omega)) (fun hf9 => ?_)
    obtain ⟨g, rfl⟩ := hf9
    obtain ⟨x, hx⟩ : ∃ x, (swpK l0 a0 b0 k)[a0 + k]? = some x := ⟨_, List.getElem?_eq_getElem (by omega)⟩
    obtain ⟨y, hy⟩ : ∃ x, (swpK l0 a0 b0 k)[b0 + k]? = some x := ⟨_, List.getElem?_eq_getElem (by omega)⟩
    refine SG.skip ?_
    refine SN.seq ?_
    refine SG.seq ?_
    refine SG.block ?_
    refine SG.draw [21, 23] [0, 1, 2, 3, 4, 5, 6, 7, 8, 9, 10, 11, 12, 13, 14, 15, 16, 17, 18, 19, 20, 21, 22, 23] (by decide +kernel) rfl ?_
    refine SW.pure rfl rfl rfl rfl (fun w9 => R.mv rfl) ?_
    refine SW.pure rfl rfl rfl rfl (fun w9 => R.mv rfl) ?_
    refine SW.pure rfl rfl rfl rfl (fun w9 => R.mv rfl) ?_
    refine SW.pure rfl rfl rfl rfl (fun w9 => R.add rfl rfl (by omega)) ?_
    refine SW.pure rfl rfl rfl rfl (fun w9 => R.mv rfl) ?_
    refine SW.pure rfl rfl rfl rfl (fun w9 => R.mv rfl) ?_
    refine SW.pure rfl rfl rfl rfl (fun w9 => R.mv rfl) ?_
    refine SW.pure rfl rfl rfl rfl (fun w9 => R.add rfl rfl (by omega)) ?_
    refine SW.pure rfl rfl rfl rfl (fun w9 => R.mv rfl) ?_
    refine SW.pure rfl rfl rfl rfl (fun w9 => R.mv rfl) ?_
    refine SW.pure rfl rfl rfl rfl (fun w9 => R.mv rfl) ?_
    refine SW.pure rfl rfl rfl rfl (fun w9 => R.add rfl rfl (by omega)) ?_
    refine SW.pure rfl rfl rfl rfl (fun w9 => R.idxO rfl rfl (by omega) (by omega) rfl ((b0 + k) * 3) (by omega)) ?_
    refine SW.read rfl rfl rfl rfl (fun w9 F9 S9 s => R.ldN (vs := cellB y) rfl (row_ld cellB_len (s.ownC (show Sel _ (own 45 3 (some ⟨g, 0, none⟩) n c (List.map cellB (swpK l0 a0 b0 k)).flatten) _ from (by repeat (first | exact Sel.keep | exact Sel.here | apply Sel.there)))) hy) rfl) ?_
    refine SW.pure rfl rfl rfl rfl (fun w9 => R.mv rfl) ?_
    refine SW.pure rfl rfl rfl rfl (fun w9 => R.mv rfl) ?_
    refine SW.pure rfl rfl rfl rfl (fun w9 => R.mv rfl) ?_
    refine SW.pure rfl rfl rfl rfl (fun w9 => R.add rfl rfl (by omega)) ?_
    refine SW.pure rfl rfl rfl rfl (fun w9 => R.idxO rfl rfl (by omega) (by omega) rfl ((a0 + k) * 3) (by omega)) ?_
    refine SW.read rfl rfl rfl rfl (fun w9 F9 S9 s => R.ldN (vs := cellB x) rfl (row_ld cellB_len (s.ownC (show Sel _ (own 45 3 (some ⟨g, 0, none⟩) n c (List.map cellB (swpK l0 a0 b0 k)).flatten) _ from (by repeat (first | exact Sel.keep | exact Sel.here | apply Sel.there)))) hx) rfl) ?_
    refine SW.pure rfl rfl rfl rfl (fun w9 => R.idxO rfl rfl (by omega) (by omega) rfl ((a0 + k) * 3) (by omega)) ?_
    refine SW.step0 rfl rfl rfl (CS.stR (f := cellB) (v := y) cellB_len cellB_one rfl rfl (show Sel _ (own 45 3 (some ⟨g, 0, none⟩) n c (List.map cellB (swpK l0 a0 b0 k)).flatten) _ from (by repeat (first | exact Sel.keep | exact Sel.here | apply Sel.there))) (by omega) (by first | omega | (simp only [List.length_set]; omega))) ?_
    rintro _ _ rfl
    refine ⟨⟨.inl (by decide +kernel), ⟨.inl (by decide +kernel), trivial⟩⟩, ?_⟩
    refine SW.pure rfl rfl rfl rfl (fun w9 => R.idxO rfl rfl (by omega) (by omega) rfl ((b0 + k) * 3) (by omega)) ?_
    refine SW.step0 rfl rfl rfl (CS.stR (f := cellB) (v := x) cellB_len cellB_one rfl rfl (show Sel _ (own 45 3 (some ⟨g, 0, none⟩) n c (List.map cellB (List.set (swpK l0 a0 b0 k) (a0 + k) y)).flatten) _ from (by repeat (first | exact Sel.keep | exact Sel.here | apply Sel.there))) (by omega) (by first | omega | (simp only [List.length_set]; omega))) ?_
    rintro _ _ rfl
    refine ⟨⟨.inl (by decide +kernel), ⟨.inl (by decide +kernel), trivial⟩⟩, ?_⟩
    refine SW.nil ?_
    refine SN.block ?_
    refine SN.seq ?_
    refine SG.region ?_
    refine SL.val rfl rfl (fun w9 F9 S9 s => R.mv rfl) ?_
    refine SL.val rfl rfl (fun w9 F9 S9 s => R.add rfl rfl (by omega)) ?_
    refine SL.val rfl rfl (fun w9 F9 S9 s => R.as rfl) ?_
    refine SL.nil ?_
    exact SN.again (k + 1) (by show k0 - (k + 1) < k0 - k; omega) (Sub.cons rfl (Sub.cons rfl (Sub.cons rfl (Sub.cons rfl (Sub.cons rfl (Sub.cons rfl (Sub.nil _))))))) ((show Imp _ _ by rw [show swpK l0 a0 b0 (k + 1) = _ from swap2_at hx hy]; exact (Imp.sels (by repeat (first | exact Sels.nil | apply Sels.cons | exact Sel.keep | exact Sel.here | apply Sel.there))))) (by show k + 1 ≤ k0; omega)
  · obtain rfl : k0 = k := by omega
    refine SG.exit _ rfl ?_
    exact SN.end0 rfl ((Imp.sels (by repeat (first | exact Sels.nil | apply Sels.cons | exact Sel.keep | exact Sel.here | apply Sel.there)))) (⟨rfl, rfl⟩)

theorem rot_ok (a : Option Addr) (n c : Nat) (l0 goal : List E3) (a0 m b0 : Nat) (hR : Rot l0 goal m (m - a0) (b0 - m)) (ham : a0 < m) (hmb : m < b0) (hbn : b0 ≤ n) (hn : n ≤ 1152921504606846976) : SpecS Tryz.prog 96 [.slice a n c, .int .i64 ((a0 : Nat) : Int), .int .i64 ((m : Nat) : Int), .int .i64 ((b0 : Nat) : Int), .func (.func 27) #[] #[]] [own 45 3 a n c (List.map cellB l0).flatten] (fun v H' => v = .tuple #[] ∧ H' = [own 45 3 a n c (List.map cellB goal).flatten]) := by
  refine SpecS.enter Tryz.func96 rfl 58 rfl (Nat.le_of_ble_eq_true rfl) (fun o => ?_)
  refine SG.fact (fun w9 F9 S9 s => s.ownL (show Sel _ (own 45 3 a n c (List.map cellB l0).flatten) _ from (by repeat (first | exact Sel.keep | exact Sel.here | apply Sel.there)))) (fun hf9 => ?_)
  obtain ⟨hll0, hnc⟩ := hf9
  rw [flat_len cellB_len] at hll0
  have hll : l0.length = n := by omega
  have hRl := hR.len
  refine SG.seq ?_
  refine SG.region ?_
  refine SL.val rfl rfl (fun w9 F9 S9 s => R.mv rfl) ?_
  refine SL.val rfl rfl (fun w9 F9 S9 s => R.mv rfl) ?_
  refine SL.val rfl rfl (fun w9 F9 S9 s => R.subW rfl rfl ((m - a0 : Nat) : Int) (by rw [wrap_i64 (by omega)]; omega)) ?_
  refine SL.val rfl rfl (fun w9 F9 S9 s => R.as rfl) ?_
  refine SL.nil ?_
  refine SN.seq ?_
  refine SG.seq ?_
  refine SG.region ?_
  refine SL.val rfl rfl (fun w9 F9 S9 s => R.mv rfl) ?_
  refine SL.val rfl rfl (fun w9 F9 S9 s => R.mv rfl) ?_
  refine SL.val rfl rfl (fun w9 F9 S9 s => R.subW rfl rfl ((b0 - m : Nat) : Int) (by rw [wrap_i64 (by omega)]; omega)) ?_
  refine SL.val rfl rfl (fun w9 F9 S9 s => R.as rfl) ?_
  refine SL.nil ?_
  refine SN.seq ?_
  refine SG.seq ?_
  refine SG.block ?_
  refine SG.loop (X := Nat × Nat × List E3) (fun y => [(0, .slice a n c), (1, .int .i64 ((a0 : Nat) : Int)), (2, .int .i64 ((m : Nat) : Int)), (3, .int .i64 ((b0 : Nat) : Int)), (4, .func (.func 27) #[] #[]), (10, .int .i64 ((y.1 : Nat) : Int)), (11, .int .i64 ((y.2.1 : Nat) : Int))]) (fun y => [own 45 3 a n c (List.map cellB y.2.2).flatten]) (fun y => Rot y.2.2 goal m y.1 y.2.1 ∧ y.2.2.length = n) (fun y => y.1 + y.2.1) ((m - a0, b0 - m, l0)) (Sub.cons rfl (Sub.cons rfl (Sub.cons rfl (Sub.cons rfl (Sub.cons rfl (Sub.cons rfl (Sub.cons rfl (Sub.nil _)))))))) ((Imp.sels (by repeat (first | exact Sels.nil | apply Sels.cons | exact Sel.keep | exact Sel.here | apply Sel.there)))) (⟨hR, hll⟩) ?_
  rintro ⟨i, j, l⟩ ⟨hr, hl⟩
  dsimp only at hr hl
  have hrl := hr.len
  show SG _ _ _ _ _ [(0, .slice a n c), (1, .int .i64 ((a0 : Nat) : Int)), (2, .int .i64 ((m : Nat) : Int)), (3, .int .i64 ((b0 : Nat) : Int)), (4, .func (.func 27) #[] #[]), (10, .int .i64 ((i : Nat) : Int)), (11, .int .i64 ((j : Nat) : Int))] [own 45 3 a n c (List.map cellB l).flatten] _
  refine SG.seq ?_
  refine SG.seq ?_
  refine SG.region ?_
  refine SL.val rfl rfl (fun w9 F9 S9 s => R.mv rfl) ?_
  refine SL.val rfl rfl (fun w9 F9 S9 s => R.mv rfl) ?_
  refine SL.val rfl rfl (fun w9 F9 S9 s => R.neI rfl rfl) ?_
  refine SL.nil ?_
  refine SN.seq ?_
  refine SG.condP rfl (fun h0 => ?_) (fun h0 => ?_)
  · refine SG.skip ?_
    refine SN.seq ?_
    refine SG.block ?_
    refine SG.seq ?_
    refine SG.region ?_
    refine SL.val rfl rfl (fun w9 F9 S9 s => R.mv rfl) ?_
    refine SL.val rfl rfl (fun w9 F9 S9 s => R.mv rfl) ?_
    refine SL.val rfl rfl (fun w9 F9 S9 s => R.gtr rfl rfl) ?_
    refine SL.nil ?_
    refine SN.seq ?_
    refine SG.condP rfl (fun h1 => ?_) (fun h1 => ?_)
    · refine SG.seq ?_
      refine SG.region ?_
      refine SL.val rfl rfl (fun w9 F9 S9 s => R.mv rfl) ?_
      refine SL.val rfl rfl (fun w9 F9 S9 s => R.mv rfl) ?_
      refine SL.val rfl rfl (fun w9 F9 S9 s => R.mv rfl) ?_
      refine SL.val rfl rfl (fun w9 F9 S9 s => R.subW rfl rfl ((m - i : Nat) : Int) (by rw [wrap_i64 (by omega)]; omega)) ?_
      refine SL.val rfl rfl (fun w9 F9 S9 s => R.mv rfl) ?_
      refine SL.val rfl rfl (fun w9 F9 S9 s => R.mv rfl) ?_
      refine SL.val rfl rfl (fun w9 F9 S9 s => R.mv rfl) ?_
      refine SL.step rfl rfl (CS.call rfl go100 (swr_ok a n c l (m - i) m j (by omega) (by omega) hn) (by repeat (first | exact Sels.nil | apply Sels.cons | exact Sel.keep | exact Sel.here | apply Sel.there))) ?_
      rintro _ _ ⟨_, ⟨rfl, rfl⟩, rfl⟩
      refine SL.n1 ?_
      refine SL.nil ?_
      refine SN.seq ?_
      refine SG.region ?_
      refine SL.val rfl rfl (fun w9 F9 S9 s => R.mv rfl) ?_
      refine SL.val rfl rfl (fun w9 F9 S9 s => R.mv rfl) ?_
      refine SL.val rfl rfl (fun w9 F9 S9 s => R.subW rfl rfl ((i - j : Nat) : Int) (by rw [wrap_i64 (by omega)]; omega)) ?_
      refine SL.val rfl rfl (fun w9 F9 S9 s => R.as rfl) ?_
      refine SL.nil ?_
      refine SN.block ?_
      exact SN.again ((i - j, j, swpK l (m - i) m j)) (by show i - j + j < i + j; omega) (Sub.cons rfl (Sub.cons rfl (Sub.cons rfl (Sub.cons rfl (Sub.cons rfl (Sub.cons rfl (Sub.cons rfl (Sub.nil _)))))))) ((Imp.sels (by repeat (first | exact Sels.nil | apply Sels.cons | exact Sel.keep | exact Sel.here | apply Sel.there)))) (⟨hr.big (by omega), by show (swpK l (m - i) m j).length = n; rw [swpK_len]; exact hl⟩)
    · refine SG.seq ?_
      refine SG.region ?_
      refine SL.val rfl rfl (fun w9 F9 S9 s => R.mv rfl) ?_
      refine SL.val rfl rfl (fun w9 F9 S9 s => R.mv rfl) ?_
      refine SL.val rfl rfl (fun w9 F9 S9 s => R.mv rfl) ?_
      refine SL.val rfl rfl (fun w9 F9 S9 s => R.subW rfl rfl ((m - i : Nat) : Int) (by rw [wrap_i64 (by omega)]; omega)) ?_
      refine SL.val rfl rfl (fun w9 F9 S9 s => R.mv rfl) ?_
      refine SL.val rfl rfl (fun w9 F9 S9 s => R.mv rfl) ?_
      refine SL.val rfl rfl (fun w9 F9 S9 s => R.add rfl rfl (by omega)) ?_
      refine SL.val rfl rfl (fun w9 F9 S9 s => R.mv rfl) ?_
      refine SL.val rfl rfl (fun w9 F9 S9 s => R.subW rfl rfl ((m + j - i : Nat) : Int) (by rw [wrap_i64 (by omega)]; omega)) ?_
      refine SL.val rfl rfl (fun w9 F9 S9 s => R.mv rfl) ?_
      refine SL.val rfl rfl (fun w9 F9 S9 s => R.mv rfl) ?_
      refine SL.step rfl rfl (CS.call rfl go100 (swr_ok a n c l (m - i) (m + j - i) i (by omega) (by omega) hn) (by repeat (first | exact Sels.nil | apply Sels.cons | exact Sel.keep | exact Sel.here | apply Sel.there))) ?_
      rintro _ _ ⟨_, ⟨rfl, rfl⟩, rfl⟩
      refine SL.n1 ?_
      refine SL.nil ?_
      refine SN.seq ?_
      refine SG.region ?_
      refine SL.val rfl rfl (fun w9 F9 S9 s => R.mv rfl) ?_
      refine SL.val rfl rfl (fun w9 F9 S9 s => R.mv rfl) ?_
      refine SL.val rfl rfl (fun w9 F9 S9 s => R.subW rfl rfl ((j - i : Nat) : Int) (by rw [wrap_i64 (by omega)]; omega)) ?_
      refine SL.val rfl rfl (fun w9 F9 S9 s => R.as rfl) ?_
      refine SL.nil ?_
      refine SN.block ?_
      exact SN.again ((i, j - i, swpK l (m - i) (m + j - i) i)) (by show i + (j - i) < i + j; omega) (Sub.cons rfl (Sub.cons rfl (Sub.cons rfl (Sub.cons rfl (Sub.cons rfl (Sub.cons rfl (Sub.cons rfl (Sub.nil _)))))))) ((Imp.sels (by repeat (first | exact Sels.nil | apply Sels.cons | exact Sel.keep | exact Sel.here | apply Sel.there)))) (⟨hr.small (by omega), by show (swpK l (m - i) (m + j - i) i).length = n; rw [swpK_len]; exact hl⟩)
  · refine SG.exit _ rfl ?_
    refine SN.seq ?_
    refine SG.region ?_
    refine SL.val rfl rfl (fun w9 F9 S9 s => R.mv rfl) ?_
    refine SL.val rfl rfl (fun w9 F9 S9 s => R.mv rfl) ?_
    refine SL.val rfl rfl (fun w9 F9 S9 s => R.mv rfl) ?_
    refine SL.val rfl rfl (fun w9 F9 S9 s => R.subW rfl rfl ((m - i : Nat) : Int) (by rw [wrap_i64 (by omega)]; omega)) ?_
    refine SL.val rfl rfl (fun w9 F9 S9 s => R.mv rfl) ?_
    refine SL.val rfl rfl (fun w9 F9 S9 s => R.mv rfl) ?_
    refine SL.val rfl rfl (fun w9 F9 S9 s => R.mv rfl) ?_
    refine SL.step rfl rfl (CS.call rfl go100 (swr_ok a n c l (m - i) m i (by omega) (by omega) hn) (by repeat (first | exact Sels.nil | apply Sels.cons | exact Sel.keep | exact Sel.here | apply Sel.there))) ?_
    rintro _ _ ⟨_, ⟨rfl, rfl⟩, rfl⟩
    refine SL.n1 ?_
    refine SL.nil ?_
    exact SN.end0 rfl ((show Imp _ _ by rw [hr.last (by omega)]; exact (Imp.sels (by repeat (first | exact Sels.nil | apply Sels.cons | exact Sel.keep | exact Sel.here | apply Sel.there))))) (⟨rfl, rfl⟩)

end Go.Proofs.YtlhkpakbenghgaaGreat
/-
  The walks of package stats.
-/
set_option linter.unusedVariables false
set_option linter.unusedSimpArgs false
set_option maxRecDepth 4000
namespace Go.Proofs.YtlhkpakbenghgaaGreat
open Go Brv Brv.Stats
set_option maxHeartbeats 1000000 in
theorem symT_ok (a : Option Addr) (n c : Nat) (l0 : List E3) (a0 m b0 : Nat) (hR : Runs l0 a0 m b0) (ham : a0 < m) (hmb : m < b0) (hbn : b0 ≤ n) (hn : n ≤ 1152921504606846976) (ih : ∀ (a1 m1 b1 : Nat) (l1 : List E3), b1 - a1 < b0 - a0 → Runs l1 a1 m1 b1 → a1 < m1 → m1 < b1 → b1 ≤ n → SpecS Tryz.prog 84 [.slice a n c, .int .i64 ((a1 : Nat) : Int), .int .i64 ((m1 : Nat) : Int), .int .i64 ((b1 : Nat) : Int), .func (.func 27) #[] #[]] [own 45 3 a n c (List.map cellB l1).flatten] (fun v H' => ∃ ys, v = .tuple #[] ∧ Part l1 ys a1 b1 ∧ H' = [own 45 3 a n c (List.map cellB ys).flatten])) : SpecS Tryz.prog 84 [.slice a n c, .int .i64 ((a0 : Nat) : Int), .int .i64 ((m : Nat) : Int), .int .i64 ((b0 : Nat) : Int), .func (.func 27) #[] #[]] [own 45 3 a n c (List.map cellB l0).flatten] (fun v H' => ∃ ys, v = .tuple #[] ∧ Part l0 ys a0 b0 ∧ H' = [own 45 3 a n c (List.map cellB ys).flatten]) := by
  refine SpecS.enter Tryz.func84 rfl 220 rfl (Nat.le_of_ble_eq_true rfl) (fun o => ?_)
  refine SG.fact (fun w9 F9 S9 s => s.ownL (show Sel _ (own 45 3 a n c (List.map cellB l0).flatten) _ from (by repeat (first | exact Sel.keep | exact Sel.here | apply Sel.there)))) (fun hf9 => ?_)
  obtain ⟨hll0, hnc⟩ := hf9
  rw [flat_len cellB_len] at hll0
  have hll : l0.length = n := by omega
  refine SG.fact (fun w9 F9 S9 s => s.ownG (show Sel _ (own 45 3 a n c (List.map cellB l0).flatten) _ from (by repeat (first | exact Sel.keep | exact Sel.here | apply Sel.there))) (by omega)) (fun hf9 => ?_)
  obtain ⟨g, rfl⟩ := hf9
  refine SG.seq ?_
  refine SG.seq ?_
  refine SG.region ?_
  refine SL.val rfl rfl (fun w9 F9 S9 s => R.mv rfl) ?_
  refine SL.val rfl rfl (fun w9 F9 S9 s => R.mv rfl) ?_
  refine SL.val rfl rfl (fun w9 F9 S9 s => R.sub' rfl rfl (by omega)) ?_
  refine SL.val rfl rfl (fun w9 F9 S9 s => R.eqI rfl rfl) ?_
  refine SL.nil ?_
  refine SN.seq ?_
  refine SG.condP rfl (fun h0 => ?_) (fun h0 => ?_)
  · have hm1 : m = a0 + 1 := by omega
    obtain ⟨x, hx⟩ : ∃ x, l0[a0]? = some x := ⟨_, List.getElem?_eq_getElem (by omega)⟩
    have hR1 := hR
    rw [hm1] at hR1
    refine SG.seq ?_
    refine SG.region ?_
    refine SL.val rfl rfl (fun w9 F9 S9 s => R.mv rfl) ?_
    refine SL.val rfl rfl (fun w9 F9 S9 s => R.as rfl) ?_
    refine SL.nil ?_
    refine SN.seq ?_
    refine SG.seq ?_
    refine SG.region ?_
    refine SL.val rfl rfl (fun w9 F9 S9 s => R.mv rfl) ?_
    refine SL.val rfl rfl (fun w9 F9 S9 s => R.as rfl) ?_
    refine SL.nil ?_
    refine SN.seq ?_
    refine SG.seq ?_
    refine SG.block ?_
    refine SG.loop (X := Nat × Nat) (fun y => [(0, .slice (some ⟨g, 0, none⟩) n c), (1, .int .i64 ((a0 : Nat) : Int)), (2, .int .i64 ((m : Nat) : Int)), (3, .int .i64 ((b0 : Nat) : Int)), (4, .func (.func 27) #[] #[]), (10, .int .i64 ((y.1 : Nat) : Int)), (11, .int .i64 ((y.2 : Nat) : Int))]) (fun y => [own 45 3 (some ⟨g, 0, none⟩) n c (List.map cellB l0).flatten]) (fun y => m ≤ y.1 ∧ y.1 ≤ y.2 ∧ y.2 ≤ b0 ∧ (y.1 = a0 + 1 ∨ ∃ z, l0[y.1 - 1]? = some z ∧ bf z x = true) ∧ (y.2 = b0 ∨ ∃ z, l0[y.2]? = some z ∧ bf z x = false)) (fun y => y.2 - y.1) ((m, b0)) (Sub.cons rfl (Sub.cons rfl (Sub.cons rfl (Sub.cons rfl (Sub.cons rfl (Sub.cons rfl (Sub.cons rfl (Sub.nil _)))))))) ((Imp.sels (by repeat (first | exact Sels.nil | apply Sels.cons | exact Sel.keep | exact Sel.here | apply Sel.there)))) (⟨Nat.le_refl _, by show m ≤ b0; omega, Nat.le_refl _, .inl hm1, .inl rfl⟩) ?_
    rintro ⟨i, j⟩ ⟨k1, k2, k3, k4, k5⟩
    dsimp only at k1 k2 k3 k4 k5
    show SG _ _ _ _ _ [(0, .slice (some ⟨g, 0, none⟩) n c), (1, .int .i64 ((a0 : Nat) : Int)), (2, .int .i64 ((m : Nat) : Int)), (3, .int .i64 ((b0 : Nat) : Int)), (4, .func (.func 27) #[] #[]), (10, .int .i64 ((i : Nat) : Int)), (11, .int .i64 ((j : Nat) : Int))] [own 45 3 (some ⟨g, 0, none⟩) n c (List.map cellB l0).flatten] _
    refine SG.seq ?_
    refine SG.seq ?_
    refine SG.region ?_
    refine SL.val rfl rfl (fun w9 F9 S9 s => R.mv rfl) ?_
    refine SL.val rfl rfl (fun w9 F9 S9 s => R.mv rfl) ?_
    refine SL.val rfl rfl (fun w9 F9 S9 s => R.lss rfl rfl) ?_
    refine SL.nil ?_
    refine SN.seq ?_
    refine SG.condP rfl (fun h1 => ?_) (fun h1 => ?_)
    · obtain ⟨q, hq⟩ : ∃ q, q = (i + j) / 2 := ⟨_, rfl⟩
      have q1 : i ≤ q := by omega
      have q2 : q < j := by omega
      obtain ⟨z, hz⟩ : ∃ x, l0[q]? = some x := ⟨_, List.getElem?_eq_getElem (by omega)⟩
      refine SG.skip ?_
      refine SN.seq ?_
      refine SG.block ?_
      refine SG.seq ?_
      refine SG.region ?_
      refine SL.val rfl rfl (fun w9 F9 S9 s => R.mv rfl) ?_
      refine SL.val rfl rfl (fun w9 F9 S9 s => R.mv rfl) ?_
      refine SL.val rfl rfl (fun w9 F9 S9 s => R.add rfl rfl (by omega)) ?_
      refine SL.val rfl rfl (fun w9 F9 S9 s => R.conv rfl ((i + j : Nat) : Int) (by rw [wrap_u64 (by omega)]; omega)) ?_
      refine SL.val rfl rfl (fun w9 F9 S9 s => R.shrW rfl rfl (by decide) (q : Int) (by rw [shr1]; omega)) ?_
      refine SL.val rfl rfl (fun w9 F9 S9 s => R.conv rfl (q : Int) (wrap_i64 (by omega))) ?_
      refine SL.val rfl rfl (fun w9 F9 S9 s => R.as rfl) ?_
      refine SL.nil ?_
      refine SN.seq ?_
      refine SG.seq ?_
      refine SG.draw [9] [0, 1, 2, 3, 4, 5, 6, 7, 8, 9, 10] (by decide +kernel) rfl ?_
      refine SW.pure rfl rfl rfl rfl (fun w9 => R.mv rfl) ?_
      refine SW.pure rfl rfl rfl rfl (fun w9 => R.mv rfl) ?_
      refine SW.pure rfl rfl rfl rfl (fun w9 => R.mv rfl) ?_
      refine SW.pure rfl rfl rfl rfl (fun w9 => R.idxO rfl rfl (by omega) (by omega) rfl (q * 3) (by omega)) ?_
      refine SW.read rfl rfl rfl rfl (fun w9 F9 S9 s => R.ldN (vs := cellB z) rfl (row_ld cellB_len (s.ownC (show Sel _ (own 45 3 (some ⟨g, 0, none⟩) n c (List.map cellB l0).flatten) _ from (by repeat (first | exact Sel.keep | exact Sel.here | apply Sel.there)))) hz) rfl) ?_
      refine SW.pure rfl rfl rfl rfl (fun w9 => R.mv rfl) ?_
      refine SW.pure rfl rfl rfl rfl (fun w9 => R.mv rfl) ?_
      refine SW.pure rfl rfl rfl rfl (fun w9 => R.idxO rfl rfl (by omega) (by omega) rfl (a0 * 3) (by omega)) ?_
      refine SW.read rfl rfl rfl rfl (fun w9 F9 S9 s => R.ldN (vs := cellB x) rfl (row_ld cellB_len (s.ownC (show Sel _ (own 45 3 (some ⟨g, 0, none⟩) n c (List.map cellB l0).flatten) _ from (by repeat (first | exact Sel.keep | exact Sel.here | apply Sel.there)))) hx) rfl) ?_
      refine SW.step rfl rfl rfl rfl (CS.callV rfl rfl rfl go27 (hot1_ok z x) (by repeat (first | exact Sels.nil | apply Sels.cons | exact Sel.keep | exact Sel.here | apply Sel.there))) ?_
      rintro _ _ ⟨_, ⟨rfl, rfl⟩, rfl⟩
      refine ⟨⟨.inl (by decide +kernel), ⟨.inl (by decide +kernel), trivial⟩⟩, ?_⟩
      refine SW.n0 ?_
      refine SW.pure rfl rfl rfl rfl (fun w9 => R.lss rfl rfl) ?_
      refine SW.nil ?_
      refine SN.seq ?_
      refine SG.condP rfl (fun h2 => ?_) (fun h2 => ?_)
      · refine SG.region ?_
        refine SL.val rfl rfl (fun w9 F9 S9 s => R.mv rfl) ?_
        refine SL.val rfl rfl (fun w9 F9 S9 s => R.add rfl rfl (by omega)) ?_
        refine SL.val rfl rfl (fun w9 F9 S9 s => R.as rfl) ?_
        refine SL.nil ?_
        refine SN.block ?_
        exact SN.again ((q + 1, j)) (by show j - (q + 1) < j - i; omega) (Sub.cons rfl (Sub.cons rfl (Sub.cons rfl (Sub.cons rfl (Sub.cons rfl (Sub.cons rfl (Sub.cons rfl (Sub.nil _)))))))) ((Imp.sels (by repeat (first | exact Sels.nil | apply Sels.cons | exact Sel.keep | exact Sel.here | apply Sel.there)))) (⟨by show m ≤ q + 1; omega, by show q + 1 ≤ j; omega, k3, .inr ⟨z, by show l0[q + 1 - 1]? = some z; rw [Nat.add_sub_cancel]; exact hz, bf_cmp.1 h2⟩, k5⟩)
      · refine SG.region ?_
        refine SL.val rfl rfl (fun w9 F9 S9 s => R.mv rfl) ?_
        refine SL.val rfl rfl (fun w9 F9 S9 s => R.as rfl) ?_
        refine SL.nil ?_
        refine SN.block ?_
        exact SN.again ((i, q)) (by show q - i < j - i; omega) (Sub.cons rfl (Sub.cons rfl (Sub.cons rfl (Sub.cons rfl (Sub.cons rfl (Sub.cons rfl (Sub.cons rfl (Sub.nil _)))))))) ((Imp.sels (by repeat (first | exact Sels.nil | apply Sels.cons | exact Sel.keep | exact Sel.here | apply Sel.there)))) (⟨k1, q1, by show q ≤ b0; omega, k4, .inr ⟨z, hz, Bool.eq_false_iff.2 fun e => h2 (bf_cmp.2 e)⟩⟩)
    · obtain rfl : i = j := by omega
      refine SG.exit _ rfl ?_
      refine SN.seq ?_
      refine SG.seq ?_
      refine SG.seq ?_
      refine SG.region ?_
      refine SL.val rfl rfl (fun w9 F9 S9 s => R.mv rfl) ?_
      refine SL.val rfl rfl (fun w9 F9 S9 s => R.as rfl) ?_
      refine SL.nil ?_
      refine SN.seq ?_
      refine SG.block ?_
      refine SG.loop (X := Nat) (fun t => [(0, .slice (some ⟨g, 0, none⟩) n c), (1, .int .i64 ((a0 : Nat) : Int)), (2, .int .i64 ((m : Nat) : Int)), (3, .int .i64 ((b0 : Nat) : Int)), (4, .func (.func 27) #[] #[]), (10, .int .i64 ((i : Nat) : Int)), (13, .int .i64 ((a0 + t : Nat) : Int))]) (fun t => [own 45 3 (some ⟨g, 0, none⟩) n c (List.map cellB (bubU l0 a0 t)).flatten]) (fun t => t ≤ i - 1 - a0) (fun t => i - 1 - a0 - t) (0) (Sub.cons rfl (Sub.cons rfl (Sub.cons rfl (Sub.cons rfl (Sub.cons rfl (Sub.cons rfl (Sub.cons rfl (Sub.nil _)))))))) ((Imp.sels (by repeat (first | exact Sels.nil | apply Sels.cons | exact Sel.keep | exact Sel.here | apply Sel.there)))) (Nat.zero_le _) ?_
      intro t ht
      have hul := bubU_len l0 a0 t
      show SG _ _ _ _ _ [(0, .slice (some ⟨g, 0, none⟩) n c), (1, .int .i64 ((a0 : Nat) : Int)), (2, .int .i64 ((m : Nat) : Int)), (3, .int .i64 ((b0 : Nat) : Int)), (4, .func (.func 27) #[] #[]), (10, .int .i64 ((i : Nat) : Int)), (13, .int .i64 ((a0 + t : Nat) : Int))] [own 45 3 (some ⟨g, 0, none⟩) n c (List.map cellB (bubU l0 a0 t)).flatten] _
      refine SG.seq ?_
      refine SG.seq ?_
      refine SG.region ?_
      refine SL.val rfl rfl (fun w9 F9 S9 s => R.mv rfl) ?_
      refine SL.val rfl rfl (fun w9 F9 S9 s => R.mv rfl) ?_
      refine SL.val rfl rfl (fun w9 F9 S9 s => R.sub' rfl rfl (by omega)) ?_
      refine SL.val rfl rfl (fun w9 F9 S9 s => R.lss rfl rfl) ?_
      refine SL.nil ?_
      refine SN.seq ?_
      refine SG.condP rfl (fun h3 => ?_) (fun h3 => ?_)
      · obtain ⟨x1, hx1⟩ : ∃ x, (bubU l0 a0 t)[a0 + t]? = some x := ⟨_, List.getElem?_eq_getElem (by omega)⟩
        obtain ⟨y1, hy1⟩ : ∃ x, (bubU l0 a0 t)[a0 + t + 1]? = some x := ⟨_, List.getElem?_eq_getElem (by omega)⟩
        refine SG.skip ?_
        refine SN.seq ?_
        refine SG.seq ?_
        refine SG.block ?_
        refine SG.draw [15, 17] [0, 1, 2, 3, 4, 5, 6, 7, 8, 9, 10, 11, 12, 13, 14, 15, 16, 17] (by decide +kernel) rfl ?_
        refine SW.pure rfl rfl rfl rfl (fun w9 => R.mv rfl) ?_
        refine SW.pure rfl rfl rfl rfl (fun w9 => R.mv rfl) ?_
        refine SW.pure rfl rfl rfl rfl (fun w9 => R.mv rfl) ?_
        refine SW.pure rfl rfl rfl rfl (fun w9 => R.mv rfl) ?_
        refine SW.pure rfl rfl rfl rfl (fun w9 => R.add rfl rfl (by omega)) ?_
        refine SW.pure rfl rfl rfl rfl (fun w9 => R.mv rfl) ?_
        refine SW.pure rfl rfl rfl rfl (fun w9 => R.mv rfl) ?_
        refine SW.pure rfl rfl rfl rfl (fun w9 => R.add rfl rfl (by omega)) ?_
        refine SW.pure rfl rfl rfl rfl (fun w9 => R.idxO rfl rfl (by omega) (by omega) rfl ((a0 + t + 1) * 3) (by omega)) ?_
        refine SW.read rfl rfl rfl rfl (fun w9 F9 S9 s => R.ldN (vs := cellB y1) rfl (row_ld cellB_len (s.ownC (show Sel _ (own 45 3 (some ⟨g, 0, none⟩) n c (List.map cellB (bubU l0 a0 t)).flatten) _ from (by repeat (first | exact Sel.keep | exact Sel.here | apply Sel.there)))) hy1) rfl) ?_
        refine SW.pure rfl rfl rfl rfl (fun w9 => R.mv rfl) ?_
        refine SW.pure rfl rfl rfl rfl (fun w9 => R.mv rfl) ?_
        refine SW.pure rfl rfl rfl rfl (fun w9 => R.idxO rfl rfl (by omega) (by omega) rfl ((a0 + t) * 3) (by omega)) ?_
        refine SW.read rfl rfl rfl rfl (fun w9 F9 S9 s => R.ldN (vs := cellB x1) rfl (row_ld cellB_len (s.ownC (show Sel _ (own 45 3 (some ⟨g, 0, none⟩) n c (List.map cellB (bubU l0 a0 t)).flatten) _ from (by repeat (first | exact Sel.keep | exact Sel.here | apply Sel.there)))) hx1) rfl) ?_
        refine SW.pure rfl rfl rfl rfl (fun w9 => R.idxO rfl rfl (by omega) (by omega) rfl ((a0 + t) * 3) (by omega)) ?_
        refine SW.step0 rfl rfl rfl (CS.stR (f := cellB) (v := y1) cellB_len cellB_one rfl rfl (show Sel _ (own 45 3 (some ⟨g, 0, none⟩) n c (List.map cellB (bubU l0 a0 t)).flatten) _ from (by repeat (first | exact Sel.keep | exact Sel.here | apply Sel.there))) (by omega) (by first | omega | (simp only [List.length_set]; omega))) ?_
        rintro _ _ rfl
        refine ⟨⟨.inl (by decide +kernel), ⟨.inl (by decide +kernel), trivial⟩⟩, ?_⟩
        refine SW.pure rfl rfl rfl rfl (fun w9 => R.idxO rfl rfl (by omega) (by omega) rfl ((a0 + t + 1) * 3) (by omega)) ?_
        refine SW.step0 rfl rfl rfl (CS.stR (f := cellB) (v := x1) cellB_len cellB_one rfl rfl (show Sel _ (own 45 3 (some ⟨g, 0, none⟩) n c (List.map cellB (List.set (bubU l0 a0 t) (a0 + t) y1)).flatten) _ from (by repeat (first | exact Sel.keep | exact Sel.here | apply Sel.there))) (by omega) (by first | omega | (simp only [List.length_set]; omega))) ?_
        rintro _ _ rfl
        refine ⟨⟨.inl (by decide +kernel), ⟨.inl (by decide +kernel), trivial⟩⟩, ?_⟩
        refine SW.nil ?_
        refine SN.block ?_
        refine SN.seq ?_
        refine SG.region ?_
        refine SL.val rfl rfl (fun w9 F9 S9 s => R.mv rfl) ?_
        refine SL.val rfl rfl (fun w9 F9 S9 s => R.add rfl rfl (by omega)) ?_
        refine SL.val rfl rfl (fun w9 F9 S9 s => R.as rfl) ?_
        refine SL.nil ?_
        exact SN.again (t + 1) (by show i - 1 - a0 - (t + 1) < i - 1 - a0 - t; omega) (Sub.cons rfl (Sub.cons rfl (Sub.cons rfl (Sub.cons rfl (Sub.cons rfl (Sub.cons rfl (Sub.cons rfl (Sub.nil _)))))))) ((show Imp _ _ by rw [show bubU l0 a0 (t + 1) = _ from swap2_at hx1 hy1]; exact (Imp.sels (by repeat (first | exact Sels.nil | apply Sels.cons | exact Sel.keep | exact Sel.here | apply Sel.there))))) (by show t + 1 ≤ i - 1 - a0; omega)
      · obtain rfl : t = i - 1 - a0 := by omega
        refine SG.exit _ rfl ?_
        refine SN.seq ?_
        exact SG.ret0 rfl ((Imp.sels (by repeat (first | exact Sels.nil | apply Sels.cons | exact Sel.keep | exact Sel.here | apply Sel.there)))) (⟨_, rfl, merge_up hR1 hx (by omega) (by omega) k4 k5, rfl⟩)
  · refine SG.skip ?_
    refine SN.seq ?_
    refine SG.seq ?_
    refine SG.seq ?_
    refine SG.region ?_
    refine SL.val rfl rfl (fun w9 F9 S9 s => R.mv rfl) ?_
    refine SL.val rfl rfl (fun w9 F9 S9 s => R.mv rfl) ?_
    refine SL.val rfl rfl (fun w9 F9 S9 s => R.sub' rfl rfl (by omega)) ?_
    refine SL.val rfl rfl (fun w9 F9 S9 s => R.eqI rfl rfl) ?_
    refine SL.nil ?_
    refine SN.seq ?_
    refine SG.condP rfl (fun h4 => ?_) (fun h4 => ?_)
    · have hm1 : b0 = m + 1 := by omega
      obtain ⟨y, hy⟩ : ∃ x, l0[m]? = some x := ⟨_, List.getElem?_eq_getElem (by omega)⟩
      have hR1 := hR
      rw [hm1] at hR1
      refine SG.seq ?_
      refine SG.region ?_
      refine SL.val rfl rfl (fun w9 F9 S9 s => R.mv rfl) ?_
      refine SL.val rfl rfl (fun w9 F9 S9 s => R.as rfl) ?_
      refine SL.nil ?_
      refine SN.seq ?_
      refine SG.seq ?_
      refine SG.region ?_
      refine SL.val rfl rfl (fun w9 F9 S9 s => R.mv rfl) ?_
      refine SL.val rfl rfl (fun w9 F9 S9 s => R.as rfl) ?_
      refine SL.nil ?_
      refine SN.seq ?_
      refine SG.seq ?_
      refine SG.block ?_
      refine SG.loop (X := Nat × Nat) (fun y9 => [(0, .slice (some ⟨g, 0, none⟩) n c), (1, .int .i64 ((a0 : Nat) : Int)), (2, .int .i64 ((m : Nat) : Int)), (3, .int .i64 ((b0 : Nat) : Int)), (4, .func (.func 27) #[] #[]), (14, .int .i64 ((y9.1 : Nat) : Int)), (15, .int .i64 ((y9.2 : Nat) : Int))]) (fun y9 => [own 45 3 (some ⟨g, 0, none⟩) n c (List.map cellB l0).flatten]) (fun y9 => a0 ≤ y9.1 ∧ y9.1 ≤ y9.2 ∧ y9.2 ≤ m ∧ (y9.1 = a0 ∨ ∃ z, l0[y9.1 - 1]? = some z ∧ bf y z = false) ∧ (y9.2 = m ∨ ∃ z, l0[y9.2]? = some z ∧ bf y z = true)) (fun y9 => y9.2 - y9.1) ((a0, m)) (Sub.cons rfl (Sub.cons rfl (Sub.cons rfl (Sub.cons rfl (Sub.cons rfl (Sub.cons rfl (Sub.cons rfl (Sub.nil _)))))))) ((Imp.sels (by repeat (first | exact Sels.nil | apply Sels.cons | exact Sel.keep | exact Sel.here | apply Sel.there)))) (⟨Nat.le_refl _, by show a0 ≤ m; omega, Nat.le_refl _, .inl rfl, .inl rfl⟩) ?_
      rintro ⟨i, j⟩ ⟨k1, k2, k3, k4, k5⟩
      dsimp only at k1 k2 k3 k4 k5
      show SG _ _ _ _ _ [(0, .slice (some ⟨g, 0, none⟩) n c), (1, .int .i64 ((a0 : Nat) : Int)), (2, .int .i64 ((m : Nat) : Int)), (3, .int .i64 ((b0 : Nat) : Int)), (4, .func (.func 27) #[] #[]), (14, .int .i64 ((i : Nat) : Int)), (15, .int .i64 ((j : Nat) : Int))] [own 45 3 (some ⟨g, 0, none⟩) n c (List.map cellB l0).flatten] _
      refine SG.seq ?_
      refine SG.seq ?_
      refine SG.region ?_
      refine SL.val rfl rfl (fun w9 F9 S9 s => R.mv rfl) ?_
      refine SL.val rfl rfl (fun w9 F9 S9 s => R.mv rfl) ?_
      refine SL.val rfl rfl (fun w9 F9 S9 s => R.lss rfl rfl) ?_
      refine SL.nil ?_
      refine SN.seq ?_
      refine SG.condP rfl (fun h5 => ?_) (fun h5 => ?_)
      · obtain ⟨q, hq⟩ : ∃ q, q = (i + j) / 2 := ⟨_, rfl⟩
        have q1 : i ≤ q := by omega
        have q2 : q < j := by omega
        obtain ⟨z, hz⟩ : ∃ x, l0[q]? = some x := ⟨_, List.getElem?_eq_getElem (by omega)⟩
        refine SG.skip ?_
        refine SN.seq ?_
        refine SG.block ?_
        refine SG.seq ?_
        refine SG.region ?_
        refine SL.val rfl rfl (fun w9 F9 S9 s => R.mv rfl) ?_
        refine SL.val rfl rfl (fun w9 F9 S9 s => R.mv rfl) ?_
        refine SL.val rfl rfl (fun w9 F9 S9 s => R.add rfl rfl (by omega)) ?_
        refine SL.val rfl rfl (fun w9 F9 S9 s => R.conv rfl ((i + j : Nat) : Int) (by rw [wrap_u64 (by omega)]; omega)) ?_
        refine SL.val rfl rfl (fun w9 F9 S9 s => R.shrW rfl rfl (by decide) (q : Int) (by rw [shr1]; omega)) ?_
        refine SL.val rfl rfl (fun w9 F9 S9 s => R.conv rfl (q : Int) (wrap_i64 (by omega))) ?_
        refine SL.val rfl rfl (fun w9 F9 S9 s => R.as rfl) ?_
        refine SL.nil ?_
        refine SN.seq ?_
        refine SG.seq ?_
        refine SG.draw [9] [0, 1, 2, 3, 4, 5, 6, 7, 8, 9, 10, 11] (by decide +kernel) rfl ?_
        refine SW.pure rfl rfl rfl rfl (fun w9 => R.mv rfl) ?_
        refine SW.pure rfl rfl rfl rfl (fun w9 => R.mv rfl) ?_
        refine SW.pure rfl rfl rfl rfl (fun w9 => R.mv rfl) ?_
        refine SW.pure rfl rfl rfl rfl (fun w9 => R.idxO rfl rfl (by omega) (by omega) rfl (m * 3) (by omega)) ?_
        refine SW.read rfl rfl rfl rfl (fun w9 F9 S9 s => R.ldN (vs := cellB y) rfl (row_ld cellB_len (s.ownC (show Sel _ (own 45 3 (some ⟨g, 0, none⟩) n c (List.map cellB l0).flatten) _ from (by repeat (first | exact Sel.keep | exact Sel.here | apply Sel.there)))) hy) rfl) ?_
        refine SW.pure rfl rfl rfl rfl (fun w9 => R.mv rfl) ?_
        refine SW.pure rfl rfl rfl rfl (fun w9 => R.mv rfl) ?_
        refine SW.pure rfl rfl rfl rfl (fun w9 => R.idxO rfl rfl (by omega) (by omega) rfl (q * 3) (by omega)) ?_
        refine SW.read rfl rfl rfl rfl (fun w9 F9 S9 s => R.ldN (vs := cellB z) rfl (row_ld cellB_len (s.ownC (show Sel _ (own 45 3 (some ⟨g, 0, none⟩) n c (List.map cellB l0).flatten) _ from (by repeat (first | exact Sel.keep | exact Sel.here | apply Sel.there)))) hz) rfl) ?_
        refine SW.step rfl rfl rfl rfl (CS.callV rfl rfl rfl go27 (hot1_ok y z) (by repeat (first | exact Sels.nil | apply Sels.cons | exact Sel.keep | exact Sel.here | apply Sel.there))) ?_
        rintro _ _ ⟨_, ⟨rfl, rfl⟩, rfl⟩
        refine ⟨⟨.inl (by decide +kernel), ⟨.inl (by decide +kernel), trivial⟩⟩, ?_⟩
        refine SW.n0 ?_
        refine SW.pure rfl rfl rfl rfl (fun w9 => R.lss rfl rfl) ?_
        refine SW.pure rfl rfl rfl rfl (fun w9 => R.not rfl) ?_
        refine SW.nil ?_
        refine SN.seq ?_
        refine SG.condB rfl (fun h6 => ?_) (fun h6 => ?_)
        · have hb6 : bf y z = false := Bool.eq_false_iff.2 fun e => by simp [bf_cmp.2 e] at h6
          refine SG.region ?_
          refine SL.val rfl rfl (fun w9 F9 S9 s => R.mv rfl) ?_
          refine SL.val rfl rfl (fun w9 F9 S9 s => R.add rfl rfl (by omega)) ?_
          refine SL.val rfl rfl (fun w9 F9 S9 s => R.as rfl) ?_
          refine SL.nil ?_
          refine SN.block ?_
          exact SN.again ((q + 1, j)) (by show j - (q + 1) < j - i; omega) (Sub.cons rfl (Sub.cons rfl (Sub.cons rfl (Sub.cons rfl (Sub.cons rfl (Sub.cons rfl (Sub.cons rfl (Sub.nil _)))))))) ((Imp.sels (by repeat (first | exact Sels.nil | apply Sels.cons | exact Sel.keep | exact Sel.here | apply Sel.there)))) (⟨by show a0 ≤ q + 1; omega, by show q + 1 ≤ j; omega, k3, .inr ⟨z, by show l0[q + 1 - 1]? = some z; rw [Nat.add_sub_cancel]; exact hz, hb6⟩, k5⟩)
        · have hb6 : bf y z = true := bf_cmp.1 (by simpa using h6)
          refine SG.region ?_
          refine SL.val rfl rfl (fun w9 F9 S9 s => R.mv rfl) ?_
          refine SL.val rfl rfl (fun w9 F9 S9 s => R.as rfl) ?_
          refine SL.nil ?_
          refine SN.block ?_
          exact SN.again ((i, q)) (by show q - i < j - i; omega) (Sub.cons rfl (Sub.cons rfl (Sub.cons rfl (Sub.cons rfl (Sub.cons rfl (Sub.cons rfl (Sub.cons rfl (Sub.nil _)))))))) ((Imp.sels (by repeat (first | exact Sels.nil | apply Sels.cons | exact Sel.keep | exact Sel.here | apply Sel.there)))) (⟨k1, q1, by show q ≤ m; omega, k4, .inr ⟨z, hz, hb6⟩⟩)
      · obtain rfl : i = j := by omega
        refine SG.exit _ rfl ?_
        refine SN.seq ?_
        refine SG.seq ?_
        refine SG.seq ?_
        refine SG.region ?_
        refine SL.val rfl rfl (fun w9 F9 S9 s => R.mv rfl) ?_
        refine SL.val rfl rfl (fun w9 F9 S9 s => R.as rfl) ?_
        refine SL.nil ?_
        refine SN.seq ?_
        refine SG.block ?_
        refine SG.loop (X := Nat) (fun t => [(0, .slice (some ⟨g, 0, none⟩) n c), (1, .int .i64 ((a0 : Nat) : Int)), (2, .int .i64 ((m : Nat) : Int)), (3, .int .i64 ((b0 : Nat) : Int)), (4, .func (.func 27) #[] #[]), (14, .int .i64 ((i : Nat) : Int)), (17, .int .i64 ((m - t : Nat) : Int))]) (fun t => [own 45 3 (some ⟨g, 0, none⟩) n c (List.map cellB (bubD l0 m t)).flatten]) (fun t => t ≤ m - i) (fun t => m - i - t) (0) (Sub.cons rfl (Sub.cons rfl (Sub.cons rfl (Sub.cons rfl (Sub.cons rfl (Sub.cons rfl (Sub.cons rfl (Sub.nil _)))))))) ((Imp.sels (by repeat (first | exact Sels.nil | apply Sels.cons | exact Sel.keep | exact Sel.here | apply Sel.there)))) (Nat.zero_le _) ?_
        intro t ht
        have hul := bubD_len l0 m t
        show SG _ _ _ _ _ [(0, .slice (some ⟨g, 0, none⟩) n c), (1, .int .i64 ((a0 : Nat) : Int)), (2, .int .i64 ((m : Nat) : Int)), (3, .int .i64 ((b0 : Nat) : Int)), (4, .func (.func 27) #[] #[]), (14, .int .i64 ((i : Nat) : Int)), (17, .int .i64 ((m - t : Nat) : Int))] [own 45 3 (some ⟨g, 0, none⟩) n c (List.map cellB (bubD l0 m t)).flatten] _
        refine SG.seq ?_
        refine SG.seq ?_
        refine SG.region ?_
        refine SL.val rfl rfl (fun w9 F9 S9 s => R.mv rfl) ?_
        refine SL.val rfl rfl (fun w9 F9 S9 s => R.mv rfl) ?_
        refine SL.val rfl rfl (fun w9 F9 S9 s => R.gtr rfl rfl) ?_
        refine SL.nil ?_
        refine SN.seq ?_
        refine SG.condP rfl (fun h7 => ?_) (fun h7 => ?_)
        · obtain ⟨x1, hx1⟩ : ∃ x, (bubD l0 m t)[m - t - 1]? = some x := ⟨_, List.getElem?_eq_getElem (by omega)⟩
          obtain ⟨y1, hy1⟩ : ∃ x, (bubD l0 m t)[m - t]? = some x := ⟨_, List.getElem?_eq_getElem (by omega)⟩
          refine SG.skip ?_
          refine SN.seq ?_
          refine SG.seq ?_
          refine SG.block ?_
          refine SG.draw [15, 17] [0, 1, 2, 3, 4, 5, 6, 7, 8, 9, 10, 11, 12, 13, 14, 15, 16, 17] (by decide +kernel) rfl ?_
          refine SW.pure rfl rfl rfl rfl (fun w9 => R.mv rfl) ?_
          refine SW.pure rfl rfl rfl rfl (fun w9 => R.mv rfl) ?_
          refine SW.pure rfl rfl rfl rfl (fun w9 => R.mv rfl) ?_
          refine SW.pure rfl rfl rfl rfl (fun w9 => R.mv rfl) ?_
          refine SW.pure rfl rfl rfl rfl (fun w9 => R.subW rfl rfl ((m - t - 1 : Nat) : Int) (by rw [wrap_i64 (by omega)]; omega)) ?_
          refine SW.pure rfl rfl rfl rfl (fun w9 => R.mv rfl) ?_
          refine SW.pure rfl rfl rfl rfl (fun w9 => R.mv rfl) ?_
          refine SW.pure rfl rfl rfl rfl (fun w9 => R.subW rfl rfl ((m - t - 1 : Nat) : Int) (by rw [wrap_i64 (by omega)]; omega)) ?_
          refine SW.pure rfl rfl rfl rfl (fun w9 => R.idxO rfl rfl (by omega) (by omega) rfl ((m - t - 1) * 3) (by omega)) ?_
          refine SW.read rfl rfl rfl rfl (fun w9 F9 S9 s => R.ldN (vs := cellB x1) rfl (row_ld cellB_len (s.ownC (show Sel _ (own 45 3 (some ⟨g, 0, none⟩) n c (List.map cellB (bubD l0 m t)).flatten) _ from (by repeat (first | exact Sel.keep | exact Sel.here | apply Sel.there)))) hx1) rfl) ?_
          refine SW.pure rfl rfl rfl rfl (fun w9 => R.mv rfl) ?_
          refine SW.pure rfl rfl rfl rfl (fun w9 => R.mv rfl) ?_
          refine SW.pure rfl rfl rfl rfl (fun w9 => R.idxO rfl rfl (by omega) (by omega) rfl ((m - t) * 3) (by omega)) ?_
          refine SW.read rfl rfl rfl rfl (fun w9 F9 S9 s => R.ldN (vs := cellB y1) rfl (row_ld cellB_len (s.ownC (show Sel _ (own 45 3 (some ⟨g, 0, none⟩) n c (List.map cellB (bubD l0 m t)).flatten) _ from (by repeat (first | exact Sel.keep | exact Sel.here | apply Sel.there)))) hy1) rfl) ?_
          refine SW.pure rfl rfl rfl rfl (fun w9 => R.idxO rfl rfl (by omega) (by omega) rfl ((m - t) * 3) (by omega)) ?_
          refine SW.step0 rfl rfl rfl (CS.stR (f := cellB) (v := x1) cellB_len cellB_one rfl rfl (show Sel _ (own 45 3 (some ⟨g, 0, none⟩) n c (List.map cellB (bubD l0 m t)).flatten) _ from (by repeat (first | exact Sel.keep | exact Sel.here | apply Sel.there))) (by omega) (by first | omega | (simp only [List.length_set]; omega))) ?_
          rintro _ _ rfl
          refine ⟨⟨.inl (by decide +kernel), ⟨.inl (by decide +kernel), trivial⟩⟩, ?_⟩
          refine SW.pure rfl rfl rfl rfl (fun w9 => R.idxO rfl rfl (by omega) (by omega) rfl ((m - t - 1) * 3) (by omega)) ?_
          refine SW.step0 rfl rfl rfl (CS.stR (f := cellB) (v := y1) cellB_len cellB_one rfl rfl (show Sel _ (own 45 3 (some ⟨g, 0, none⟩) n c (List.map cellB (List.set (bubD l0 m t) (m - t) x1)).flatten) _ from (by repeat (first | exact Sel.keep | exact Sel.here | apply Sel.there))) (by omega) (by first | omega | (simp only [List.length_set]; omega))) ?_
          rintro _ _ rfl
          refine ⟨⟨.inl (by decide +kernel), ⟨.inl (by decide +kernel), trivial⟩⟩, ?_⟩
          refine SW.nil ?_
          refine SN.block ?_
          refine SN.seq ?_
          refine SG.region ?_
          refine SL.val rfl rfl (fun w9 F9 S9 s => R.mv rfl) ?_
          refine SL.val rfl rfl (fun w9 F9 S9 s => R.subW rfl rfl ((m - (t + 1) : Nat) : Int) (by rw [wrap_i64 (by omega)]; omega)) ?_
          refine SL.val rfl rfl (fun w9 F9 S9 s => R.as rfl) ?_
          refine SL.nil ?_
          exact SN.again (t + 1) (by show m - i - (t + 1) < m - i - t; omega) (Sub.cons rfl (Sub.cons rfl (Sub.cons rfl (Sub.cons rfl (Sub.cons rfl (Sub.cons rfl (Sub.cons rfl (Sub.nil _)))))))) ((show Imp _ _ by rw [show bubD l0 m (t + 1) = _ from swap2_at hy1 hx1]; exact (Imp.sels (by repeat (first | exact Sels.nil | apply Sels.cons | exact Sel.keep | exact Sel.here | apply Sel.there))))) (by show t + 1 ≤ m - i; omega)
        · obtain rfl : t = m - i := by omega
          refine SG.exit _ rfl ?_
          refine SN.seq ?_
          exact SG.ret0 rfl ((Imp.sels (by repeat (first | exact Sels.nil | apply Sels.cons | exact Sel.keep | exact Sel.here | apply Sel.there)))) (⟨_, rfl, by rw [hm1]; exact merge_down hR1 hy (by omega) (by omega) k4 k5, rfl⟩)
    · obtain ⟨md, hmd⟩ : ∃ md, md = (a0 + b0) / 2 := ⟨_, rfl⟩
      refine SG.skip ?_
      refine SN.seq ?_
      refine SG.seq ?_
      refine SG.region ?_
      refine SL.val rfl rfl (fun w9 F9 S9 s => R.mv rfl) ?_
      refine SL.val rfl rfl (fun w9 F9 S9 s => R.mv rfl) ?_
      refine SL.val rfl rfl (fun w9 F9 S9 s => R.add rfl rfl (by omega)) ?_
      refine SL.val rfl rfl (fun w9 F9 S9 s => R.conv rfl ((a0 + b0 : Nat) : Int) (by rw [wrap_u64 (by omega)]; omega)) ?_
      refine SL.val rfl rfl (fun w9 F9 S9 s => R.shrW rfl rfl (by decide) (md : Int) (by rw [shr1]; omega)) ?_
      refine SL.val rfl rfl (fun w9 F9 S9 s => R.conv rfl (md : Int) (wrap_i64 (by omega))) ?_
      refine SL.val rfl rfl (fun w9 F9 S9 s => R.as rfl) ?_
      refine SL.nil ?_
      refine SN.seq ?_
      refine SG.seq ?_
      refine SG.region ?_
      refine SL.val rfl rfl (fun w9 F9 S9 s => R.mv rfl) ?_
      refine SL.val rfl rfl (fun w9 F9 S9 s => R.mv rfl) ?_
      refine SL.val rfl rfl (fun w9 F9 S9 s => R.addW rfl rfl ((md + m : Nat) : Int) (by rw [wrap_i64 (by omega)]; omega)) ?_
      refine SL.val rfl rfl (fun w9 F9 S9 s => R.as rfl) ?_
      refine SL.nil ?_
      refine SN.seq ?_
      refine SG.seq ?_
      refine SG.region ?_
      refine SL.val rfl rfl (fun w9 F9 S9 s => R.as rfl) ?_
      refine SL.val rfl rfl (fun w9 F9 S9 s => R.as rfl) ?_
      refine SL.nil ?_
      refine SN.seq ?_
      refine SG.seq ?_
      refine SG.seq ?_
      refine SG.region ?_
      refine SL.val rfl rfl (fun w9 F9 S9 s => R.mv rfl) ?_
      refine SL.val rfl rfl (fun w9 F9 S9 s => R.mv rfl) ?_
      refine SL.val rfl rfl (fun w9 F9 S9 s => R.gtr rfl rfl) ?_
      refine SL.nil ?_
      refine SN.seq ?_
      refine SG.cut (X := Nat × Nat) (fun y => [(0, .slice (some ⟨g, 0, none⟩) n c), (1, .int .i64 ((a0 : Nat) : Int)), (2, .int .i64 ((m : Nat) : Int)), (3, .int .i64 ((b0 : Nat) : Int)), (4, .func (.func 27) #[] #[]), (18, .int .i64 ((md : Nat) : Int)), (19, .int .i64 ((md + m : Nat) : Int)), (20, .int .i64 ((y.1 : Nat) : Int)), (21, .int .i64 ((y.2 : Nat) : Int))]) (fun y => [own 45 3 (some ⟨g, 0, none⟩) n c (List.map cellB l0).flatten]) (fun y => a0 ≤ y.1 ∧ y.1 ≤ y.2 ∧ y.2 ≤ m ∧ m ≤ md + m - y.2 ∧ md + m - y.1 ≤ b0 ∧ y.2 ≤ md + m ∧ (y.1 = a0 ∨ md + m - y.1 = b0) ∧ (y.2 = m ∨ md + m - y.2 = m)) ?_ ?_
      · refine SG.condP rfl (fun h8 => ?_) (fun h8 => ?_)
        · refine SG.seq ?_
          refine SG.region ?_
          refine SL.val rfl rfl (fun w9 F9 S9 s => R.mv rfl) ?_
          refine SL.val rfl rfl (fun w9 F9 S9 s => R.mv rfl) ?_
          refine SL.val rfl rfl (fun w9 F9 S9 s => R.subW rfl rfl ((md + m - b0 : Nat) : Int) (by rw [wrap_i64 (by omega)]; omega)) ?_
          refine SL.val rfl rfl (fun w9 F9 S9 s => R.as rfl) ?_
          refine SL.nil ?_
          refine SN.seq ?_
          refine SG.region ?_
          refine SL.val rfl rfl (fun w9 F9 S9 s => R.mv rfl) ?_
          refine SL.val rfl rfl (fun w9 F9 S9 s => R.as rfl) ?_
          refine SL.nil ?_
          exact SN.handX ((md + m - b0, md)) (Sub.cons rfl (Sub.cons rfl (Sub.cons rfl (Sub.cons rfl (Sub.cons rfl (Sub.cons rfl (Sub.cons rfl (Sub.cons rfl (Sub.cons rfl (Sub.nil _)))))))))) ((Imp.sels (by repeat (first | exact Sels.nil | apply Sels.cons | exact Sel.keep | exact Sel.here | apply Sel.there)))) ((by dsimp only; omega))
        · refine SG.seq ?_
          refine SG.region ?_
          refine SL.val rfl rfl (fun w9 F9 S9 s => R.mv rfl) ?_
          refine SL.val rfl rfl (fun w9 F9 S9 s => R.as rfl) ?_
          refine SL.nil ?_
          refine SN.seq ?_
          refine SG.region ?_
          refine SL.val rfl rfl (fun w9 F9 S9 s => R.mv rfl) ?_
          refine SL.val rfl rfl (fun w9 F9 S9 s => R.as rfl) ?_
          refine SL.nil ?_
          exact SN.handX ((a0, m)) (Sub.cons rfl (Sub.cons rfl (Sub.cons rfl (Sub.cons rfl (Sub.cons rfl (Sub.cons rfl (Sub.cons rfl (Sub.cons rfl (Sub.cons rfl (Sub.nil _)))))))))) ((Imp.sels (by repeat (first | exact Sels.nil | apply Sels.cons | exact Sel.keep | exact Sel.here | apply Sel.there)))) ((by dsimp only; omega))
      · rintro ⟨lo, hi⟩ hc
        show SN _ _ _ _ _ [(0, .slice (some ⟨g, 0, none⟩) n c), (1, .int .i64 ((a0 : Nat) : Int)), (2, .int .i64 ((m : Nat) : Int)), (3, .int .i64 ((b0 : Nat) : Int)), (4, .func (.func 27) #[] #[]), (18, .int .i64 ((md : Nat) : Int)), (19, .int .i64 ((md + m : Nat) : Int)), (20, .int .i64 ((lo : Nat) : Int)), (21, .int .i64 ((hi : Nat) : Int))] [own 45 3 (some ⟨g, 0, none⟩) n c (List.map cellB l0).flatten]
        dsimp only at hc
        refine SN.seq ?_
        refine SG.seq ?_
        refine SG.region ?_
        refine SL.val rfl rfl (fun w9 F9 S9 s => R.mv rfl) ?_
        refine SL.val rfl rfl (fun w9 F9 S9 s => R.subW rfl rfl ((md + m - 1 : Nat) : Int) (by rw [wrap_i64 (by omega)]; omega)) ?_
        refine SL.val rfl rfl (fun w9 F9 S9 s => R.as rfl) ?_
        refine SL.nil ?_
        refine SN.seq ?_
        refine SG.seq ?_
        refine SG.block ?_
        refine SG.loop (X := Nat × Nat) (fun y => [(0, .slice (some ⟨g, 0, none⟩) n c), (1, .int .i64 ((a0 : Nat) : Int)), (2, .int .i64 ((m : Nat) : Int)), (3, .int .i64 ((b0 : Nat) : Int)), (4, .func (.func 27) #[] #[]), (18, .int .i64 ((md : Nat) : Int)), (19, .int .i64 ((md + m : Nat) : Int)), (20, .int .i64 ((y.1 : Nat) : Int)), (21, .int .i64 ((y.2 : Nat) : Int)), (22, .int .i64 ((md + m - 1 : Nat) : Int))]) (fun y => [own 45 3 (some ⟨g, 0, none⟩) n c (List.map cellB l0).flatten]) (fun y => lo ≤ y.1 ∧ y.1 ≤ y.2 ∧ y.2 ≤ hi ∧ (y.1 = lo ∨ ∃ z u, l0[y.1 - 1]? = some z ∧ l0[md + m - y.1]? = some u ∧ bf u z = false) ∧ (y.2 = hi ∨ ∃ z u, l0[y.2]? = some z ∧ l0[md + m - 1 - y.2]? = some u ∧ bf u z = true)) (fun y => y.2 - y.1) ((lo, hi)) (Sub.cons rfl (Sub.cons rfl (Sub.cons rfl (Sub.cons rfl (Sub.cons rfl (Sub.cons rfl (Sub.cons rfl (Sub.cons rfl (Sub.cons rfl (Sub.cons rfl (Sub.nil _))))))))))) ((Imp.sels (by repeat (first | exact Sels.nil | apply Sels.cons | exact Sel.keep | exact Sel.here | apply Sel.there)))) (⟨Nat.le_refl _, by show lo ≤ hi; omega, Nat.le_refl _, .inl rfl, .inl rfl⟩) ?_
        rintro ⟨i, j⟩ ⟨k1, k2, k3, k4, k5⟩
        dsimp only at k1 k2 k3 k4 k5
        show SG _ _ _ _ _ [(0, .slice (some ⟨g, 0, none⟩) n c), (1, .int .i64 ((a0 : Nat) : Int)), (2, .int .i64 ((m : Nat) : Int)), (3, .int .i64 ((b0 : Nat) : Int)), (4, .func (.func 27) #[] #[]), (18, .int .i64 ((md : Nat) : Int)), (19, .int .i64 ((md + m : Nat) : Int)), (20, .int .i64 ((i : Nat) : Int)), (21, .int .i64 ((j : Nat) : Int)), (22, .int .i64 ((md + m - 1 : Nat) : Int))] [own 45 3 (some ⟨g, 0, none⟩) n c (List.map cellB l0).flatten] _
        refine SG.seq ?_
        refine SG.seq ?_
        refine SG.region ?_
        refine SL.val rfl rfl (fun w9 F9 S9 s => R.mv rfl) ?_
        refine SL.val rfl rfl (fun w9 F9 S9 s => R.mv rfl) ?_
        refine SL.val rfl rfl (fun w9 F9 S9 s => R.lss rfl rfl) ?_
        refine SL.nil ?_
        refine SN.seq ?_
        refine SG.condP rfl (fun h9 => ?_) (fun h9 => ?_)
        · obtain ⟨q, hq⟩ : ∃ q, q = (i + j) / 2 := ⟨_, rfl⟩
          have q1 : i ≤ q := by omega
          have q2 : q < j := by omega
          obtain ⟨z, hz⟩ : ∃ x, l0[q]? = some x := ⟨_, List.getElem?_eq_getElem (by omega)⟩
          obtain ⟨u, hu⟩ : ∃ x, l0[md + m - 1 - q]? = some x := ⟨_, List.getElem?_eq_getElem (by omega)⟩
          refine SG.skip ?_
          refine SN.seq ?_
          refine SG.block ?_
          refine SG.seq ?_
          refine SG.region ?_
          refine SL.val rfl rfl (fun w9 F9 S9 s => R.mv rfl) ?_
          refine SL.val rfl rfl (fun w9 F9 S9 s => R.mv rfl) ?_
          refine SL.val rfl rfl (fun w9 F9 S9 s => R.add rfl rfl (by omega)) ?_
          refine SL.val rfl rfl (fun w9 F9 S9 s => R.conv rfl ((i + j : Nat) : Int) (by rw [wrap_u64 (by omega)]; omega)) ?_
          refine SL.val rfl rfl (fun w9 F9 S9 s => R.shrW rfl rfl (by decide) (q : Int) (by rw [shr1]; omega)) ?_
          refine SL.val rfl rfl (fun w9 F9 S9 s => R.conv rfl (q : Int) (wrap_i64 (by omega))) ?_
          refine SL.val rfl rfl (fun w9 F9 S9 s => R.as rfl) ?_
          refine SL.nil ?_
          refine SN.seq ?_
          refine SG.seq ?_
          refine SG.draw [11] [0, 1, 2, 3, 4, 5, 6, 7, 8, 9, 10, 11, 12, 13] (by decide +kernel) rfl ?_
          refine SW.pure rfl rfl rfl rfl (fun w9 => R.mv rfl) ?_
          refine SW.pure rfl rfl rfl rfl (fun w9 => R.mv rfl) ?_
          refine SW.pure rfl rfl rfl rfl (fun w9 => R.mv rfl) ?_
          refine SW.pure rfl rfl rfl rfl (fun w9 => R.mv rfl) ?_
          refine SW.pure rfl rfl rfl rfl (fun w9 => R.subW rfl rfl ((md + m - 1 - q : Nat) : Int) (by rw [wrap_i64 (by omega)]; omega)) ?_
          refine SW.pure rfl rfl rfl rfl (fun w9 => R.idxO rfl rfl (by omega) (by omega) rfl ((md + m - 1 - q) * 3) (by omega)) ?_
          refine SW.read rfl rfl rfl rfl (fun w9 F9 S9 s => R.ldN (vs := cellB u) rfl (row_ld cellB_len (s.ownC (show Sel _ (own 45 3 (some ⟨g, 0, none⟩) n c (List.map cellB l0).flatten) _ from (by repeat (first | exact Sel.keep | exact Sel.here | apply Sel.there)))) hu) rfl) ?_
          refine SW.pure rfl rfl rfl rfl (fun w9 => R.mv rfl) ?_
          refine SW.pure rfl rfl rfl rfl (fun w9 => R.mv rfl) ?_
          refine SW.pure rfl rfl rfl rfl (fun w9 => R.idxO rfl rfl (by omega) (by omega) rfl (q * 3) (by omega)) ?_
          refine SW.read rfl rfl rfl rfl (fun w9 F9 S9 s => R.ldN (vs := cellB z) rfl (row_ld cellB_len (s.ownC (show Sel _ (own 45 3 (some ⟨g, 0, none⟩) n c (List.map cellB l0).flatten) _ from (by repeat (first | exact Sel.keep | exact Sel.here | apply Sel.there)))) hz) rfl) ?_
          refine SW.step rfl rfl rfl rfl (CS.callV rfl rfl rfl go27 (hot1_ok u z) (by repeat (first | exact Sels.nil | apply Sels.cons | exact Sel.keep | exact Sel.here | apply Sel.there))) ?_
          rintro _ _ ⟨_, ⟨rfl, rfl⟩, rfl⟩
          refine ⟨⟨.inl (by decide +kernel), ⟨.inl (by decide +kernel), trivial⟩⟩, ?_⟩
          refine SW.n0 ?_
          refine SW.pure rfl rfl rfl rfl (fun w9 => R.lss rfl rfl) ?_
          refine SW.pure rfl rfl rfl rfl (fun w9 => R.not rfl) ?_
          refine SW.nil ?_
          refine SN.seq ?_
          refine SG.condB rfl (fun h10 => ?_) (fun h10 => ?_)
          · have hb10 : bf u z = false := Bool.eq_false_iff.2 fun e => by simp [bf_cmp.2 e] at h10
            refine SG.region ?_
            refine SL.val rfl rfl (fun w9 F9 S9 s => R.mv rfl) ?_
            refine SL.val rfl rfl (fun w9 F9 S9 s => R.add rfl rfl (by omega)) ?_
            refine SL.val rfl rfl (fun w9 F9 S9 s => R.as rfl) ?_
            refine SL.nil ?_
            refine SN.block ?_
            exact SN.again ((q + 1, j)) (by show j - (q + 1) < j - i; omega) (Sub.cons rfl (Sub.cons rfl (Sub.cons rfl (Sub.cons rfl (Sub.cons rfl (Sub.cons rfl (Sub.cons rfl (Sub.cons rfl (Sub.cons rfl (Sub.cons rfl (Sub.nil _))))))))))) ((Imp.sels (by repeat (first | exact Sels.nil | apply Sels.cons | exact Sel.keep | exact Sel.here | apply Sel.there)))) (⟨by show lo ≤ q + 1; omega, by show q + 1 ≤ j; omega, k3, .inr ⟨z, u, by show l0[q + 1 - 1]? = some z; rw [Nat.add_sub_cancel]; exact hz, by show l0[md + m - (q + 1)]? = some u; rw [show md + m - (q + 1) = md + m - 1 - q by omega]; exact hu, hb10⟩, k5⟩)
          · have hb10 : bf u z = true := bf_cmp.1 (by simpa using h10)
            refine SG.region ?_
            refine SL.val rfl rfl (fun w9 F9 S9 s => R.mv rfl) ?_
            refine SL.val rfl rfl (fun w9 F9 S9 s => R.as rfl) ?_
            refine SL.nil ?_
            refine SN.block ?_
            exact SN.again ((i, q)) (by show q - i < j - i; omega) (Sub.cons rfl (Sub.cons rfl (Sub.cons rfl (Sub.cons rfl (Sub.cons rfl (Sub.cons rfl (Sub.cons rfl (Sub.cons rfl (Sub.cons rfl (Sub.cons rfl (Sub.nil _))))))))))) ((Imp.sels (by repeat (first | exact Sels.nil | apply Sels.cons | exact Sel.keep | exact Sel.here | apply Sel.there)))) (⟨k1, q1, by show q ≤ hi; omega, k4, .inr ⟨z, u, hz, hu, hb10⟩⟩)
        · obtain rfl : i = j := by omega
          have hcut : Cutd l0 a0 m b0 i (md + m - i) := runs_cut hR (by omega) (by omega) (by omega) (by omega) (by
            rcases k4 with e | ⟨z, u, e1, e2, e3⟩
            · subst e; omega
            · exact .inr (.inr ⟨z, u, e1, e2, e3⟩)) (by
            rcases k5 with e | ⟨z, u, e1, e2, e3⟩
            · subst e; omega
            · exact .inr (.inr ⟨z, u, e1, by rw [show md + m - i - 1 = md + m - 1 - i by omega]; exact e2, e3⟩))
          refine SG.exit _ rfl ?_
          refine SN.seq ?_
          refine SG.seq ?_
          refine SG.region ?_
          refine SL.val rfl rfl (fun w9 F9 S9 s => R.mv rfl) ?_
          refine SL.val rfl rfl (fun w9 F9 S9 s => R.mv rfl) ?_
          refine SL.val rfl rfl (fun w9 F9 S9 s => R.subW rfl rfl ((md + m - i : Nat) : Int) (by rw [wrap_i64 (by omega)]; omega)) ?_
          refine SL.val rfl rfl (fun w9 F9 S9 s => R.as rfl) ?_
          refine SL.nil ?_
          refine SN.seq ?_
          refine SG.seq ?_
          refine SG.seq ?_
          refine SG.cut (X := Bool) (fun w => [(0, .slice (some ⟨g, 0, none⟩) n c), (1, .int .i64 ((a0 : Nat) : Int)), (2, .int .i64 ((m : Nat) : Int)), (3, .int .i64 ((b0 : Nat) : Int)), (4, .func (.func 27) #[] #[]), (18, .int .i64 ((md : Nat) : Int)), (20, .int .i64 ((i : Nat) : Int)), (24, .int .i64 ((md + m - i : Nat) : Int)), (185, .bool w)]) (fun w => [own 45 3 (some ⟨g, 0, none⟩) n c (List.map cellB l0).flatten]) (fun w => (w = true → i < m ∧ m < (md + m - i)) ∧ (w = false → ¬ (i < m ∧ m < (md + m - i)))) ?_ ?_
          · refine SG.region ?_
            refine SL.val rfl rfl (fun w9 F9 S9 s => R.mv rfl) ?_
            refine SL.val rfl rfl (fun w9 F9 S9 s => R.mv rfl) ?_
            refine SL.val rfl rfl (fun w9 F9 S9 s => R.lss rfl rfl) ?_
            refine SL.val rfl rfl (fun w9 F9 S9 s => R.mv rfl) ?_
            refine SL.caseP 181 rfl (fun hg39_3 => ?_) (fun hg39_3 => ?_)
            · refine SL.val rfl rfl (fun w9 F9 S9 s => R.mv rfl) ?_
              refine SL.val rfl rfl (fun w9 F9 S9 s => R.mv rfl) ?_
              refine SL.val rfl rfl (fun w9 F9 S9 s => R.lss rfl rfl) ?_
              first | refine SL.val rfl rfl (fun w9 F9 S9 s => R.pickT rfl rfl) ?_ | refine SL.val rfl rfl (fun w9 F9 S9 s => R.pickF rfl rfl) ?_
              refine SL.nil ?_
              exact SN.handX (decide (((m : Nat) : Int) < (((md + m - i) : Nat) : Int))) (Sub.cons rfl (Sub.cons rfl (Sub.cons rfl (Sub.cons rfl (Sub.cons rfl (Sub.cons rfl (Sub.cons rfl (Sub.cons rfl (Sub.cons rfl (Sub.nil _)))))))))) ((Imp.sels (by repeat (first | exact Sels.nil | apply Sels.cons | exact Sel.keep | exact Sel.here | apply Sel.there)))) (⟨fun e => ⟨by omega, by have := of_decide_eq_true e; omega⟩, fun e => by have := of_decide_eq_false e; omega⟩)
            · refine SL.pass rfl rfl ?_
              refine SL.pass rfl rfl ?_
              refine SL.pass rfl rfl ?_
              first | refine SL.val rfl rfl (fun w9 F9 S9 s => R.pickT rfl rfl) ?_ | refine SL.val rfl rfl (fun w9 F9 S9 s => R.pickF rfl rfl) ?_
              refine SL.nil ?_
              exact SN.handX (false) (Sub.cons rfl (Sub.cons rfl (Sub.cons rfl (Sub.cons rfl (Sub.cons rfl (Sub.cons rfl (Sub.cons rfl (Sub.cons rfl (Sub.cons rfl (Sub.nil _)))))))))) ((Imp.sels (by repeat (first | exact Sels.nil | apply Sels.cons | exact Sel.keep | exact Sel.here | apply Sel.there)))) (⟨by simp, fun _ => by omega⟩)
          · rintro w ⟨w1, w2⟩
            show SN _ _ _ _ _ [(0, .slice (some ⟨g, 0, none⟩) n c), (1, .int .i64 ((a0 : Nat) : Int)), (2, .int .i64 ((m : Nat) : Int)), (3, .int .i64 ((b0 : Nat) : Int)), (4, .func (.func 27) #[] #[]), (18, .int .i64 ((md : Nat) : Int)), (20, .int .i64 ((i : Nat) : Int)), (24, .int .i64 ((md + m - i : Nat) : Int)), (185, .bool w)] [own 45 3 (some ⟨g, 0, none⟩) n c (List.map cellB l0).flatten]
            refine SN.seq ?_
            refine SG.cut (X := List E3) (fun l1 => [(0, .slice (some ⟨g, 0, none⟩) n c), (1, .int .i64 ((a0 : Nat) : Int)), (2, .int .i64 ((m : Nat) : Int)), (3, .int .i64 ((b0 : Nat) : Int)), (4, .func (.func 27) #[] #[]), (18, .int .i64 ((md : Nat) : Int)), (20, .int .i64 ((i : Nat) : Int)), (24, .int .i64 ((md + m - i : Nat) : Int))]) (fun l1 => [own 45 3 (some ⟨g, 0, none⟩) n c (List.map cellB l1).flatten]) (fun l1 => l1.length = n ∧ Turn l0 l1 a0 md b0 i (md + m - i)) ?_ ?_
            · refine SG.condB rfl (fun h11 => ?_) (fun h11 => ?_)
              · obtain ⟨w3, w4⟩ := w1 h11
                obtain ⟨l1, hrt, htn⟩ := hcut.rot (mid := md) w3 w4 (by omega)
                have hgl := hrt.len
                refine SG.region ?_
                refine SL.val rfl rfl (fun w9 F9 S9 s => R.mv rfl) ?_
                refine SL.val rfl rfl (fun w9 F9 S9 s => R.mv rfl) ?_
                refine SL.val rfl rfl (fun w9 F9 S9 s => R.mv rfl) ?_
                refine SL.val rfl rfl (fun w9 F9 S9 s => R.mv rfl) ?_
                refine SL.val rfl rfl (fun w9 F9 S9 s => R.mv rfl) ?_
                refine SL.step rfl rfl (CS.call rfl go96 (rot_ok (some ⟨g, 0, none⟩) n c l0 l1 i m (md + m - i) hrt w3 w4 (by omega) hn) (by repeat (first | exact Sels.nil | apply Sels.cons | exact Sel.keep | exact Sel.here | apply Sel.there))) ?_
                rintro _ _ ⟨_, ⟨rfl, rfl⟩, rfl⟩
                refine SL.n1 ?_
                refine SL.nil ?_
                exact SN.handX (l1) (Sub.cons rfl (Sub.cons rfl (Sub.cons rfl (Sub.cons rfl (Sub.cons rfl (Sub.cons rfl (Sub.cons rfl (Sub.cons rfl (Sub.nil _))))))))) ((Imp.sels (by repeat (first | exact Sels.nil | apply Sels.cons | exact Sel.keep | exact Sel.here | apply Sel.there)))) (⟨by omega, htn⟩)
              · have w5 := w2 (by simpa using h11)
                refine SG.skip ?_
                exact SN.handX (l0) (Sub.cons rfl (Sub.cons rfl (Sub.cons rfl (Sub.cons rfl (Sub.cons rfl (Sub.cons rfl (Sub.cons rfl (Sub.cons rfl (Sub.nil _))))))))) ((Imp.sels (by repeat (first | exact Sels.nil | apply Sels.cons | exact Sel.keep | exact Sel.here | apply Sel.there)))) (⟨by omega, hcut.none (by omega) (by omega)⟩)
            · rintro l1 ⟨hl1, htn⟩
              show SN _ _ _ _ _ [(0, .slice (some ⟨g, 0, none⟩) n c), (1, .int .i64 ((a0 : Nat) : Int)), (2, .int .i64 ((m : Nat) : Int)), (3, .int .i64 ((b0 : Nat) : Int)), (4, .func (.func 27) #[] #[]), (18, .int .i64 ((md : Nat) : Int)), (20, .int .i64 ((i : Nat) : Int)), (24, .int .i64 ((md + m - i : Nat) : Int))] [own 45 3 (some ⟨g, 0, none⟩) n c (List.map cellB l1).flatten]
              refine SN.seq ?_
              refine SG.seq ?_
              refine SG.seq ?_
              refine SG.cut (X := Bool) (fun w => [(0, .slice (some ⟨g, 0, none⟩) n c), (1, .int .i64 ((a0 : Nat) : Int)), (2, .int .i64 ((m : Nat) : Int)), (3, .int .i64 ((b0 : Nat) : Int)), (4, .func (.func 27) #[] #[]), (18, .int .i64 ((md : Nat) : Int)), (20, .int .i64 ((i : Nat) : Int)), (24, .int .i64 ((md + m - i : Nat) : Int)), (199, .bool w)]) (fun w => [own 45 3 (some ⟨g, 0, none⟩) n c (List.map cellB l1).flatten]) (fun w => (w = true → a0 < i ∧ i < md) ∧ (w = false → ¬ (a0 < i ∧ i < md))) ?_ ?_
              · refine SG.region ?_
                refine SL.val rfl rfl (fun w9 F9 S9 s => R.mv rfl) ?_
                refine SL.val rfl rfl (fun w9 F9 S9 s => R.mv rfl) ?_
                refine SL.val rfl rfl (fun w9 F9 S9 s => R.lss rfl rfl) ?_
                refine SL.val rfl rfl (fun w9 F9 S9 s => R.mv rfl) ?_
                refine SL.caseP 195 rfl (fun hg41_3 => ?_) (fun hg41_3 => ?_)
                · refine SL.val rfl rfl (fun w9 F9 S9 s => R.mv rfl) ?_
                  refine SL.val rfl rfl (fun w9 F9 S9 s => R.mv rfl) ?_
                  refine SL.val rfl rfl (fun w9 F9 S9 s => R.lss rfl rfl) ?_
                  first | refine SL.val rfl rfl (fun w9 F9 S9 s => R.pickT rfl rfl) ?_ | refine SL.val rfl rfl (fun w9 F9 S9 s => R.pickF rfl rfl) ?_
                  refine SL.nil ?_
                  exact SN.handX (decide (((i : Nat) : Int) < ((md : Nat) : Int))) (Sub.cons rfl (Sub.cons rfl (Sub.cons rfl (Sub.cons rfl (Sub.cons rfl (Sub.cons rfl (Sub.cons rfl (Sub.cons rfl (Sub.cons rfl (Sub.nil _)))))))))) ((Imp.sels (by repeat (first | exact Sels.nil | apply Sels.cons | exact Sel.keep | exact Sel.here | apply Sel.there)))) (⟨fun e => ⟨by omega, by have := of_decide_eq_true e; omega⟩, fun e => by have := of_decide_eq_false e; omega⟩)
                · refine SL.pass rfl rfl ?_
                  refine SL.pass rfl rfl ?_
                  refine SL.pass rfl rfl ?_
                  first | refine SL.val rfl rfl (fun w9 F9 S9 s => R.pickT rfl rfl) ?_ | refine SL.val rfl rfl (fun w9 F9 S9 s => R.pickF rfl rfl) ?_
                  refine SL.nil ?_
                  exact SN.handX (false) (Sub.cons rfl (Sub.cons rfl (Sub.cons rfl (Sub.cons rfl (Sub.cons rfl (Sub.cons rfl (Sub.cons rfl (Sub.cons rfl (Sub.cons rfl (Sub.nil _)))))))))) ((Imp.sels (by repeat (first | exact Sels.nil | apply Sels.cons | exact Sel.keep | exact Sel.here | apply Sel.there)))) (⟨by simp, fun _ => by omega⟩)
              · rintro w ⟨w1, w2⟩
                show SN _ _ _ _ _ [(0, .slice (some ⟨g, 0, none⟩) n c), (1, .int .i64 ((a0 : Nat) : Int)), (2, .int .i64 ((m : Nat) : Int)), (3, .int .i64 ((b0 : Nat) : Int)), (4, .func (.func 27) #[] #[]), (18, .int .i64 ((md : Nat) : Int)), (20, .int .i64 ((i : Nat) : Int)), (24, .int .i64 ((md + m - i : Nat) : Int)), (199, .bool w)] [own 45 3 (some ⟨g, 0, none⟩) n c (List.map cellB l1).flatten]
                refine SN.seq ?_
                refine SG.cut (X := List E3) (fun l2 => [(0, .slice (some ⟨g, 0, none⟩) n c), (1, .int .i64 ((a0 : Nat) : Int)), (2, .int .i64 ((m : Nat) : Int)), (3, .int .i64 ((b0 : Nat) : Int)), (4, .func (.func 27) #[] #[]), (18, .int .i64 ((md : Nat) : Int)), (20, .int .i64 ((i : Nat) : Int)), (24, .int .i64 ((md + m - i : Nat) : Int))]) (fun l2 => [own 45 3 (some ⟨g, 0, none⟩) n c (List.map cellB l2).flatten]) (fun l2 => l2.length = n ∧ Half l0 l2 a0 md b0 i (md + m - i)) ?_ ?_
                · refine SG.condB rfl (fun h12 => ?_) (fun h12 => ?_)
                  · obtain ⟨w3, w4⟩ := w1 h12
                    refine SG.region ?_
                    refine SL.val rfl rfl (fun w9 F9 S9 s => R.mv rfl) ?_
                    refine SL.val rfl rfl (fun w9 F9 S9 s => R.mv rfl) ?_
                    refine SL.val rfl rfl (fun w9 F9 S9 s => R.mv rfl) ?_
                    refine SL.val rfl rfl (fun w9 F9 S9 s => R.mv rfl) ?_
                    refine SL.val rfl rfl (fun w9 F9 S9 s => R.mv rfl) ?_
                    refine SL.step rfl rfl (CS.call rfl go84 (ih a0 i md l1 (by omega) htn.runs w3 w4 (by omega)) (by repeat (first | exact Sels.nil | apply Sels.cons | exact Sel.keep | exact Sel.here | apply Sel.there))) ?_
                    rintro _ _ ⟨_, ⟨ys, rfl, hp, rfl, rfl⟩, rfl⟩
                    refine SL.n1 ?_
                    refine SL.nil ?_
                    exact SN.handX (ys) (Sub.cons rfl (Sub.cons rfl (Sub.cons rfl (Sub.cons rfl (Sub.cons rfl (Sub.cons rfl (Sub.cons rfl (Sub.cons rfl (Sub.nil _))))))))) ((Imp.sels (by repeat (first | exact Sels.nil | apply Sels.cons | exact Sel.keep | exact Sel.here | apply Sel.there)))) (⟨by have := hp.len; omega, htn.half hp⟩)
                  · have w5 := w2 (by simpa using h12)
                    refine SG.skip ?_
                    exact SN.handX (l1) (Sub.cons rfl (Sub.cons rfl (Sub.cons rfl (Sub.cons rfl (Sub.cons rfl (Sub.cons rfl (Sub.cons rfl (Sub.cons rfl (Sub.nil _))))))))) ((Imp.sels (by repeat (first | exact Sels.nil | apply Sels.cons | exact Sel.keep | exact Sel.here | apply Sel.there)))) (⟨hl1, htn.half0 (by omega)⟩)
                · rintro l2 ⟨hl2, hha⟩
                  show SN _ _ _ _ _ [(0, .slice (some ⟨g, 0, none⟩) n c), (1, .int .i64 ((a0 : Nat) : Int)), (2, .int .i64 ((m : Nat) : Int)), (3, .int .i64 ((b0 : Nat) : Int)), (4, .func (.func 27) #[] #[]), (18, .int .i64 ((md : Nat) : Int)), (20, .int .i64 ((i : Nat) : Int)), (24, .int .i64 ((md + m - i : Nat) : Int))] [own 45 3 (some ⟨g, 0, none⟩) n c (List.map cellB l2).flatten]
                  refine SN.seq ?_
                  refine SG.seq ?_
                  refine SG.cut (X := Bool) (fun w => [(0, .slice (some ⟨g, 0, none⟩) n c), (1, .int .i64 ((a0 : Nat) : Int)), (2, .int .i64 ((m : Nat) : Int)), (3, .int .i64 ((b0 : Nat) : Int)), (4, .func (.func 27) #[] #[]), (18, .int .i64 ((md : Nat) : Int)), (20, .int .i64 ((i : Nat) : Int)), (24, .int .i64 ((md + m - i : Nat) : Int)), (213, .bool w)]) (fun w => [own 45 3 (some ⟨g, 0, none⟩) n c (List.map cellB l2).flatten]) (fun w => (w = true → md < (md + m - i) ∧ (md + m - i) < b0) ∧ (w = false → ¬ (md < (md + m - i) ∧ (md + m - i) < b0))) ?_ ?_
                  · refine SG.region ?_
                    refine SL.val rfl rfl (fun w9 F9 S9 s => R.mv rfl) ?_
                    refine SL.val rfl rfl (fun w9 F9 S9 s => R.mv rfl) ?_
                    refine SL.val rfl rfl (fun w9 F9 S9 s => R.lss rfl rfl) ?_
                    refine SL.val rfl rfl (fun w9 F9 S9 s => R.mv rfl) ?_
                    refine SL.caseP 209 rfl (fun hg43_3 => ?_) (fun hg43_3 => ?_)
                    · refine SL.val rfl rfl (fun w9 F9 S9 s => R.mv rfl) ?_
                      refine SL.val rfl rfl (fun w9 F9 S9 s => R.mv rfl) ?_
                      refine SL.val rfl rfl (fun w9 F9 S9 s => R.lss rfl rfl) ?_
                      first | refine SL.val rfl rfl (fun w9 F9 S9 s => R.pickT rfl rfl) ?_ | refine SL.val rfl rfl (fun w9 F9 S9 s => R.pickF rfl rfl) ?_
                      refine SL.nil ?_
                      exact SN.handX (decide ((((md + m - i) : Nat) : Int) < ((b0 : Nat) : Int))) (Sub.cons rfl (Sub.cons rfl (Sub.cons rfl (Sub.cons rfl (Sub.cons rfl (Sub.cons rfl (Sub.cons rfl (Sub.cons rfl (Sub.cons rfl (Sub.nil _)))))))))) ((Imp.sels (by repeat (first | exact Sels.nil | apply Sels.cons | exact Sel.keep | exact Sel.here | apply Sel.there)))) (⟨fun e => ⟨by omega, by have := of_decide_eq_true e; omega⟩, fun e => by have := of_decide_eq_false e; omega⟩)
                    · refine SL.pass rfl rfl ?_
                      refine SL.pass rfl rfl ?_
                      refine SL.pass rfl rfl ?_
                      first | refine SL.val rfl rfl (fun w9 F9 S9 s => R.pickT rfl rfl) ?_ | refine SL.val rfl rfl (fun w9 F9 S9 s => R.pickF rfl rfl) ?_
                      refine SL.nil ?_
                      exact SN.handX (false) (Sub.cons rfl (Sub.cons rfl (Sub.cons rfl (Sub.cons rfl (Sub.cons rfl (Sub.cons rfl (Sub.cons rfl (Sub.cons rfl (Sub.cons rfl (Sub.nil _)))))))))) ((Imp.sels (by repeat (first | exact Sels.nil | apply Sels.cons | exact Sel.keep | exact Sel.here | apply Sel.there)))) (⟨by simp, fun _ => by omega⟩)
                  · rintro w ⟨w1, w2⟩
                    show SN _ _ _ _ _ [(0, .slice (some ⟨g, 0, none⟩) n c), (1, .int .i64 ((a0 : Nat) : Int)), (2, .int .i64 ((m : Nat) : Int)), (3, .int .i64 ((b0 : Nat) : Int)), (4, .func (.func 27) #[] #[]), (18, .int .i64 ((md : Nat) : Int)), (20, .int .i64 ((i : Nat) : Int)), (24, .int .i64 ((md + m - i : Nat) : Int)), (213, .bool w)] [own 45 3 (some ⟨g, 0, none⟩) n c (List.map cellB l2).flatten]
                    refine SN.seq ?_
                    refine SG.condB rfl (fun h13 => ?_) (fun h13 => ?_)
                    · obtain ⟨w3, w4⟩ := w1 h13
                      refine SG.region ?_
                      refine SL.val rfl rfl (fun w9 F9 S9 s => R.mv rfl) ?_
                      refine SL.val rfl rfl (fun w9 F9 S9 s => R.mv rfl) ?_
                      refine SL.val rfl rfl (fun w9 F9 S9 s => R.mv rfl) ?_
                      refine SL.val rfl rfl (fun w9 F9 S9 s => R.mv rfl) ?_
                      refine SL.val rfl rfl (fun w9 F9 S9 s => R.mv rfl) ?_
                      refine SL.step rfl rfl (CS.call rfl go84 (ih md (md + m - i) b0 l2 (by omega) hha.runs w3 w4 (by omega)) (by repeat (first | exact Sels.nil | apply Sels.cons | exact Sel.keep | exact Sel.here | apply Sel.there))) ?_
                      rintro _ _ ⟨_, ⟨ys, rfl, hp, rfl, rfl⟩, rfl⟩
                      refine SL.n1 ?_
                      refine SL.nil ?_
                      exact SN.end0 rfl ((Imp.sels (by repeat (first | exact Sels.nil | apply Sels.cons | exact Sel.keep | exact Sel.here | apply Sel.there)))) (⟨_, rfl, hha.end hp, rfl⟩)
                    · have w5 := w2 (by simpa using h13)
                      refine SG.skip ?_
                      exact SN.end0 rfl ((Imp.sels (by repeat (first | exact Sels.nil | apply Sels.cons | exact Sel.keep | exact Sel.here | apply Sel.there)))) (⟨_, rfl, hha.end0 (by omega), rfl⟩)

theorem sym_ok (a : Option Addr) (n c : Nat) (hn : n ≤ 1152921504606846976) : ∀ (k : Nat) (l0 : List E3) (a0 m b0 : Nat), b0 - a0 ≤ k → Runs l0 a0 m b0 → a0 < m → m < b0 → b0 ≤ n → SpecS Tryz.prog 84 [.slice a n c, .int .i64 ((a0 : Nat) : Int), .int .i64 ((m : Nat) : Int), .int .i64 ((b0 : Nat) : Int), .func (.func 27) #[] #[]] [own 45 3 a n c (List.map cellB l0).flatten] (fun v H' => ∃ ys, v = .tuple #[] ∧ Part l0 ys a0 b0 ∧ H' = [own 45 3 a n c (List.map cellB ys).flatten]) := by
  intro k
  induction k with
  | zero => intro l0 a0 m b0 h1 h2 h3 h4 h5; omega
  | succ k ih =>
    intro l0 a0 m b0 h1 h2 h3 h4 h5
    exact symT_ok a n c l0 a0 m b0 h2 h3 h4 h5 hn fun a1 m1 b1 l1 q1 q2 q3 q4 q5 => ih l1 a1 m1 b1 (by omega) q2 q3 q4 q5

end Go.Proofs.YtlhkpakbenghgaaGreat
