/-
  The walks of package frame: Spread, Gather.
-/
import Derived.Test.YtjmlcodlnohgdaaFrame4
import Derived.Test.YtjmlcodlnohgdaaFrame5
set_option linter.unusedVariables false
set_option linter.unusedSimpArgs false
namespace Go.Proofs.Ytjmlcodlnohgdaa
open Go Brv Brv.Crc Brv.Pack Brv.Frame
def gI (lsn : Int) (sec : Nat → List UInt8) (Nn b4 b5 b6 b7 b22 : Nat) (M : List Nat) (w0 : World) (k : Nat) (D : List Nat) (W : World) : Prop :=
  ∃ f1 q1 f3 k1 fa fn fc ab nb cb body MB, D = b4 :: b5 :: b6 :: b22 :: MB ∧ Blk W b4 #[.slice none 0 0] 28 (0, 0) ∧ Blk W b5 #[.int .i64 0] 3 (0, 0) ∧ Blk W b6 #[.int .i64 0] 25 (0, 0) ∧ Blk W b7 #[.pointer (some ⟨b22, 0, none⟩)] 154 (0, 0) ∧ Blk W b22 (gC lsn (k : Int) f1 q1 f3 k1 fa fn fc ab nb cb) 156 (0, 0) ∧
    Own W 5 1 ab nb cb (vbs body) MB ∧ (∀ g ∈ MB, w0.heap.size ≤ g ∧ g ≠ b4 ∧ g ≠ b5 ∧ g ≠ b6 ∧ g ≠ b7 ∧ g ≠ b22) ∧ (body.length ≤ 40 * k ∧ k ≤ Nn) ∧ gathN lsn sec (Nn - k) k q1 k1 body = gathN lsn sec Nn 0 0 0 [] ∧ Ext M w0 W
def gX (R : Nat × List UInt8 × Int × Int) (b4 b5 b6 : Nat) (M : List Nat) (w0 : World) (c : Code) (k : Nat) (D : List Nat) (W : World) : Prop :=
  c = .ret ∧ R.1 = k ∧ ∃ a c', Blk W b4 #[.slice a R.2.1.length c'] 28 (0, 0) ∧ Blk W b5 #[.int .i64 R.2.2.1] 3 (0, 0) ∧ Blk W b6 #[.int .i64 R.2.2.2] 25 (0, 0) ∧ Bs W a R.2.1.length R.2.1 ∧ R.2.1.length ≤ c' ∧ (∀ p, a = some p → p.block ∈ D) ∧ (b4 ∈ D ∧ b5 ∈ D ∧ b6 ∈ D) ∧ Ext M w0 W
theorem gI_keep {lsn : Int} {sec : Nat → List UInt8} {Nn b4 b5 b6 b7 b22 : Nat} {M : List Nat} {w0 : World} {k s : Nat} {D M' : List Nat} {W W' : World} (h7 : b7 < s ∧ b7 ∉ M) (hs : w0.heap.size ≤ s) (h : gI lsn sec Nn b4 b5 b6 b7 b22 M w0 k D W) (he : Ext M' W W') (hm : ∀ g ∈ M', g ∉ D ∧ (g ∈ M ∨ s ≤ g)) : gI lsn sec Nn b4 b5 b6 b7 b22 M w0 k D W' := by
  obtain ⟨f1, q1, f3, k1, fa, fn, fc, ab, nb, cb, body, MB, rfl, B4, B5, B6, B7, B22, o, hMB, hk, hg, E⟩ := h
  have n4 : b4 ∉ M' := fun h => (hm _ h).1 (by simp)
  have n5 : b5 ∉ M' := fun h => (hm _ h).1 (by simp)
  have n6 : b6 ∉ M' := fun h => (hm _ h).1 (by simp)
  have n22 : b22 ∉ M' := fun h => (hm _ h).1 (by simp)
  have n7 : b7 ∉ M' := fun h => (hm _ h).2.elim h7.2 (by omega)
  exact ⟨f1, q1, f3, k1, fa, fn, fc, ab, nb, cb, body, MB, rfl, B4.ext he n4, B5.ext he n5, B6.ext he n6, B7.ext he n7, B22.ext he n22, o.ext he (fun g hg h => (hm g h).1 (by simp [hg])), hMB, hk, hg, E.transN he (fun g hg => (hm g hg).2.imp id (Nat.le_trans hs))⟩
theorem gX_keep {R : Nat × List UInt8 × Int × Int} {b4 b5 b6 : Nat} {M : List Nat} {w0 : World} {c : Code} {k s : Nat} {D M' : List Nat} {W W' : World} (hs : w0.heap.size ≤ s) (h : gX R b4 b5 b6 M w0 c k D W) (he : Ext M' W W') (hm : ∀ g ∈ M', g ∉ D ∧ (g ∈ M ∨ s ≤ g)) : gX R b4 b5 b6 M w0 c k D W' := by
  obtain ⟨h1, h2, a, c', B4, B5, B6, hb, hc, ha, ⟨d4, d5, d6⟩, E⟩ := h
  exact ⟨h1, h2, a, c', B4.ext he (fun h => (hm _ h).1 d4), B5.ext he (fun h => (hm _ h).1 d5), B6.ext he (fun h => (hm _ h).1 d6), hb.ext he (fun p hp h => (hm _ h).1 (ha p hp)), hc, ha, ⟨d4, d5, d6⟩, E.transN he (fun g hg => (hm g hg).2.imp id (Nat.le_trans hs))⟩

theorem gather_ok (lsn : Int) (gf : FuncId) (lb : List Value) (Nn : Nat) (sec : Nat → List UInt8) (Sx : Nat → World → Prop) (Fp M : List Nat) (w : World) (hlsn : 0 ≤ lsn ∧ lsn ≤ 4611686018427387903) (eg : ∀ (vs : Array Value) w, (callFunc gf vs).run Try.prog w = .ok (.enter gf vs) w) (hit : ∀ w', Ext [] w w' → Iter Try.prog gf lb w' Nn (secE sec) Sx Fp M) (hS : ∀ k W W', Sx k W → Still W W' → Sx k W') (hS2 : ∀ k W W' M', Sx k W → Ext M' W W' → (∀ g ∈ M', g ∉ M) → Sx k W') (hFM : ∀ x, x ∈ Fp ∨ x ∈ M → x < w.heap.size) (hNn : Nn ≤ 70000) (hsec : ∀ k, (sec k).length ≤ 64) : Meets Try.prog 69 [.int .i64 lsn, .func (.func gf) #[] lb.toArray] w (fun v w' => ∃ a c, v = .tuple #[.slice a (gathN lsn sec Nn 0 0 0 []).2.1.length c, .int .i64 (gathN lsn sec Nn 0 0 0 []).2.2.1, .int .i64 (gathN lsn sec Nn 0 0 0 []).2.2.2] ∧ Ext M w w' ∧ Bs w' a (gathN lsn sec Nn 0 0 0 []).2.1.length (gathN lsn sec Nn 0 0 0 []).2.1 ∧ (gathN lsn sec Nn 0 0 0 []).2.1.length ≤ c ∧ Sx (gathN lsn sec Nn 0 0 0 []).1 w') := by
  refine Meets.enter Try.func69 rfl 49 rfl (Nat.le_of_ble_eq_true rfl) ?_
  have E := Ext.refl [] w
  obtain ⟨res, hR⟩ : ∃ res, res = (gathN lsn sec Nn 0 0 0 []) := ⟨_, rfl⟩
  rw [← hR]
  refine G.seq ?_
  refine G.region ?_
  refine L.do rfl rfl (R.alloc) ?_
  rintro _ w1 ⟨b4, rfl, hb4, hs1, e1, B4⟩
  replace B4 : Blk w1 b4 #[.slice none 0 0] 28 (0, 0) := B4
  replace E := E.trans0 e1
  refine L.do rfl rfl (R.alloc) ?_
  rintro _ w2 ⟨b5, rfl, hb5, hs2, e2, B5⟩
  replace B5 : Blk w2 b5 #[.int .i64 0] 3 (0, 0) := B5
  replace B4 := B4.ext0 e2
  replace E := E.trans0 e2
  refine L.do rfl rfl (R.alloc) ?_
  rintro _ w3 ⟨b6, rfl, hb6, hs3, e3, B6⟩
  replace B6 : Blk w3 b6 #[.int .i64 0] 25 (0, 0) := B6
  replace B4 := B4.ext0 e3
  replace B5 := B5.ext0 e3
  replace E := E.trans0 e3
  refine L.nil ?_
  refine N.seq ?_
  refine G.seq ?_
  refine G.seq ?_
  refine G.region ?_
  refine L.val rfl rfl (R.mv rfl) ?_
  refine L.val rfl rfl (R.lss rfl rfl) ?_
  refine L.val rfl rfl (R.mv rfl) ?_
  refine L.isF 12 rfl (decide_eq_false (by omega)) ?_
  refine L.val rfl rfl (R.mv rfl) ?_
  refine L.val rfl rfl (R.gtr rfl rfl) ?_
  first | refine L.val rfl rfl (R.pickT rfl rfl) ?_ | refine L.val rfl rfl (R.pickF rfl rfl) ?_
  refine L.val rfl rfl (R.mv rfl) ?_
  refine L.isF 16 rfl (decide_eq_false (by omega)) ?_
  refine L.val rfl rfl (R.mv rfl) ?_
  refine L.val rfl rfl (R.eqNilF Try.underlying128 rfl rfl) ?_
  first | refine L.val rfl rfl (R.pickT rfl rfl) ?_ | refine L.val rfl rfl (R.pickF rfl rfl) ?_
  refine L.nil ?_
  refine N.seq ?_
  refine G.condF rfl ?_
  refine G.skip ?_
  refine N.seq ?_
  refine G.seq ?_
  refine G.region ?_
  refine L.val rfl rfl (R.mv rfl) ?_
  refine L.val rfl rfl (R.build (cs := (gC lsn 0 0 0 0 0 none 0 0 none 0 0)) rfl rfl) ?_
  refine L.do rfl rfl (R.box rfl) ?_
  rintro _ w4 ⟨b22, rfl, hb22, hs22, e4, B22⟩
  replace B22 : Blk w4 b22 (gC lsn 0 0 0 0 0 none 0 0 none 0 0) 156 (0, 0) := B22
  replace B4 := B4.ext0 e4
  replace B5 := B5.ext0 e4
  replace B6 := B6.ext0 e4
  replace E := E.trans0 e4
  refine L.do rfl rfl (R.alloc) ?_
  rintro _ w5 ⟨b7, rfl, hb7, hs7, e5, B7⟩
  replace B4 := B4.ext0 e5
  replace B5 := B5.ext0 e5
  replace B6 := B6.ext0 e5
  replace B22 := B22.ext0 e5
  replace E := E.trans0 e5
  refine L.set rfl (R.st rfl rfl B7 (by show 0 < 1; decide) rfl) ?_
  rintro w6 ⟨e6, hs6, B7⟩
  replace B7 : Blk w6 b7 #[.pointer (some ⟨b22, 0, none⟩)] 154 (0, 0) := B7
  replace B4 := B4.ext e6 (by simp; omega)
  replace B5 := B5.ext e6 (by simp; omega)
  replace B6 := B6.ext e6 (by simp; omega)
  replace B22 := B22.ext e6 (by simp; omega)
  replace E := E.trans e6 (M := []) (by simp) (by intro x hx; rw [List.mem_singleton.1 hx]; exact .inr (by omega))
  refine L.nil ?_
  refine N.seq ?_
  refine G.seq ?_
  refine G.seq ?_
  refine G.region ?_
  refine L.val rfl rfl (R.mv rfl) ?_
  refine L.nil ?_
  refine N.seq ?_
  refine G.block ?_
  have hD0 : ∀ x ∈ [b4, b5, b6, b22], x < w6.heap.size ∧ x ∉ Fp ∧ x ∉ M := by
    intro x hx
    simp only [List.mem_cons, List.not_mem_nil, or_false] at hx
    have h1 := hFM x
    exact ⟨by omega, fun h => by have := h1 (.inl h); omega, fun h => by have := h1 (.inr h); omega⟩
  have h7M : b7 < w6.heap.size ∧ b7 ∉ M := ⟨by omega, fun h => by have := hFM _ (.inr h); omega⟩
  have hE6 := E.size
  have hI0 : gI lsn sec Nn b4 b5 b6 b7 b22 M w 0 [b4, b5, b6, b22] w6 := ⟨0, 0, 0, 0, none, 0, 0, none, 0, 0, [], [], rfl, B4, B5, B6, B7, B22, Own.nil _ _ _, by simp, ⟨by simp, Nat.zero_le _⟩, by rw [Nat.sub_zero], E.mono (by simp)⟩
  refine G.range (lb := lb) rfl rfl eg (hit _ E) hS [b4, b5, b6, b22] hD0 (fun x h => Nat.lt_of_lt_of_le (hFM x h) hE6) (gI lsn sec Nn b4 b5 b6 b7 b22 M w) (gX res b4 b5 b6 M w) (fun k D W1 W2 M2 h he hm => gI_keep h7M hE6 h he hm) (fun c k D W1 W2 M2 h he hm => gX_keep hE6 h he hm) hI0 ?_ ?_ ?_
  · rintro l k D vs W1 hl hlt hlD hDl hk hIk ⟨a, c, rfl, hac, hb⟩
    refine ⟨rfl, ?_⟩
    refine G.sub [(24, .slice a (sec k).length c), (4, .pointer (some ⟨b4, 0, none⟩)), (5, .pointer (some ⟨b5, 0, none⟩)), (6, .pointer (some ⟨b6, 0, none⟩)), (7, .pointer (some ⟨b7, 0, none⟩))] (Sub.cons rfl (Sub.cons rfl (Sub.cons rfl (Sub.cons rfl (Sub.cons rfl (Sub.nil _)))))) ?_
    refine G.region ?_
    refine L.val rfl rfl (R.as rfl) ?_
    refine L.nil ?_
    refine N.round (Ext.refl _ _) (fun wb hb1 hb2 => ?_)
    obtain ⟨f1, q1, f3, k1, fa, fn, fc, ab, nb, cb, body, MB, rfl, B4, B5, B6, B7, B22, o, hMB, ⟨hbl, hkN⟩, hgath, E⟩ := hIk
    replace hb := hb.still hb2
    replace B4 := B4.still hb2
    replace B5 := B5.still hb2
    replace B6 := B6.still hb2
    replace B7 := B7.still hb2
    replace B22 := B22.still hb2
    replace o := o.still hb2
    replace E := E.transN hb1 (fun g hg => .inr (by rw [List.mem_singleton.1 hg]; omega))
    have d4 : b4 ∉ b22 :: MB := by intro h; rcases List.mem_cons.1 h with h | h; omega; exact (hMB _ h).2.1 rfl
    have d5 : b5 ∉ b22 :: MB := by intro h; rcases List.mem_cons.1 h with h | h; omega; exact (hMB _ h).2.2.1 rfl
    have d6 : b6 ∉ b22 :: MB := by intro h; rcases List.mem_cons.1 h with h | h; omega; exact (hMB _ h).2.2.2.1 rfl
    have d7 : b7 ∉ b22 :: MB := by intro h; rcases List.mem_cons.1 h with h | h; omega; exact (hMB _ h).2.2.2.2.1 rfl
    have hEb := E.size
    have l4 := B4.lt
    have l5 := B5.lt
    have l6 := B6.lt
    have l22 := B22.lt
    have l7 := B7.lt
    have hsk := hsec k
    refine G.block ?_
    refine G.seq ?_
    refine G.seq ?_
    refine G.region ?_
    refine L.val rfl rfl (R.ldB rfl B7 rfl) ?_
    refine L.val rfl rfl (R.mv rfl) ?_
    refine L.callF rfl rfl rfl go108 (take_g_ok b22 lsn k f1 q1 f3 k1 fa fn fc ab nb cb body MB a _ c (sec k) wb B22 o (fun h => (hMB _ h).2.2.2.2.2 rfl) hb hac (by omega) hlsn (by omega) (by omega)) ?_
    rintro _ w7 ⟨rfl, eT, hT⟩
    replace B4 := B4.ext eT d4
    replace B5 := B5.ext eT d5
    replace B6 := B6.ext eT d6
    replace B7 := B7.ext eT d7
    replace E := E.transN eT (fun g hg => .inr ((List.mem_cons.1 hg).elim (fun h => by omega) (fun h => (hMB g h).1)))
    have X : Ext (b4 :: b5 :: b6 :: b22 :: MB) wb w7 := eT.mono (fun g hg => .inl (by rcases List.mem_cons.1 hg with h | h <;> simp [h]))
    have hT7 := eT.size
    refine L.val rfl rfl (R.as rfl) ?_
    refine L.nil ?_
    refine N.seq ?_
    refine G.seq ?_
    refine G.region ?_
    refine L.val rfl rfl (R.mv rfl) ?_
    refine L.val rfl rfl (R.neI rfl rfl) ?_
    refine L.nil ?_
    refine N.seq ?_
    refine G.condP rfl (fun h1 => ?_) (fun h1 => ?_)
    · have hRv : res = (k + 1, [], 0, takeE lsn k q1 k1 (sec k)) := by rw [hR, ← hgath, show Nn - k = (Nn - k - 1) + 1 by omega, gathN_err h1]
      refine G.seq ?_
      refine G.region ?_
      refine L.val rfl rfl (R.mv rfl) ?_
      refine L.set rfl (R.st rfl rfl B4 (by show 0 < 1; decide) rfl) ?_
      rintro w11 ⟨e11, hs11, B4⟩
      replace B4 : Blk w11 b4 #[.slice none 0 0] 28 (0, 0) := B4
      replace B5 := B5.ext e11 (by simp; omega)
      replace B6 := B6.ext e11 (by simp; omega)
      replace E := E.transN e11 (by intro g hg; rw [List.mem_singleton.1 hg]; exact .inr (by omega))
      replace X := X.transN e11 (fun g hg => .inl (by simp at hg ⊢; omega))
      refine L.set rfl (R.st rfl rfl B5 (by show 0 < 1; decide) rfl) ?_
      rintro w12 ⟨e12, hs12, B5⟩
      replace B5 : Blk w12 b5 #[.int .i64 0] 3 (0, 0) := B5
      replace B4 := B4.ext e12 (by simp; omega)
      replace B6 := B6.ext e12 (by simp; omega)
      replace E := E.transN e12 (by intro g hg; rw [List.mem_singleton.1 hg]; exact .inr (by omega))
      replace X := X.transN e12 (fun g hg => .inl (by simp at hg ⊢; omega))
      refine L.set rfl (R.st rfl rfl B6 (by show 0 < 1; decide) rfl) ?_
      rintro w13 ⟨e13, hs13, B6⟩
      replace B6 : Blk w13 b6 #[.int .i64 (takeE lsn k q1 k1 (sec k))] 25 (0, 0) := B6
      replace B4 := B4.ext e13 (by simp; omega)
      replace B5 := B5.ext e13 (by simp; omega)
      replace E := E.transN e13 (by intro g hg; rw [List.mem_singleton.1 hg]; exact .inr (by omega))
      replace X := X.transN e13 (fun g hg => .inl (by simp at hg ⊢; omega))
      refine L.nil ?_
      refine N.seq ?_
      refine G.ret fun _ _ => ?_
      exact ⟨[b4, b5, b6, b22], X, (by intro g hg; simp only [List.mem_cons, List.not_mem_nil, or_false] at hg; refine ⟨by omega, .inl ?_⟩; rcases hg with rfl | rfl | rfl | rfl <;> simp), rfl, by rw [hRv], none, 0, by rw [hRv]; exact B4, by rw [hRv]; exact B5, by rw [hRv]; exact B6, by rw [hRv]; exact Bs.nil _, by rw [hRv]; exact Nat.le_refl _, by simp, by simp, E⟩
    · have h1z : takeE lsn k q1 k1 (sec k) = 0 := Classical.not_not.1 h1
      obtain ⟨g1, g3, ga, gn, gc', ab2, nb2, cb2, MB2, B22, o2, hx2, hMBn, hnb2⟩ := hT h1z
      have hgo := takeE_zero h1z
      have hfl : (getF (sec k)).1.2.2.2.2.length ≤ 40 := hgo.2
      have hMB2 : ∀ g ∈ MB2, w.heap.size ≤ g ∧ g ≠ b4 ∧ g ≠ b5 ∧ g ≠ b6 ∧ g ≠ b7 ∧ g ≠ b22 := fun g hg => (hMBn g hg).elim (hMB g) (fun h => ⟨by omega, by omega, by omega, by omega, by omega, by omega⟩)
      refine G.skip ?_
      refine N.seq ?_
      refine G.seq ?_
      refine G.quiet (by decide +kernel) rfl ?_
      refine Q.val rfl rfl rfl rfl (fun w8 hE => R.ldB rfl (B7.ext0 hE) rfl) ?_
      refine Q.val rfl rfl rfl rfl (fun w8 hE => R.nilChk rfl) ?_
      refine Q.val rfl rfl rfl rfl (fun w8 hE => R.fld rfl) ?_
      refine Q.val rfl rfl rfl rfl (fun w8 hE => R.ldB rfl (B22.ext0 hE) rfl) ?_
      refine Q.val rfl rfl rfl rfl (fun w8 hE => R.ldB rfl (B7.ext0 hE) rfl) ?_
      refine Q.val rfl rfl rfl rfl (fun w8 hE => R.nilChk rfl) ?_
      refine Q.val rfl rfl rfl rfl (fun w8 hE => R.fld rfl) ?_
      refine Q.val rfl rfl rfl rfl (fun w8 hE => R.fld rfl) ?_
      refine Q.val rfl rfl rfl rfl (fun w8 hE => R.ldB rfl (B22.ext0 hE) rfl) ?_
      refine Q.val rfl rfl rfl rfl (fun w8 hE => R.eqI rfl rfl) ?_
      refine Q.nil (fun w8 e8 => ?_)
      replace E := E.trans0 e8
      replace B4 := B4.ext0 e8
      replace B5 := B5.ext0 e8
      replace B6 := B6.ext0 e8
      replace B7 := B7.ext0 e8
      replace B22 := B22.ext0 e8
      replace o2 := o2.ext0 e8
      replace X := X.trans0 e8
      have hs9 := e8.size
      have ho2 := o2.lt
      have hD2 : ∀ g ∈ b4 :: b5 :: b6 :: b22 :: MB2, g < w8.heap.size ∧ (g ∈ b4 :: b5 :: b6 :: b22 :: MB ∨ wb.heap.size ≤ g) := by
        intro g hg
        simp only [List.mem_cons] at hg
        rcases hg with rfl | rfl | rfl | rfl | hg
        · exact ⟨by omega, .inl (by simp)⟩
        · exact ⟨by omega, .inl (by simp)⟩
        · exact ⟨by omega, .inl (by simp)⟩
        · exact ⟨by omega, .inl (by simp)⟩
        · exact ⟨ho2 g hg, (hMBn g hg).imp (fun h => by simp [h]) id⟩
      refine N.seq ?_
      refine G.condP rfl (fun h2 => ?_) (fun h2 => ?_)
      · have hRv : res = (k + 1, body ++ (getF (sec k)).1.2.2.2.2, (k : Int) + 1, 0) := by rw [hR, ← hgath, show Nn - k = (Nn - k - 1) + 1 by omega, gathN_last h1z h2]
        refine G.seq ?_
        have hI : ∀ kq w', stage [fun w' => Ext [] w8 w', fun w' => Ext [b4] w8 w' ∧ Blk w' b4 (#[.slice none 0 0].setIfInBounds 0 (.slice ab2 nb2 cb2)) 28 (0, 0), fun w' => Ext [b4, b5] w8 w' ∧ Blk w' b4 (#[.slice none 0 0].setIfInBounds 0 (.slice ab2 nb2 cb2)) 28 (0, 0) ∧ Blk w' b5 (#[.int .i64 0].setIfInBounds 0 (.int .i64 ((k + 1 : Nat) : Int))) 3 (0, 0), fun w' => Ext [b4, b5, b6] w8 w' ∧ Blk w' b4 (#[.slice none 0 0].setIfInBounds 0 (.slice ab2 nb2 cb2)) 28 (0, 0) ∧ Blk w' b5 (#[.int .i64 0].setIfInBounds 0 (.int .i64 ((k + 1 : Nat) : Int))) 3 (0, 0) ∧ Blk w' b6 (#[.int .i64 0].setIfInBounds 0 (.int .i64 0)) 25 (0, 0)] kq w' → (Ext [b4, b5, b6] w8) w' := fun kq w' hs => stage_all (I := Ext [b4, b5, b6] w8) (by
          intro Ψ hΨ w' hJ
          simp only [List.mem_cons, List.not_mem_nil, or_false] at hΨ
          rcases hΨ with rfl | rfl | rfl | rfl
          · exact hJ.mono (by simp)
          · exact hJ.1.mono (fun g hg => .inl (by simp at hg ⊢; omega))
          · exact hJ.1.mono (fun g hg => .inl (by simp at hg ⊢; omega))
          · exact hJ.1) hs
        refine G.staged [8, 9, 10] [.blocks ([b4]), .blocks ([b5]), .blocks ([b6])] [fun w' => Ext [] w8 w', fun w' => Ext [b4] w8 w' ∧ Blk w' b4 (#[.slice none 0 0].setIfInBounds 0 (.slice ab2 nb2 cb2)) 28 (0, 0), fun w' => Ext [b4, b5] w8 w' ∧ Blk w' b4 (#[.slice none 0 0].setIfInBounds 0 (.slice ab2 nb2 cb2)) 28 (0, 0) ∧ Blk w' b5 (#[.int .i64 0].setIfInBounds 0 (.int .i64 ((k + 1 : Nat) : Int))) 3 (0, 0), fun w' => Ext [b4, b5, b6] w8 w' ∧ Blk w' b4 (#[.slice none 0 0].setIfInBounds 0 (.slice ab2 nb2 cb2)) 28 (0, 0) ∧ Blk w' b5 (#[.int .i64 0].setIfInBounds 0 (.int .i64 ((k + 1 : Nat) : Int))) 3 (0, 0) ∧ Blk w' b6 (#[.int .i64 0].setIfInBounds 0 (.int .i64 0)) 25 (0, 0)] [] (by decide +kernel) (by decide +kernel) rfl rfl rfl (fun _ h => h) ?_
        refine Z.readI (I := Ext [b4, b5, b6] w8) hI rfl rfl rfl rfl rfl (fun w9 hJ => R.ldB rfl (B7.ext hJ (by simp; omega)) rfl) ?_
        refine Z.val rfl rfl rfl rfl rfl (fun w9 => R.nilChk rfl) ?_
        refine Z.val rfl rfl rfl rfl rfl (fun w9 => R.fld rfl) ?_
        refine Z.readI (I := Ext [b4, b5, b6] w8) hI rfl rfl rfl rfl rfl (fun w9 hJ => R.ldB rfl (B22.ext hJ (by simp; omega)) rfl) ?_
        refine Z.readI (I := Ext [b4, b5, b6] w8) hI rfl rfl rfl rfl rfl (fun w9 hJ => R.ldB rfl (B7.ext hJ (by simp; omega)) rfl) ?_
        refine Z.val rfl rfl rfl rfl rfl (fun w9 => R.nilChk rfl) ?_
        refine Z.val rfl rfl rfl rfl rfl (fun w9 => R.fld rfl) ?_
        refine Z.readI (I := Ext [b4, b5, b6] w8) hI rfl rfl rfl rfl rfl (fun w9 hJ => R.ldB rfl (B22.ext hJ (by simp; omega)) rfl) ?_
        refine Z.set 0 (by decide +kernel) rfl rfl rfl rfl rfl rfl (fun w9 hJ => (R.st rfl rfl (B4.ext0 hJ) (by show 0 < 1; decide) rfl).mono (fun _ h => ⟨h.1, h.1.after hJ, h.2.2⟩)) ?_
        refine Z.set 1 (by decide +kernel) rfl rfl rfl rfl rfl rfl (fun w9 hJ => (R.st rfl rfl (B5.ext hJ.1 (by simp; omega)) (by show 0 < 1; decide) rfl).mono (fun _ h => ⟨h.1, (hJ.1.mono (fun g hg => .inl (by simp at hg ⊢; omega))).transN h.1 (fun g hg => .inl (by simp at hg ⊢; omega)), hJ.2.ext h.1 (by simp; omega), h.2.2⟩)) ?_
        refine Z.set 2 (by decide +kernel) rfl rfl rfl rfl rfl rfl (fun w9 hJ => (R.st rfl rfl (B6.ext hJ.1 (by simp; omega)) (by show 0 < 1; decide) rfl).mono (fun _ h => ⟨h.1, (hJ.1.mono (fun g hg => .inl (by simp at hg ⊢; omega))).transN h.1 (fun g hg => .inl (by simp at hg ⊢; omega)), hJ.2.1.ext h.1 (by simp; omega), hJ.2.2.ext h.1 (by simp; omega), h.2.2⟩)) ?_
        refine Z.nil rfl rfl (fun w9 hJ => ?_)
        obtain ⟨e10, C4, C5, C6⟩ := hJ
        replace C4 : Blk _ b4 #[.slice ab2 nb2 cb2] 28 (0, 0) := C4
        replace C5 : Blk _ b5 #[.int .i64 ((k + 1 : Nat) : Int)] 3 (0, 0) := C5
        replace C6 : Blk _ b6 #[.int .i64 0] 25 (0, 0) := C6
        replace E := E.transN e10 (fun g hg => .inr (by simp at hg; omega))
        replace X := X.transN e10 (fun g hg => .inl (by simp at hg ⊢; omega))
        have hs10 := e10.size
        replace o2 := o2.ext e10 (fun g hg h => by have := hMB2 g hg; simp at h; omega)
        refine N.seq ?_
        refine G.ret fun _ _ => ?_
        exact ⟨b4 :: b5 :: b6 :: b22 :: MB2, X, fun g hg => ⟨Nat.lt_of_lt_of_le (hD2 g hg).1 hs10, (hD2 g hg).2⟩, rfl, by rw [hRv], ab2, cb2, by rw [hRv]; rw [hnb2] at C4; exact C4, by rw [hRv]; exact C5, by rw [hRv]; exact C6, by rw [hRv]; have := Bs.of_own o2; rw [hnb2] at this; exact this, by rw [hRv]; have := o2.le; rw [hnb2] at this; exact this, fun p hp => by rw [o2.block p hp]; simp, by simp, E⟩
      · refine G.skip ?_
        refine N.block ?_
        refine N.done fun _ _ => ?_
        exact ⟨b4 :: b5 :: b6 :: b22 :: MB2, X, hD2, g1, _, g3, _, ga, gn, gc', ab2, nb2, cb2, _, MB2, rfl, B4, B5, B6, B7, B22, o2, hMB2, ⟨by rw [List.length_append]; omega, by omega⟩, by rw [← hgath, show Nn - k = (Nn - (k + 1)) + 1 by omega, gathN_next h1z h2], E⟩
  · rintro d D W2 hd hdD hK ⟨f1, q1, f3, k1, fa, fn, fc, ab, nb, cb, body, MB, rfl, B4, B5, B6, B7, B22, o, hMB, hkk, hgath, E⟩ hSx
    have hRv : res = (Nn, [], 0, 20) := by rw [hR, ← hgath, Nat.sub_self]; rfl
    have hEd := E.size
    have l4 := B4.lt
    have l5 := B5.lt
    have l6 := B6.lt
    have hdl := (Array.getElem?_eq_some_iff.1 hK).1
    refine N.block ?_
    refine N.seq ?_
    refine G.seq ?_
    refine G.region ?_
    refine L.set rfl (R.st rfl rfl B4 (by show 0 < 1; decide) rfl) ?_
    rintro w14 ⟨e14, hs14, B4⟩
    replace B4 : Blk w14 b4 #[.slice none 0 0] 28 (0, 0) := B4
    replace B5 := B5.ext e14 (by simp; omega)
    replace B6 := B6.ext e14 (by simp; omega)
    replace E := E.transN e14 (by intro g hg; rw [List.mem_singleton.1 hg]; exact .inr (by omega))
    replace hK := (e14.keep d (by omega) (by simp; omega)).trans hK
    replace hSx := hS2 _ _ _ [b4] hSx e14 (by intro g hg h; rw [List.mem_singleton.1 hg] at h; have := hFM _ (.inr h); omega)
    refine L.set rfl (R.st rfl rfl B5 (by show 0 < 1; decide) rfl) ?_
    rintro w15 ⟨e15, hs15, B5⟩
    replace B5 : Blk w15 b5 #[.int .i64 0] 3 (0, 0) := B5
    replace B4 := B4.ext e15 (by simp; omega)
    replace B6 := B6.ext e15 (by simp; omega)
    replace E := E.transN e15 (by intro g hg; rw [List.mem_singleton.1 hg]; exact .inr (by omega))
    replace hK := (e15.keep d (by omega) (by simp; omega)).trans hK
    replace hSx := hS2 _ _ _ [b5] hSx e15 (by intro g hg h; rw [List.mem_singleton.1 hg] at h; have := hFM _ (.inr h); omega)
    refine L.set rfl (R.st rfl rfl B6 (by show 0 < 1; decide) rfl) ?_
    rintro w16 ⟨e16, hs16, B6⟩
    replace B6 : Blk w16 b6 #[.int .i64 20] 25 (0, 0) := B6
    replace B4 := B4.ext e16 (by simp; omega)
    replace B5 := B5.ext e16 (by simp; omega)
    replace E := E.transN e16 (by intro g hg; rw [List.mem_singleton.1 hg]; exact .inr (by omega))
    replace hK := (e16.keep d (by omega) (by simp; omega)).trans hK
    replace hSx := hS2 _ _ _ [b6] hSx e16 (by intro g hg h; rw [List.mem_singleton.1 hg] at h; have := hFM _ (.inr h); omega)
    refine L.nil ?_
    have hst := Still.putObj (.deferred none) hK rfl
    refine N.seq ?_
    refine G.retM (leave1 hK) (fun _ ha => res3C rfl rfl rfl rfl ha (((B4.still hst).cell 0).trans rfl) (((B5.still hst).cell 0).trans rfl) (((B6.still hst).cell 0).trans rfl)) ?_
    rw [hRv]; exact ⟨none, 0, rfl, E.transN (Ext.putObj _ _ _) (fun g hg => .inr (by rw [List.mem_singleton.1 hg]; omega)), Bs.nil _, Nat.le_refl _, hS _ _ _ hSx hst⟩
  · rintro d D k c W2 hd hdD hK hk ⟨rfl, hRk, a, c4, B4, B5, B6, hb, hac, haD, hbD, E⟩ hSx
    have hst := Still.putObj (.deferred none) hK rfl
    refine G.retM (leave1 hK) (fun _ ha => res3C rfl rfl rfl rfl ha (((B4.still hst).cell 0).trans rfl) (((B5.still hst).cell 0).trans rfl) (((B6.still hst).cell 0).trans rfl)) ?_
    exact ⟨a, c4, rfl, E.transN (Ext.putObj _ _ _) (fun g hg => .inr (by rw [List.mem_singleton.1 hg]; omega)), hb.still hst, hac, by rw [hRk]; exact hS _ _ _ hSx hst⟩

end Go.Proofs.Ytjmlcodlnohgdaa
