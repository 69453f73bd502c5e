/-
  The walks of the laws on image.
-/
import Derived.Test.YtjmlcodlnohgdaaImageF
import Derived.Test.YtjmlcodlnohgdaaC12
import Derived.Test.YtjmlcodlnohgdaaC7
set_option linter.unusedVariables false
set_option linter.unusedSimpArgs false
namespace Go.Proofs.Ytjmlcodlnohgdaa
open Go Brv Brv.Image
structure Row where
  a : Option Addr
  n : Nat
  c : Nat
  ws : List WriteV
def Row.cell (r : Row) : List Value := [.slice r.a r.n r.c]
def Row.ok (w : World) (r : Row) : Prop := Tab w r.a r.n 2 (r.ws.map WriteV.cells) ∧ ∀ o ∈ r.ws, Bs w o.B'a o.B'n o.B'
set_option maxRecDepth 100000 in
theorem row_rows {w : World} {f : Nat} {cs : List Value} (h : Rd Try.prog w f 22 cs) : ∃ a n c, ∃ rs : List Row, cs = [.slice a n c] ∧ n ≤ c ∧ Tab w a n 1 (rs.map Row.cell) ∧ ∀ r ∈ rs, r.ok w := by
  cases f with
  | zero => exact h.elim
  | succ f =>
    unfold Rd at h
    rw [Try.underlying22] at h
    obtain ⟨a, n, c, rfl, hnc, _, hb, vss, hl, hcell, hv⟩ := h
    have hex : ∃ rs : List Row, vss = rs.map Row.cell ∧ ∀ r ∈ rs, r.ok w := by
      clear hcell hl
      induction vss with
      | nil => exact ⟨[], rfl, by simp⟩
      | cons vs r ih =>
        obtain ⟨a1, n1, c1, os, rfl, _, _, hT, hO⟩ := writeV_rows36 (hv vs (by simp)).2
        obtain ⟨rs, rfl, hrs⟩ := ih (fun x hx => hv x (by simp [hx]))
        exact ⟨⟨a1, n1, c1, os⟩ :: rs, rfl, fun x hx => (List.mem_cons.1 hx).elim (fun e => e ▸ ⟨hT, fun o ho => (hO o ho).2.2.2⟩) (hrs x)⟩
    obtain ⟨rs, rfl, hrs⟩ := hex
    exact ⟨a, n, c, rs, rfl, hnc, ⟨hcell, hl.symm, fun vs hvs => by obtain ⟨r, _, rfl⟩ := List.mem_map.1 hvs; rfl⟩, hrs⟩
theorem DiskAt.extB {w w' : World} {d b T : Nat} {x : List UInt8} {cs : Array Value} (h : DiskAt w d x) (he : Ext [b] w w') (hb : Blk w b cs T (0, 0)) (h1 : 121 ≠ T) (h2 : 118 ≠ T) (h3 : 123 ≠ T) : DiskAt w' d x := by
  obtain ⟨g, c, cur, ps, D⟩ := h
  refine ⟨g, c, cur, ps, D.ext he (fun y hy hm => ?_)⟩
  rw [List.mem_singleton] at hm
  subst hm
  rcases List.mem_cons.1 hy with rfl | hy
  · exact D.hd.ne hb h1 rfl
  rcases List.mem_cons.1 hy with rfl | hy
  · exact D.hg.ne hb h2 rfl
  obtain ⟨k, hk, rfl⟩ := List.mem_iff_getElem.1 hy
  exact (D.hb.each k hk).ne hb h3 rfl
def IsN (l : List Nat) (v : Value) (w : World) : Prop := ∃ a c, v = .slice a l.length c ∧ Cells w a (nums l)
theorem IsN.keep (l : List Nat) : ∀ v w w', Ext [] w w' → IsN l v w → IsN l v w' := fun _ _ _ he ⟨a, c, hv, hc⟩ => ⟨a, c, hv, hc.ext0 he⟩
structure PlSt where
  i : Nat
  d : Nat
  y : List UInt8

theorem play1_ok (k bx b25 : Nat) (a : Option Addr) (c : Nat) (y : List UInt8) (w : World) (Bx : Blk w bx #[.string (str y)] 9 (0, 0)) (B25 : Blk w b25 #[.int .i64 (k : Int)] 3 (0, 0)) (hb : Bs w a (blk y k).length (blk y k)) (hy : y.length ≤ 4096) (hk : k < dn y) (hk3 : k < 3) : Meets Try.prog 30 [.int .i64 (k : Int), .slice a (blk y k).length c, .pointer (some ⟨bx, 0, none⟩), .pointer (some ⟨b25, 0, none⟩)] w (fun v w' => ∃ b, v = .bool b ∧ Ext [b25] w w' ∧ Blk w' b25 #[.int .i64 (((k + 1 : Nat) : Int))] 3 (0, 0) ∧ b = decide (k + 1 < 3)) := by
  refine Meets.enter Try.func30 rfl 32 rfl (Nat.le_of_ble_eq_true rfl) ?_
  have E := Ext.refl [] w
  replace E : Ext [b25] w w := Ext.refl _ _
  refine G.seq ?_
  refine G.region ?_
  refine L.val rfl rfl (R.as rfl) ?_
  refine L.nil ?_
  refine N.seq ?_
  refine G.seq ?_
  refine G.region ?_
  refine L.val rfl rfl (R.ldB rfl Bx rfl) ?_
  refine L.val rfl rfl (R.mv rfl) ?_
  refine L.callF rfl rfl rfl go28 (rget_ok y (k : Int) _ hy) ?_
  rintro _ _ ⟨rfl, hw⟩
  obtain rfl := hw.symm
  refine L.val rfl rfl (R.mv rfl) ?_
  refine L.val rfl rfl (R.ext rfl rfl) ?_
  refine L.be 13 rfl (show Value.string (str (getB y (k : Int))) = Value.string (str (blk y k)) by rw [getB_in hk]) ?_
  refine L.val rfl rfl (R.ext rfl rfl) ?_
  refine L.val rfl rfl (R.as rfl) ?_
  refine L.val rfl rfl (R.as rfl) ?_
  refine L.nil ?_
  refine N.seq ?_
  refine G.seq ?_
  refine G.seq ?_
  refine G.region ?_
  refine L.val rfl rfl (R.mv rfl) ?_
  refine L.val rfl rfl (R.ldB rfl B25 rfl) ?_
  refine L.val rfl rfl (R.neI rfl rfl) ?_
  refine L.val rfl rfl (R.mv rfl) ?_
  refine L.isF 18 rfl (by simp) ?_
  refine L.val rfl rfl (R.mv rfl) ?_
  refine L.val rfl rfl (R.bytesStr rfl hb.cells hb.len) ?_
  refine L.val rfl rfl (R.mv rfl) ?_
  refine L.val rfl rfl (R.neStr rfl rfl) ?_
  first | refine L.val rfl rfl (R.pickT rfl rfl) ?_ | refine L.val rfl rfl (R.pickF rfl rfl) ?_
  refine L.be 23 rfl (show _ = Value.bool false by simp) ?_
  refine L.nil ?_
  refine N.seq ?_
  refine G.condF rfl ?_
  refine G.skip ?_
  refine N.seq ?_
  refine G.seq ?_
  refine G.region ?_
  refine L.val rfl rfl (R.ldB rfl B25 rfl) ?_
  refine L.val rfl rfl (R.add rfl rfl (by omega)) ?_
  refine L.set rfl (R.st rfl rfl B25 (by show 0 < 1; decide) rfl) ?_
  rintro w1 ⟨e1, hs1, B25⟩
  replace B25 : Blk w1 b25 #[.int .i64 (((k + 1 : Nat) : Int))] 3 (0, 0) := B25
  replace E := E.transN e1 (by simp)
  refine L.nil ?_
  refine N.seq ?_
  refine G.seq ?_
  refine G.region ?_
  refine L.val rfl rfl (R.ldB rfl B25 rfl) ?_
  refine L.val rfl rfl (R.geq rfl rfl) ?_
  refine L.val rfl rfl (R.mv rfl) ?_
  refine L.isT 28 rfl (decide_eq_true (by omega)) ?_
  refine L.val rfl rfl (R.ldB rfl B25 rfl) ?_
  refine L.val rfl rfl (R.lss rfl rfl) ?_
  first | refine L.val rfl rfl (R.pickT rfl rfl) ?_ | refine L.val rfl rfl (R.pickF rfl rfl) ?_
  refine L.val rfl rfl (R.as rfl) ?_
  refine L.nil ?_
  refine N.seq ?_
  refine G.ret1 rfl rfl ?_
  exact ⟨_, rfl, E, B25, by rw [decide_eq_decide]; omega⟩

theorem plays_iter (b1 bx b25 : Nat) (d : Option Addr) (y : List UInt8) (F : List Nat) (w : World) (hF : fpIs w F b1 d y) (Bx : Blk w bx #[.string (str y)] 9 (0, 0)) (B25 : Blk w b25 #[.int .i64 0] 3 (0, 0)) (hbF : b25 ∉ F) (hy : y.length ≤ 4096) (hyd : dn y ≤ 64) (h1y : 1 ≤ dn y) :
    Meets Try.prog 75 [.func (.func 30) #[] #[.pointer (some ⟨bx, 0, none⟩), .pointer (some ⟨b25, 0, none⟩)], .pointer (some ⟨b1, 0, none⟩)] w (fun _ w' => Ext [b25] w w' ∧ Blk w' b25 #[.int .i64 ((min 3 (dn y) : Nat) : Int)] 3 (0, 0)) := by
  have lx := Bx.lt
  have hne : bx ≠ b25 := Bx.ne B25 (by decide)
  refine Calls.mono (iall1_ok (.func (.func 30) #[] #[.pointer (some ⟨bx, 0, none⟩), .pointer (some ⟨b25, 0, none⟩)]) b1 d y F [b25] (fun k D W => D = [b25] ∧ k < 3 ∧ Blk W b25 #[.int .i64 (k : Int)] 3 (0, 0) ∧ Blk W bx #[.string (str y)] 9 (0, 0) ∧ Ext [b25] w W) (fun k D W => D = [b25] ∧ k = 3 ∧ Blk W b25 #[.int .i64 (k : Int)] 3 (0, 0) ∧ Ext [b25] w W) w hF
    (fun g hg => by rw [List.mem_singleton.1 hg]; exact ⟨B25.lt, hbF, by simp⟩) ?_ ?_ ?_ ⟨rfl, by decide, B25, Bx, Ext.refl _ _⟩) ?_
  · rintro k D W₁ W₂ M' ⟨rfl, hk, q25, qx, E⟩ he hm
    exact ⟨rfl, hk, q25.ext he (fun h => (hm _ h).1 (by simp)), qx.ext he (fun h => by have := (hm _ h).2; simp at this; omega), E.transN he (fun g hg => (hm g hg).2.imp (fun h => by cases h) id)⟩
  · rintro k D W₁ W₂ M' ⟨rfl, hk, q25, E⟩ he hm
    exact ⟨rfl, hk, q25.ext he (fun h => (hm _ h).1 (by simp)), E.transN he (fun g hg => (hm g hg).2.imp (fun h => by cases h) id)⟩
  · rintro k D vs W₁ hk ⟨rfl, hk3, q25, qx, E⟩ ⟨a, c, rfl, _, hb⟩ _
    refine .inr ⟨30, #[], #[.pointer (some ⟨bx, 0, none⟩), .pointer (some ⟨b25, 0, none⟩)], rfl, go30, ?_⟩
    refine Calls.mono (play1_ok k bx b25 a c y W₁ qx q25 hb hy hk hk3) ?_
    intro e W₂ he
    cases e with
    | returned v =>
      obtain ⟨b, rfl, e2, q2, hb2⟩ := he
      refine ⟨b, rfl, [b25], e2, fun g hg => ⟨by rw [List.mem_singleton.1 hg]; exact q2.lt, .inl hg⟩, fun ht => ?_, fun hf => ?_⟩
      · subst ht
        exact ⟨rfl, of_decide_eq_true hb2.symm, q2, qx.ext e2 (by simp [hne]), E.transN e2 (fun g hg => .inl hg)⟩
      · subst hf
        exact ⟨rfl, by have := of_decide_eq_false hb2.symm; omega, q2, E.transN e2 (fun g hg => .inl hg)⟩
    | panicked c => exact he.elim
    | outgrown => exact he.elim
  · intro e W₂ he
    cases e with
    | returned v =>
      rcases he with ⟨D, ⟨_, h3, q, _, E⟩, _⟩ | ⟨k, D, hk, ⟨_, rfl, q, E⟩, _⟩
      · exact ⟨E, by rw [show min 3 (dn y) = dn y by omega]; exact q⟩
      · exact ⟨E, by rw [show min 3 (dn y) = 3 by omega]; exact q⟩
    | panicked c => exact he.elim
    | outgrown => exact he.elim

end Go.Proofs.Ytjmlcodlnohgdaa
