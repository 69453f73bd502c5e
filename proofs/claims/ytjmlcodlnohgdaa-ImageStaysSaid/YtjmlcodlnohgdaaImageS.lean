/-
  The walks of the laws on image.
-/
import Derived.Test.YtjmlcodlnohgdaaImageJ
set_option linter.unusedVariables false
set_option linter.unusedSimpArgs false
namespace Go.Proofs.Ytjmlcodlnohgdaa
open Go Brv Brv.Image
def okU (w : World) (o : WriteV) : Prop := Bs w o.B'a o.B'n o.B' ∧ ∃ bb cs, o.B'a = some ⟨bb, 0, none⟩ ∧ Blk w bb cs 5 (0, 0)
theorem okU.ext {w w' : World} {o : WriteV} {M : List Nat} (h : okU w o) (he : Ext M w w') (hM : ∀ g ∈ M, ∃ cs, Blk w g cs 51 (0, 0)) : okU w' o := by
  obtain ⟨h4, bb, cs, ha, hb⟩ := h
  have hn : bb ∉ M := fun hm => by obtain ⟨_, hb2⟩ := hM _ hm; exact hb.ne hb2 (by decide) rfl
  exact ⟨h4.ext he (fun p hp => by rw [ha] at hp; cases hp; exact hn), bb, cs, ha, hb.ext he hn⟩
theorem okU.ext0 {w w' : World} {o : WriteV} (h : okU w o) (he : Ext [] w w') : okU w' o := h.ext he (by simp)
structure BkSt where
  k : Nat
  ab : Option Addr
  cb : Nat
  M : List Nat
  os : List WriteV

theorem imageStays_ok (t : Nat) (a0 : Option Addr) (n0 c0 : Nat) (ws : List WriteV) (w : World) (ht : t ≤ 255) (T0 : Tab w a0 n0 2 (ws.map WriteV.cells)) (K0 : ∀ o ∈ ws, Bs w o.B'a o.B'n o.B') : Meets Try.prog 4 [.int .u8 (t : Int), .slice a0 n0 c0] w (fun v w' => v = .bool true ∧ Ext [] w w') := by
  refine Meets.enter Try.func4 rfl 95 rfl (Nat.le_of_ble_eq_true rfl) ?_
  have E := Ext.refl [] w
  have hl0 := T0.len
  rw [List.length_map] at hl0
  refine G.seq ?_
  refine G.region ?_
  refine L.val rfl rfl (R.as rfl) ?_
  refine L.nil ?_
  refine N.seq ?_
  refine G.seq ?_
  refine G.seq ?_
  refine G.region ?_
  refine L.callF rfl rfl rfl go16 (image_first_ok _) ?_
  rintro _ w2 ⟨rfl, e2⟩
  replace E := E.trans0 e2
  replace T0 := T0.ext0 e2
  replace K0 : ∀ o ∈ ws, Bs w2 o.B'a o.B'n o.B' := fun o ho => (K0 o ho).ext0 e2
  refine L.val rfl rfl (R.not rfl) ?_
  refine L.nil ?_
  refine N.seq ?_
  refine G.condF rfl ?_
  refine G.skip ?_
  refine N.seq ?_
  refine G.seq ?_
  refine G.seq ?_
  refine G.region ?_
  refine L.val rfl rfl (R.mv rfl) ?_
  refine L.val rfl rfl (R.lenS rfl) ?_
  refine L.val rfl rfl (R.gtr rfl rfl) ?_
  refine L.nil ?_
  refine N.seq ?_
  refine G.condP rfl (fun h1 => ?_) (fun h1 => ?_)
  · refine G.seq ?_
    refine G.region ?_
    refine L.val rfl rfl (R.as rfl) ?_
    refine L.nil ?_
    refine N.seq ?_
    refine G.ret1 rfl rfl ?_
    first | exact ⟨rfl, E⟩ | exact ⟨congrArg Value.bool (by simp), E⟩
  · refine G.skip ?_
    refine N.seq ?_
    refine G.seq ?_
    refine G.region ?_
    refine L.val rfl rfl (R.mv rfl) ?_
    refine L.val rfl rfl (R.rem rfl rfl (by omega) (by decide)) ?_
    refine L.val rfl rfl (R.conv rfl ((t % 8 : Nat) : Int) (by rw [wrap_i64 (by omega)]; omega)) ?_
    refine L.val rfl rfl (R.add rfl rfl (by omega)) ?_
    refine L.be 27 rfl (show _ = Value.int .i64 ((1 + t % 8 : Nat) : Int) by congr 1) ?_
    refine L.callF rfl rfl rfl go17 (inew_ok (1 + t % 8) _ (by omega) (by omega)) ?_
    rintro _ w3 ⟨d, rfl, e3, O3⟩
    replace E := E.trans0 e3
    obtain ⟨x0, hx0⟩ : ∃ x0 : List UInt8, x0 = List.replicate (64 * (1 + t % 8)) 0 := ⟨_, rfl⟩
    rw [← hx0] at O3
    have D3 := O3.at
    have h30 := D3.len
    replace T0 := T0.ext0 e3
    replace K0 : ∀ o ∈ ws, Bs w3 o.B'a o.B'n o.B' := fun o ho => (K0 o ho).ext0 e3
    refine L.val rfl rfl (R.mv rfl) ?_
    refine L.val rfl rfl (R.ext rfl rfl) ?_
    refine L.val rfl rfl (R.ext rfl rfl) ?_
    refine L.val rfl rfl (R.as rfl) ?_
    refine L.val rfl rfl (R.as rfl) ?_
    refine L.nil ?_
    refine N.seq ?_
    refine G.seq ?_
    by_cases hx : (withF x0 (ws.map wv)).2 = 0
    · refine G.region ?_
      refine L.val rfl rfl (R.mv rfl) ?_
      refine L.val rfl rfl (R.mv rfl) ?_
      refine L.callF rfl rfl rfl go19 (iwith_ok d x0 _ _ _ ws _ D3 T0 K0 (by omega)) ?_
      rintro _ w4 ⟨e4, hA, _⟩
      obtain ⟨d4, rfl, D4⟩ := hA hx
      replace E := E.trans0 e4
      have hXl := withF_length (x := x0) hx
      obtain ⟨X, hX⟩ : ∃ X, X = (withF x0 (ws.map wv)).1 := ⟨_, rfl⟩
      rw [← hX] at D4 hXl
      have hXd : dn X = dn x0 := by unfold dn; rw [hXl]
      replace D3 := D3.ext0 e4
      refine L.val rfl rfl (R.mv rfl) ?_
      refine L.val rfl rfl (R.ext rfl rfl) ?_
      refine L.val rfl rfl (R.ext rfl rfl) ?_
      refine L.val rfl rfl (R.as rfl) ?_
      refine L.val rfl rfl (R.as rfl) ?_
      refine L.nil ?_
      refine N.seq ?_
      refine G.seq ?_
      refine G.seq ?_
      refine G.region ?_
      refine L.val rfl rfl (R.mv rfl) ?_
      refine L.val rfl rfl (R.neI rfl rfl) ?_
      refine L.nil ?_
      refine N.seq ?_
      refine G.condF rfl ?_
      refine G.skip ?_
      refine N.seq ?_
      refine G.seq ?_
      refine G.region ?_
      refine L.val rfl rfl (R.mv rfl) ?_
      refine L.callF rfl rfl rfl go21 (ibytes_ok _ _ _ D4.o) ?_
      rintro _ w5 ⟨a42, c42, M42, rfl, e5, o42, _⟩
      replace E := E.trans0 e5
      have L42 := Bs.of_own o42
      replace D3 := D3.ext0 e5
      replace D4 := D4.ext0 e5
      refine L.val rfl rfl (R.bytesStr rfl L42.cells L42.len) ?_
      refine L.val rfl rfl (R.as rfl) ?_
      refine L.nil ?_
      refine N.seq ?_
      refine G.seq ?_
      refine G.region ?_
      refine L.val rfl rfl (R.as rfl) ?_
      refine L.nil ?_
      refine N.seq ?_
      refine G.seq ?_
      refine G.seq ?_
      refine G.region ?_
      refine L.val rfl rfl (R.mv rfl) ?_
      refine L.val rfl rfl (R.mv rfl) ?_
      refine L.callF rfl rfl rfl go26 (idiff_ok _ _ _ _ _ D3.o D4.o) ?_
      rintro _ w9 ⟨a46, c46, M46, rfl, e9, o46, hM46⟩
      replace E := E.trans0 e9
      have hEw9 := E.size
      replace D3 := D3.ext0 e9
      replace D4 := D4.ext0 e9
      have hdl : (diffF x0 X).length ≤ 64 := by have := diffN_length x0 X (max (dn x0) (dn X)); unfold diffF; omega
      refine L.val rfl rfl (R.lenS rfl) ?_
      refine L.val rfl rfl (R.mv rfl) ?_
      refine L.nil ?_
      refine N.seq ?_
      refine G.block ?_
      refine G.loop (X := BkSt) (fun s => [(5, .pointer (some ⟨d, 0, none⟩)), (7, .pointer (some ⟨d4, 0, none⟩)), (8, .int .i64 0), (9, .string (str X)), (10, .slice s.ab s.k s.cb), (46, .slice a46 (diffF x0 X).length c46), (47, .int .i64 ((diffF x0 X).length : Int)), (48, .int .i64 (s.k : Int))]) (fun s w' => s.k ≤ (diffF x0 X).length ∧ s.os.map wv = (((diffF x0 X).take s.k).map fun i : Nat => ((i : Int), blk x0 i)) ∧ (∀ o ∈ s.os, okU w' o) ∧ Own w' 51 2 s.ab s.k s.cb (cellsW s.os) s.M ∧ (∀ g ∈ s.M, w9.heap.size ≤ g) ∧ Ext [] w w' ∧ Ext [] w9 w') (fun s => (diffF x0 X).length - s.k) (⟨0, none, 0, [], []⟩) (Sub.cons rfl (Sub.cons rfl (Sub.cons rfl (Sub.cons rfl (Sub.cons rfl (Sub.cons rfl (Sub.cons rfl (Sub.cons rfl (Sub.nil _))))))))) ⟨Nat.zero_le _, rfl, by simp, Own.nil _ _ _, by simp, E, Ext.refl _ _⟩ ?_
      rintro ⟨k, ab, cb, M, os⟩ w10 ⟨hk, hos, hok, ob, hM, E, e10⟩
      dsimp only at hk hos hok ob hM
      refine G.sub [(5, .pointer (some ⟨d, 0, none⟩)), (7, .pointer (some ⟨d4, 0, none⟩)), (8, .int .i64 0), (9, .string (str X)), (10, .slice ab k cb), (46, .slice a46 (diffF x0 X).length c46), (47, .int .i64 ((diffF x0 X).length : Int)), (48, .int .i64 (k : Int))] (Sub.cons rfl (Sub.cons rfl (Sub.cons rfl (Sub.cons rfl (Sub.cons rfl (Sub.cons rfl (Sub.cons rfl (Sub.cons rfl (Sub.nil _))))))))) ?_
      have D3b := D3.ext0 e10
      have o46b := o46.ext0 e10
      refine G.seq ?_
      refine G.region ?_
      refine L.val rfl rfl (R.lss rfl rfl) ?_
      refine L.nil ?_
      refine N.seq ?_
      refine G.seq ?_
      refine G.condP rfl (fun h3 => ?_) (fun h3 => ?_)
      · have hkl : k < (diffF x0 X).length := by omega
        obtain ⟨i, hi⟩ : ∃ i, (diffF x0 X)[k]? = some i := ⟨_, List.getElem?_eq_getElem hkl⟩
        have hid : i < dn x0 := by have := mem_diff (List.mem_of_getElem? hi); omega
        obtain ⟨q, rfl, hq⟩ := o46b.cells k (num i) (by simp [nums, hi])
        have hbl := blk_length hid
        refine G.skip ?_
        refine N.seq ?_
        refine G.seq ?_
        refine G.block ?_
        refine G.seq ?_
        refine G.region ?_
        refine L.val rfl rfl (R.idx rfl rfl (by omega) (by omega) _ rfl) ?_
        refine L.val rfl rfl (R.ld rfl (v := num i) (by simpa using hq)) ?_
        refine L.be 51 rfl (show _ = Value.int .i64 (i : Int) from rfl) ?_
        refine L.val rfl rfl (R.as rfl) ?_
        refine L.nil ?_
        refine N.seq ?_
        refine G.seq ?_
        refine G.region ?_
        refine L.val rfl rfl (R.mv rfl) ?_
        refine L.val rfl rfl (R.mv rfl) ?_
        refine L.callF rfl rfl rfl go18 (iget_ok d x0 (i : Int) _ D3b) ?_
        rintro _ w11 ⟨a13, c13, M13, rfl, e11, o13, hM13⟩
        rw [getB_in hid, hbl, if_pos ((okK_nat x0 i).2 hid)] at *
        replace E := E.trans0 e11
        replace ob := ob.ext0 e11
        have L13 := Bs.of_own o13
        have h13 := o13.le
        obtain ⟨g13, cur13, rfl, rfl, B13, _, _⟩ := o13.set 0 (by decide)
        refine L.val rfl rfl (R.mv rfl) ?_
        refine L.val rfl rfl (R.ext rfl rfl) ?_
        refine L.val rfl rfl (R.ext rfl rfl) ?_
        refine L.val rfl rfl (R.as rfl) ?_
        refine L.val rfl rfl (R.as rfl) ?_
        refine L.nil ?_
        refine N.seq ?_
        refine G.region ?_
        refine L.val rfl rfl (R.mv rfl) ?_
        refine L.val rfl rfl (R.mv rfl) ?_
        refine L.val rfl rfl (R.mv rfl) ?_
        refine L.val rfl rfl (R.build (cs := #[.int .i64 (i : Int), .slice (some ⟨g13, 0, none⟩) 64 c13]) rfl rfl) ?_
        refine L.do rfl rfl (R.buildA rfl rfl rfl rfl rfl) ?_
        rintro _ w12 ⟨b62, rfl, hb62, hs62, e12, B62⟩
        replace E := E.trans0 e12
        replace ob := ob.ext0 e12
        replace L13 := L13.ext0 e12
        obtain ⟨o, ho⟩ : ∃ o : WriteV, o = ⟨i, some ⟨g13, 0, none⟩, 64, c13, blk x0 i⟩ := ⟨_, rfl⟩
        have hE12 := E.size
        refine L.do rfl rfl (R.app rfl rfl ob (Cells.of_blk B62 0 o.cells (fun j v hj => by rw [ho] at hj; simpa [cellsOf, WriteV.cells, Value.cells] using hj)) (by rw [WriteV.cells.length]) (WriteV.cells.one o) (by simp [maxLen]; omega) (by omega)) ?_
        rintro _ w13 ⟨ab2, cb2, M2, rfl, e13, hM2a, ob2⟩
        have e15 : Ext [] w9 w13 := ((e10.trans0 e11).trans0 e12).trans e13 (by simp) (fun g hg => .inr (hM g hg))
        have hE9 := e9.size
        replace E : Ext [] w w13 := E.trans e13 (by simp) (fun g hg => .inr (by have := hM g hg; omega))
        have hM2 : ∀ g ∈ M2, w9.heap.size ≤ g := fun g hg => (hM2a g hg).elim (hM g) (fun h => by have := e10.size; have := e11.size; have := e12.size; omega)
        have hos2 : (os ++ [o]).map wv = (((diffF x0 X).take (k + 1)).map fun i : Nat => ((i : Int), blk x0 i)) := by rw [List.map_append, hos, List.take_add_one, hi, List.map_append, ho]; rfl
        have htM := ob.typ
        have hok2 : ∀ u ∈ os ++ [o], okU w13 u := by
          intro u hu
          rcases List.mem_append.1 hu with hu | hu
          · exact (((hok u hu).ext0 e11).ext0 e12).ext e13 htM
          · rw [List.mem_singleton.1 hu, ho]
            exact okU.ext ⟨L13, g13, cur13, rfl, B13.ext0 e12⟩ e13 htM
        replace ob2 : Own w13 51 2 ab2 (k + 1) cb2 (cellsW (os ++ [o])) M2 := by rw [cellsW_append, show cellsW [o] = o.cells by simp [cellsW]]; exact ob2
        refine L.val rfl rfl (R.as rfl) ?_
        refine L.nil ?_
        refine N.block ?_
        refine N.seq ?_
        refine G.region ?_
        refine L.val rfl rfl (R.add rfl rfl (by omega)) ?_
        refine L.val rfl rfl (R.mv rfl) ?_
        refine L.nil ?_
        exact N.again (X := BkSt) ⟨k + 1, ab2, cb2, M2, os ++ [o]⟩ (by show (diffF x0 X).length - (k + 1) < (diffF x0 X).length - k; omega) (Sub.cons rfl (Sub.cons rfl (Sub.cons rfl (Sub.cons rfl (Sub.cons rfl (Sub.cons rfl (Sub.cons rfl (Sub.cons rfl (Sub.nil _))))))))) ⟨by show k + 1 ≤ _; omega, hos2, hok2, ob2, hM2, E, e15⟩
      · obtain rfl : k = (diffF x0 X).length := by omega
        rw [List.take_length] at hos
        have hwb : withF X (os.map wv) = (x0, 0) := by rw [hos, diffF_comm]; exact with_back (by omega) hXl
        have Tb := tabW ob.cells (by have := congrArg List.length hos; simpa using this.symm)
        have hlo : os.length ≤ 64 := by have := congrArg List.length hos; simp at this; omega
        have D4b := D4.ext0 e10
        refine G.exit _ rfl ?_
        refine N.seq ?_
        refine G.seq ?_
        refine G.region ?_
        refine L.val rfl rfl (R.mv rfl) ?_
        refine L.val rfl rfl (R.mv rfl) ?_
        refine L.callF rfl rfl rfl go19 (iwith_ok d4 X _ _ _ os _ D4b Tb (fun u hu => (hok u hu).1) (by omega)) ?_
        rintro _ w14 ⟨e14, hA, _⟩
        rw [hwb] at hA
        obtain ⟨d15, rfl, D15⟩ := hA rfl
        replace E := E.trans0 e14
        replace D3b := D3b.ext0 e14
        replace D4b := D4b.ext0 e14
        refine L.val rfl rfl (R.mv rfl) ?_
        refine L.val rfl rfl (R.ext rfl rfl) ?_
        refine L.val rfl rfl (R.ext rfl rfl) ?_
        refine L.val rfl rfl (R.as rfl) ?_
        refine L.val rfl rfl (R.as rfl) ?_
        refine L.nil ?_
        refine N.seq ?_
        refine G.seq ?_
        refine G.region ?_
        refine L.val rfl rfl (R.mv rfl) ?_
        refine L.callF rfl rfl rfl go18 (iget_ok d4 X 0 _ D4b) ?_
        rintro _ w15 ⟨a16, c16, M16, rfl, e15, o16, hM16⟩
        rw [show getB X 0 = blk X 0 from getB_in (j := 0) (by omega), blk_length (x := X) (k := 0) (by omega), if_pos (show okK X 0 from ⟨by decide, by omega⟩)] at *
        have hE14 := E.size
        replace E := E.trans0 e15
        obtain ⟨p16, hp16, hc16⟩ := (Bs.of_own o16).at 0 (by rw [blk_length (x := X) (k := 0) (by omega)]; decide)
        obtain ⟨g16, cur16, rfl, rfl, L16, hk16, hO16⟩ := o16.set 0 (by decide)
        cases hp16
        obtain ⟨u, hu⟩ : ∃ u, cur16[0]? = some (vb u) := ⟨_, (L16.cell 0).symm.trans (by rw [Go.Addr.add_lit] at hc16; simpa using hc16)⟩
        have hg16 := hM16 g16 (by simp)
        refine L.val rfl rfl (R.mv rfl) ?_
        refine L.val rfl rfl (R.ext rfl rfl) ?_
        refine L.val rfl rfl (R.ext rfl rfl) ?_
        refine L.val rfl rfl (R.as rfl) ?_
        refine L.val rfl rfl (R.as rfl) ?_
        refine L.nil ?_
        refine N.seq ?_
        refine G.seq ?_
        refine G.region ?_
        refine L.val rfl rfl (R.mv rfl) ?_
        refine L.val rfl rfl (R.idx rfl rfl (by decide) (by decide) _ rfl) ?_
        refine L.be 77 rfl (show _ = Value.pointer (some ⟨g16, 0, none⟩) by rw [Go.Addr.add_lit]; rfl) ?_
        refine L.val rfl rfl (R.ldB rfl L16 hu) ?_
        refine L.be 78 rfl (show _ = Value.int .u8 (u.toNat : Int) from rfl) ?_
        refine L.val rfl rfl (R.addW rfl rfl _ rfl) ?_
        refine L.val rfl rfl (R.idx rfl rfl (by decide) (by decide) _ rfl) ?_
        refine L.be 80 rfl (show _ = Value.pointer (some ⟨g16, 0, none⟩) by rw [Go.Addr.add_lit]; rfl) ?_
        refine L.set rfl (R.st rfl rfl L16 hk16 rfl) ?_
        rintro w16 ⟨e16, hs16, _⟩
        have n16 : Ext [] w14 w16 := e15.news2 e16 hg16
        replace E := E.news2 e16 (by omega)
        replace D3b := D3b.ext0 n16
        replace D4b := D4b.ext0 n16
        replace D15 := D15.ext0 n16
        refine L.nil ?_
        refine N.seq ?_
        refine G.seq ?_
        refine G.region ?_
        refine L.val rfl rfl (R.mv rfl) ?_
        refine L.val rfl rfl (R.eqI rfl rfl) ?_
        refine L.val rfl rfl (R.mv rfl) ?_
        refine L.isT 83 rfl (by rfl) ?_
        refine L.val rfl rfl (R.mv rfl) ?_
        refine L.val rfl rfl (R.mv rfl) ?_
        refine L.callF rfl rfl rfl go22 (isame_ok _ _ _ _ _ D15.o D3b.o) ?_
        rintro _ w17 ⟨rfl, e17⟩
        replace E := E.trans0 e17
        replace D4b := D4b.ext0 e17
        first | refine L.val rfl rfl (R.pickT rfl rfl) ?_ | refine L.val rfl rfl (R.pickF rfl rfl) ?_
        refine L.val rfl rfl (R.mv rfl) ?_
        refine L.isT 88 rfl (by simp) ?_
        refine L.val rfl rfl (R.mv rfl) ?_
        refine L.callF rfl rfl rfl go21 (ibytes_ok _ _ _ D4b.o) ?_
        rintro _ w18 ⟨a90, c90, M90, rfl, e18, o90, _⟩
        replace E := E.trans0 e18
        have L90 := Bs.of_own o90
        refine L.val rfl rfl (R.bytesStr rfl L90.cells L90.len) ?_
        refine L.val rfl rfl (R.mv rfl) ?_
        refine L.val rfl rfl (R.eqStr rfl rfl) ?_
        first | refine L.val rfl rfl (R.pickT rfl rfl) ?_ | refine L.val rfl rfl (R.pickF rfl rfl) ?_
        refine L.val rfl rfl (R.as rfl) ?_
        refine L.nil ?_
        refine N.seq ?_
        refine G.ret1 rfl rfl ?_
        first | exact ⟨rfl, E⟩ | exact ⟨congrArg Value.bool (by simp), E⟩
    · refine G.region ?_
      refine L.val rfl rfl (R.mv rfl) ?_
      refine L.val rfl rfl (R.mv rfl) ?_
      refine L.callF rfl rfl rfl go19 (iwith_ok d x0 _ _ _ ws _ D3 T0 K0 (by omega)) ?_
      rintro _ w4 ⟨e4, _, hA⟩
      obtain rfl := hA hx
      replace E := E.trans0 e4
      refine L.val rfl rfl (R.mv rfl) ?_
      refine L.val rfl rfl (R.ext rfl rfl) ?_
      refine L.val rfl rfl (R.ext rfl rfl) ?_
      refine L.val rfl rfl (R.as rfl) ?_
      refine L.val rfl rfl (R.as rfl) ?_
      refine L.nil ?_
      refine N.seq ?_
      refine G.seq ?_
      refine G.seq ?_
      refine G.region ?_
      refine L.val rfl rfl (R.mv rfl) ?_
      refine L.val rfl rfl (R.neI rfl rfl) ?_
      refine L.nil ?_
      refine N.seq ?_
      refine G.condP rfl (fun h2 => ?_) (fun h2 => ?_)
      · refine G.seq ?_
        refine G.region ?_
        refine L.val rfl rfl (R.mv rfl) ?_
        refine L.val rfl rfl (R.eqNilP rfl rfl) ?_
        refine L.val rfl rfl (R.as rfl) ?_
        refine L.nil ?_
        refine N.seq ?_
        refine G.ret1 rfl rfl ?_
        first | exact ⟨rfl, E⟩ | exact ⟨congrArg Value.bool (by simp), E⟩
      · exact absurd (Classical.not_not.1 h2) hx

end Go.Proofs.Ytjmlcodlnohgdaa
