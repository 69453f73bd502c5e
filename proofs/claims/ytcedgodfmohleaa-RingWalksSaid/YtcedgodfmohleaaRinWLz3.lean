/-
  Texts of this claim, put together.
-/
import Derived.Test.YtcedgodfmohleaaRinWLz2
/-
  Package record: Put.
-/
set_option linter.unusedVariables false
set_option linter.unusedSimpArgs false
set_option maxRecDepth 4000
namespace Go.Proofs.Ytcedgodfmohleaa
open Go Brv Brv.Crc Brv.Pack Brv.Frame Brv.Rec
theorem recL_zero (kd tl nu : Int) (ws : List (Int × List UInt8)) : recL kd tl nu ws 0 = headB kd tl nu ++ be 2 ws.length := by unfold recL bodyB; simp
theorem recL_all (tl nu : Int) (ws : List (Int × List UInt8)) : recL 3 tl nu ws ws.length = recB 3 tl nu ws := by unfold recL recB; rw [List.take_length, if_pos rfl, List.append_assoc]
theorem vbs_two {b : Int} {L l : List UInt8} (h : 0 ≤ b ∧ b ≤ 63) : vbs L ++ [Value.int .u8 0, Value.int .u8 b] ++ vbs l = vbs (L ++ be 2 b.toNat ++ l) := by rw [vbs_be2 h, vbs_app, vbs_app]
theorem rputK (kd tl nu : Int) (a : Option Addr) (c : Nat) (xs : List WrX) (hs : xs.length ≤ 1000000) : SpecS Try.prog 53 [.agg #[iv kd, iv tl, iv nu, .slice a xs.length c]] [wsA a xs] (fun v H' => ∃ a' c', (putR kd tl nu (xs.map wrV)).length ≤ c' ∧ v = .slice a' (putR kd tl nu (xs.map wrV)).length c' ∧ H' = [own 5 1 a' (putR kd tl nu (xs.map wrV)).length c' (vbs ((putR kd tl nu (xs.map wrV))))]) := by
  refine EN Try.func53 rfl rfl fun o => ?_
  obtain ⟨ws, hws⟩ : ∃ ws, ws = xs.map wrV := ⟨_, rfl⟩
  have hwl : ws.length = xs.length := by rw [hws, List.length_map]
  rw [← hws]
  refine Xp rfl (BX rfl fun b1 => ?_)
  refine Xp rfl (LA rfl ?_)
  refine DL0 rfl go31 (rrightK _ _ _ _ _ _) (N0 ?_)
  rw [← hws]
  refine Xp rfl (CB rfl (fun h0 => ?_) (fun h0 => ?_))
  · have hno : ¬ okR kd tl nu ws := fun h => by rw [rightB_iff.2 h] at h0; cases h0
    rw [putR_no hno]
    refine IM (Imp.ownNil 5 1) ?_
    refine Xp rfl (R1 rfl rfl (⟨none, 0, Nat.le_refl _, rfl, rfl⟩))
  · have hok : okR kd tl nu ws := rightB_iff.1 (by simpa using h0)
    rw [putR_yes hok]
    have hkd : 1 ≤ kd ∧ kd ≤ 3 := by rcases hok with ⟨h, _⟩ | ⟨h, _⟩ | ⟨h, _⟩ <;> omega
    have htn : kd ≠ 2 → okTN tl nu := by intro h; rcases hok with ⟨_, h1, _⟩ | ⟨h1, _⟩ | ⟨_, h1, _⟩ <;> first | exact h1 | exact absurd h1 h
    obtain ⟨L1, hL1⟩ : ∃ L, L = be 1 kd.toNat := ⟨_, rfl⟩
    have hl1 : L1.length = 1 := by rw [hL1, be_length]
    refine Xp rfl (BU rfl rfl ?_)
    refine BX rfl fun b11 => ?_
    refine Xpf 4 rfl ?_
    refine IM (Imp.penNew (show Sel _ (blk b11 _ _) _ from sE0)) ?_
    refine Xp rfl (LD rfl ?_)
    refine DL0 rfl go71 (pnumK 1 _ _ _) (N1 ?_)
    rw [List.nil_append, ← hL1]
    refine Xp rfl (LD rfl ?_)
    refine Xp rfl (CD rfl (fun h1 => ?_) (fun h1 => ?_))
    · have ht := htn h1
      unfold okTN at ht
      have hhd : headB kd tl nu = L1 ++ be 4 tl.toNat ++ be 8 nu.toNat := by unfold headB; rw [if_neg h1, hL1, List.append_assoc]
      have hhl : (headB kd tl nu).length = 13 := by rw [hhd]; simp [be_length, hl1]
      refine Xp rfl (LD rfl ?_)
      refine DL0 rfl go71 (pnumK 4 _ _ _) (N1 ?_)
      refine Xp rfl (LD rfl ?_)
      have hl2 : (L1 ++ be 4 tl.toNat).length = 5 := by simp [be_length, hl1]
      refine DL0 rfl go71 (pnumK 8 _ _ _) (N1 ?_)
      rw [← hhd]
      refine Xp rfl (LD rfl ?_)
      refine Xp rfl (CD rfl (fun h2 => ?_) (fun h2 => ?_))
      · rw [show recB kd tl nu ws = headB kd tl nu by unfold recB; rw [if_neg h2, List.append_nil]]
        refine Xp rfl (DF2 rfl go72 (pbytesK _ _) fun a31 c31 h31 => N2 ?_)
        refine Xp rfl (R1 rfl rfl (⟨_, _, h31, rfl, rfl⟩))
      · obtain rfl : kd = 3 := by omega
        have hokw : okWs ws := by rcases hok with ⟨h, _⟩ | ⟨h, _⟩ | ⟨_, _, _, h⟩ <;> first | exact h | omega
        have hwn := okWs_len hokw
        refine Xp rfl (LD rfl ?_)
        refine Xp rfl (DL0 rfl go71 (pnumK 2 _ _ _) (N1 ?_))
        rw [show headB 3 tl nu ++ be 2 (xs.length : Int).toNat = recL 3 tl nu ws 0 by rw [recL_zero, Int.toNat_natCast, hwl]]
        have hrl := fun i => recL_len (kd := 3) (tl := tl) (nu := nu) hokw i
        have hr0 := hrl 0
        refine Xp rfl (DF2 rfl go72 (pbytesK _ _) fun a38 c38 h38 => N2 ?_)
        refine Xp rfl (LD rfl ?_)
        refine Xp rfl (LP (fun (x : Nat × Option Addr × Nat) r9 => (42, iv x.1) :: (4, .slice x.2.1 (recL 3 tl nu ws x.1).length x.2.2) :: r9) (fun x R9 => own 5 1 x.2.1 (recL 3 tl nu ws x.1).length x.2.2 (vbs (recL 3 tl nu ws x.1)) :: R9) (fun x => x.1 ≤ xs.length) (fun x => xs.length - x.1) ((0, a38, c38)) [2, 40, 41] rfl (Nat.zero_le _) fun x hj => ?_)
        refine Xp rfl (CD rfl (fun h3 => ?_) (fun h3 => ?_))
        · refine Xpf 5 rfl ?_
          obtain ⟨y, hy⟩ : ∃ y, xs[x.1]? = some y := ⟨_, List.getElem?_eq_getElem (by omega)⟩
          have hyv : ws[x.1]? = some (wrV y) := by rw [hws]; exact wrV_at hy
          obtain ⟨hyb, hyl, _⟩ := hokw _ _ hyv
          simp only [wrV] at hyb hyl
          refine FA (fun w9 F9 S9 s => (s.ws (show Sel _ (wsA a xs) _ from sE0)).2 y (List.mem_of_getElem? hy) |>.2.len) fun hf9 => ?_
          have hyo := hf9; clear hf9
          have hr1 := hrl x.1
          have hr2 := recL_succ (kd := 3) (tl := tl) (nu := nu) hyv
          simp only [wrV] at hr2
          refine Xp rfl (EL xs x.1 y rfl rfl (fun w9 F9 S9 s => (s.ws (show Sel _ (wsA a xs) _ from sE0)).1) (fun p44 => ?_) hy (fun _ _ => rfl))
          refine ASn rfl (fun b6 => ?_) rfl (one_of rfl)
          refine Xp rfl (DR [4, 5, 8] [0, 1, 2, 3, 6, 7, 4, 5, 8, 9] ?_)
          refine Xp rfl (WD rfl ?_)
          refine VP (fun w9 => R.conv rfl y.b (wrap_u8 (by omega))) ?_
          refine Xp rfl (WD rfl ?_)
          refine SW' (CS.buildA rfl rfl rfl rfl rfl [.int .u8 0, .int .u8 y.b] rfl) ?_
          rintro _ _ ⟨b50, rfl, rfl⟩
          refine ⟨⟨OB rfl, ⟨OR, trivial⟩⟩, ?_⟩
          refine SW' (CS.app rfl rfl (show Sel _ (own 5 1 x.2.1 (recL 3 tl nu ws x.1).length x.2.2 (vbs (recL 3 tl nu ws x.1))) _ from sE0) (fun w9 F9 S9 s => s.blkC (show Sel _ (blk b50 _ _) _ from sE0)) rfl (one_of rfl) (by unfold maxLen; omega) (by omega)) ?_
          rintro _ _ ⟨a51, c51, rfl, rfl⟩
          refine ⟨⟨OB rfl, ⟨OR, trivial⟩⟩, ?_⟩
          refine SW' (CS.app rfl rfl (show Sel _ (own 5 1 a51 ((recL 3 tl nu ws x.1).length + 2) c51 _) _ from sE0) (fun w9 F9 S9 s => ((s.ws (show Sel _ (wsA a xs) _ from sE0)).2 y (List.mem_of_getElem? hy)).2.cells) (by rw [vbs_length, Nat.mul_one, hyo]) (vbs_one _) (by unfold maxLen; omega) (by omega)) ?_
          rintro _ _ ⟨a54, c54, rfl, rfl⟩
          refine ⟨⟨OR, ⟨OR, trivial⟩⟩, ?_⟩
          refine Xp rfl ?_
          rw [vbs_two hyb, ← hr2, show (recL 3 tl nu ws x.1).length + 2 + y.n = (recL 3 tl nu ws (x.1 + 1)).length by rw [hr2]; simp [be_length]; omega]
          refine Xp rfl ?_
          exact HD ((x.1 + 1, a54, c54)) (⟨by show xs.length - (x.1 + 1) < xs.length - x.1; omega, by show x.1 + 1 ≤ _; omega⟩)
        · obtain ⟨i, a1, c1⟩ := x
          obtain rfl : i = ws.length := by simp only at hj h3; omega
          rw [recL_all]
          refine FO (show Sel _ (own 5 1 a1 (recB 3 tl nu ws).length c1 (vbs (recB 3 tl nu ws))) _ from sE0) fun ho => ?_
          refine Xp rfl (R1 rfl rfl (⟨_, _, ho.2, rfl, rfl⟩))
    · obtain rfl : kd = 2 := by omega
      have hhd : headB 2 tl nu = L1 := by unfold headB; rw [if_pos rfl, List.append_nil, hL1]
      refine Xp rfl (LD rfl ?_)
      refine Xp rfl (CD rfl (fun h2 => ?_) (fun h2 => ?_))
      · rw [show recB 2 tl nu ws = L1 by unfold recB; rw [if_neg (by decide), List.append_nil, hhd]]
        refine Xp rfl (DF2 rfl go72 (pbytesK _ _) fun a31 c31 h31 => N2 ?_)
        refine Xp rfl (R1 rfl rfl (⟨_, _, h31, rfl, rfl⟩))
      · exfalso; omega

theorem rsecK (kd tl nu : Int) (a : Option Addr) (c : Nat) (xs : List WrX) (hs : xs.length ≤ 1000000) : SpecS Try.prog 56 [.agg #[iv kd, iv tl, iv nu, .slice a xs.length c]] [wsA a xs] (fun v H' => v = iv (secR kd tl nu (xs.map wrV)) ∧ H' = []) := by
  refine EN Try.func56 rfl rfl fun o => ?_
  refine Xp rfl (BX rfl fun b1 => ?_)
  refine Xp rfl (LA rfl ?_)
  refine DL0 rfl go31 (rrightK _ _ _ _ _ _) (N0 ?_)
  refine Xp rfl (CB rfl (fun h0 => ?_) (fun h0 => ?_))
  · have hno : ¬ okR kd tl nu (xs.map wrV) := fun h => by rw [rightB_iff.2 h] at h0; cases h0
    rw [secR_no hno]
    refine Xp rfl (R1 rfl rfl (⟨rfl, rfl⟩))
  · have hok : okR kd tl nu (xs.map wrV) := rightB_iff.1 (by simpa using h0)
    have hbl := recB_len hok
    have hsc := sctI_secN (l := recB kd tl nu (xs.map wrV)) (by omega)
    rw [secR_yes hok]
    refine Xp rfl (LA rfl ?_)
    refine DF2 rfl go53 (rputK _ _ _ _ _ _) fun a7 c7 h7 => N1 ?_
    rw [putR_yes hok] at *
    refine Xpf 2 rfl ?_
    rw [hsc]
    refine Xp rfl (R1 rfl rfl (⟨rfl, rfl⟩))

end Go.Proofs.Ytcedgodfmohleaa
/-
  Package record: Get.
-/
set_option linter.unusedVariables false
set_option linter.unusedSimpArgs false
set_option maxRecDepth 4000
namespace Go.Proofs.Ytcedgodfmohleaa
open Go Brv Brv.Pack Brv.Frame Brv.Rec
def partV (l : List UInt8) : (Int × List UInt8) × List UInt8 × Bool := match partF l with
  | some p => (p.1, p.2, true)
  | none => ((0, []), [], false)
theorem partV_no {l : List UInt8} (h : ¬ (66 ≤ l.length ∧ l[0]? = some 0)) : partV l = ((0, []), [], false) := by unfold partV partF; rw [if_neg h]
theorem partV_yes {l : List UInt8} (h : 66 ≤ l.length ∧ l[0]? = some 0) : partV l = ((((l.getD 1 0).toNat : Int), (l.drop 2).take 64), l.drop 66, true) := by unfold partV partF; rw [if_pos h]; rfl
structure S4 where
  a : Option Addr
  c : Nat
  a' : Option Addr
  c' : Nat
theorem getD0 {l : List UInt8} (h : 0 < l.length) : l[0]? = some (l.getD 0 0) := by rw [List.getElem?_eq_getElem h]; simp [List.getD, h]
theorem rpartK (a : Option Addr) (n c : Nat) (l : List UInt8) (hs : n ≤ c ∧ n ≤ 2621400) : SpecS Try.prog 82 [.slice a n c] [bs a n l] (fun v H' => ∃ y : S4, ((partV l).1.2.length ≤ y.c ∧ (partV l).2.1.length ≤ y.c') ∧ v = .tuple #[.agg #[iv (partV l).1.1, .slice y.a (partV l).1.2.length y.c], .slice y.a' (partV l).2.1.length y.c', .bool (partV l).2.2] ∧ H' = [own 5 1 y.a (partV l).1.2.length y.c (vbs ((partV l).1.2)), bs y.a' (partV l).2.1.length (partV l).2.1]) := by
  refine EN Try.func82 rfl rfl fun o => ?_
  refine FB (show Sel _ (bs a n l) _ from sE0) fun hln => ?_
  refine Xp rfl (AL fun b2 => ?_)
  refine Xp rfl (GP 8 rfl (fun hg1_3 => ?_) (fun hg1_3 => ?_))
  · rw [partV_no (by omega)]
    refine Xp rfl (BU rfl rfl ?_)
    refine SA rfl rfl ?_
    refine Xpf 4 rfl ?_
    refine IM (Imp.ownNil 5 1) ?_
    refine IM (Imp.pure (p := fun w => Bs w none 0 []) (fun w => Bs.nil w)) ?_
    exact R3c rfl rfl rfl rfl (⟨⟨none, 0, none, 0⟩, ⟨Nat.le_refl _, Nat.le_refl _⟩, rfl, rfl⟩)
  · refine Xp rfl (IB (j := 0) rfl rfl fun p10 => ?_)
    refine VL (fun w9 F9 S9 s => R.neI rfl rfl) ?_
    refine Xp rfl (CD rfl (fun h0 => ?_) (fun h0 => ?_))
    · have hb0 : l.getD 0 0 ≠ 0 := fun h => by rw [h] at h0; exact h0 rfl
      rw [partV_no (fun h => by rw [getD0 (by omega)] at h; exact hb0 (by simpa using h.2))]
      refine Xp rfl (BU rfl rfl ?_)
      refine SA rfl rfl ?_
      refine Xpf 4 rfl ?_
      refine IM (Imp.ownNil 5 1) ?_
      refine IM (Imp.pure (p := fun w => Bs w none 0 []) (fun w => Bs.nil w)) ?_
      exact R3c rfl rfl rfl rfl (⟨⟨none, 0, none, 0⟩, ⟨Nat.le_refl _, Nat.le_refl _⟩, rfl, rfl⟩)
    · have hb1 := Crc.lt_u8 (l.getD 1 0)
      have hb0 : l.getD 0 0 = 0 := UInt8.toNat_inj.1 (by have := Classical.not_not.1 h0; simpa using this)
      rw [partV_yes ⟨by omega, by rw [getD0 (by omega), hb0]⟩]
      refine FA (fun w9 F9 S9 s => bs_pt (s.bs (show Sel _ (bs a n l) _ from sE0)) (k := 1) (by omega)) fun hf9 => ?_
      obtain ⟨q, hq⟩ := hf9
      subst hq
      refine Xp rfl (DR [6, 10] [0, 1, 2, 3, 4, 5, 8, 9, 6, 7, 10, 11, 12] ?_)
      refine Xp rfl (VP (fun w9 => R.idx rfl rfl (by decide) (by omega) q rfl) ?_)
      refine VW (fun w9 F9 S9 s => R.ld rfl (bs_ld (k := 1) (s.bs (show Sel _ (bs (some q) n l) _ from sE0)) rfl rfl (by omega))) ?_
      refine Xp rfl (VP (fun w9 => R.slLHi 2 64 rfl rfl rfl rfl rfl (by omega)) ?_)
      refine Xp rfl (VP (fun w9 => R.slLi 66 rfl rfl rfl (by omega)) ?_)
      refine SW' (CS.lendO rfl go89 (bcloneK _ _ _ ((l.drop 2).take 64) (by decide)) (fun w9 F9 S9 s => (s.bs (show Sel _ (bs (some q) n l) _ from sE0)).sub 2 c 64 (by omega) (by omega))) ?_
      rintro _ _ ⟨a21, c21, h21, rfl, rfl⟩
      refine ⟨⟨.inr (fun w9 F9 S9 s => R.ld rfl (bs_ld (k := 1) (s.bs (show Sel _ (bs (some q) n l) _ from sE0)) rfl rfl (by omega))), trivial⟩, ?_⟩
      refine VP (fun w9 => R.buildN (l := [iv ((l.getD 1 0).toNat : Int), .slice a21 64 c21]) rfl rfl) ?_
      refine SW' (CS.stA rfl rfl sE0 (by rfl) (by rfl) (one_of (by rfl))) ?_
      rintro _ _ rfl
      refine ⟨⟨OR, trivial⟩, ?_⟩
      refine Xp rfl ?_
      refine IM (show Imp _ (bs (subA (some q) 66 c 1) (n - 66) (l.drop 66) :: _) from Imp.weak (show Sel _ (bs (some q) n l) _ from sE0) (fun w h => h.drop 66 c (by omega) (by omega))) ?_
      have hp1 : ((l.drop 2).take 64).length = 64 := by rw [List.length_take, List.length_drop]; omega
      have hp2 : n - 66 = (l.drop 66).length := by rw [List.length_drop, hln]
      rw [hp2, show (Value.slice a21 64 c21) = .slice a21 ((l.drop 2).take 64).length c21 by rw [hp1], show own 5 1 a21 64 c21 = own 5 1 a21 ((l.drop 2).take 64).length c21 by rw [hp1]]
      refine Xpf 2 rfl ?_
      exact R3c rfl rfl rfl rfl (⟨⟨a21, c21, subA (some q) 66 c 1, c - 66⟩, ⟨by dsimp only; omega, by dsimp only; omega⟩, rfl, rfl⟩)

theorem partV_f {l : List UInt8} (h : (partV l).2.2 = false) : Rec.partF l = none := by
  unfold partV at h; cases hp : Rec.partF l with | none => rfl | some p => rw [hp] at h; cases h
theorem partV_t {l : List UInt8} (h : (partV l).2.2 = true) : Rec.partF l = some ((partV l).1, (partV l).2.1) := by
  unfold partV at h ⊢; cases hp : Rec.partF l with | none => rw [hp] at h; cases h | some p => rfl
theorem parts_none {N i : Nat} {L l : List UInt8} {ws : List (Int × List UInt8)} (h : partsF N L = (partsF (N - i) l).map fun p => (ws ++ p.1, p.2)) (hi : i < N) (hp : Rec.partF l = none) : partsF N L = none := by
  rw [h, show N - i = (N - (i + 1)) + 1 by omega]; simp only [partsF, hp]; rfl
theorem parts_next {N i : Nat} {L l r : List UInt8} {x : Int × List UInt8} {ws : List (Int × List UInt8)} (h : partsF N L = (partsF (N - i) l).map fun p => (ws ++ p.1, p.2)) (hi : i < N) (hp : Rec.partF l = some (x, r)) : partsF N L = (partsF (N - (i + 1)) r).map fun p => ((ws ++ [x]) ++ p.1, p.2) := by
  rw [h, show N - i = (N - (i + 1)) + 1 by omega]; simp only [partsF, hp, Option.map_map]; congr 1; funext p; simp
theorem parts_len {l : List UInt8} : (partV l).2.1.length ≤ l.length ∧ ((partV l).2.2 = true → (partV l).1.2.length = 64) := by
  unfold partV Rec.partF; split
  · rename_i p hp; split at hp
    · cases hp; exact ⟨by simp, fun _ => by simp [List.length_take, List.length_drop]; omega⟩
    · cases hp
  · exact ⟨by simp, fun h => by cases h⟩
theorem drop_suf {a b : List UInt8} {n : Nat} (h : a <:+ b) (hn : n = b.length) : b.drop (n - a.length) = a := by rw [hn]; exact (List.suffix_iff_eq_drop.1 h).symm
theorem getR_3 {l : List UInt8} {kd tl nu : Int} {xr : List UInt8} {er : Int} (hd : hdN l = ((kd, tl, nu), xr, er)) (h : kd = 3) : getR l = match partsF (numF xr er 2).1 (numF xr er 2).2.1 with
    | none => none
    | some (ws, q) => endR (kd, tl, nu) ws q (numF xr er 2).2.2 := by
  have hs := hdN_suf l
  have hx := numF_suf (hdN l).2.1 (hdN l).2.2 2
  unfold getR
  rw [drop_suf (hx.trans hs) rfl, hd, if_pos h]
  rfl
theorem getR_n {l : List UInt8} {kd tl nu : Int} {xr : List UInt8} {er : Int} (hd : hdN l = ((kd, tl, nu), xr, er)) (h : kd ≠ 3) : getR l = endR (kd, tl, nu) [] xr er := by
  have hs := hdN_suf l
  unfold getR
  rw [drop_suf hs rfl, hd, if_neg h]
theorem Imp.wrAdd {H H1 H2 : List Asn} {xs : List WrX} (x : WrX) (k : Sel H (own 5 1 x.a x.n x.c (vbs x.l)) H1) (h : Sel H1 (sh fun w => ∀ y ∈ xs, wrOk w y) H2) (hc : x.n ≤ x.c) : Imp H (sh (fun w => ∀ y ∈ xs ++ [x], wrOk w y) :: H2) :=
  (Imp.ownBs k).trans ((Imp.both (p := fun w => Bs w x.a x.n x.l) .here h).trans (Imp.weak .here fun w ⟨h1, h2⟩ y hy => (List.mem_append.1 hy).elim (h2 y) fun hy => by rw [List.mem_singleton.1 hy]; exact ⟨hc, h1⟩))
theorem Imp.wsIn {H H1 H2 : List Asn} {a : Option Addr} {n c : Nat} {xs : List WrX} (k : Sel H (own 45 2 a n c (rowsC wrC xs)) H1) (h : Sel H1 (sh fun w => ∀ y ∈ xs, wrOk w y) H2) : Imp H (wsA a xs :: H2) :=
  (Imp.ownSh k (p := fun w => Cells w a (rowsC wrC xs)) (fun w h => h)).trans (Imp.both .here h)
theorem Imp.wsNil {H : List Asn} : Imp H (wsA none [] :: H) := Imp.pure fun w => ⟨Cells.nil _ _, fun x hx => (by cases hx)⟩
structure RwX where
  a : Option Addr
  c : Nat
  xs : List WrX
theorem num2_lt (l : List UInt8) (e : Int) : (numF l e 2).1 ≤ 65535 := by
  unfold numF
  split
  · split
    · have := num_lt (l.take 2)
      have h2 : (l.take (2 : Int).toNat).length ≤ 2 := by rw [List.length_take]; exact Nat.min_le_left _ _
      have h3 : 256 ^ (l.take (2 : Int).toNat).length ≤ 256 ^ 2 := Nat.pow_le_pow_right (by decide) h2
      exact Nat.le_of_lt_succ (Nat.lt_of_lt_of_le this h3)
    · exact Nat.zero_le _
  · exact Nat.zero_le _
structure HdX where
  kd : Int
  tl : Int
  nu : Int
  xr : List UInt8
  er : Int
structure GeY where
  a : Option Addr
  c : Nat
  xs : List WrX
  la : Option Addr
  lc : Nat
  ll : List UInt8
  sl : List UInt8
  e : Int
structure GeX where
  i : Nat
  a : Option Addr
  c : Nat
  xs : List WrX
  la : Option Addr
  lc : Nat
  ll : List UInt8
theorem rgetK (a : Option Addr) (n c : Nat) (l : List UInt8) (hs : n ≤ c ∧ n ≤ 2621400) : SpecS Try.prog 62 [.slice a n c] [bs a n l] (fun v H' => ∃ y : RwX, (y.xs.length ≤ y.c ∧ y.xs.map wrV = (gR l).2.1) ∧ v = .tuple #[.agg #[iv (gR l).1.1, iv (gR l).1.2.1, iv (gR l).1.2.2, .slice y.a y.xs.length y.c], iv (gR l).2.2] ∧ H' = [wsA y.a y.xs]) := by
  refine EN Try.func62 rfl rfl fun o => ?_
  refine FB (show Sel _ (bs a n l) _ from sE0) fun hln => ?_
  refine Xp rfl (AL fun b2 => ?_)
  refine Xp rfl (DL1 rfl go73 (snewK _ _ _ _) fun s12 => N1 ?_)
  refine Xp rfl (DL0 rfl go74 (snumK 1 _ _ _) (N1 ?_))
  obtain ⟨X1, hX1⟩ : ∃ z, z = numF l 0 1 := ⟨_, rfl⟩
  rw [show numF l 0 ((1 : Nat) : Int) = X1 from hX1.symm]
  have qX1 : X1.2.1.length ≤ l.length := by rw [hX1]; exact Nat.le_trans (numF_length _ _ _) (Nat.le_refl _)
  refine BU rfl rfl ?_
  refine AS rfl fun b5 => ?_
  refine Xp rfl (LD rfl ?_)
  refine Xpf 3 rfl ?_
  refine JN (fun (h : HdX) r9 => r9) (fun h R9 => blk b5 [iv h.kd, iv h.tl, iv h.nu, .slice none 0 0] 43 :: scnA s12 h.xr h.er :: R9) (fun h => hdN l = ((h.kd, h.tl, h.nu), h.xr, h.er) ∧ h.xr.length ≤ l.length) [0, 2, 3, 4, 5] [bs a n l, blk b2 [iv 0, iv 0, iv 0, .slice none 0 0] 43] rfl ?_ fun h ⟨hd, qx⟩ => ?_
  · refine CD rfl (fun h0 => ?_) (fun h0 => ?_)
    · refine Xp rfl (DL0 rfl go74 (snumK 4 _ _ _) (N1 ?_))
      obtain ⟨X2, hX2⟩ : ∃ z, z = numF X1.2.1 X1.2.2 4 := ⟨_, rfl⟩
      rw [show numF X1.2.1 X1.2.2 ((4 : Nat) : Int) = X2 from hX2.symm]
      have qX2 : X2.2.1.length ≤ l.length := by rw [hX2]; exact Nat.le_trans (numF_length _ _ _) qX1
      refine Xp rfl (DL0 rfl go74 (snumK 8 _ _ _) (N1 ?_))
      obtain ⟨X3, hX3⟩ : ∃ z, z = numF X2.2.1 X2.2.2 8 := ⟨_, rfl⟩
      rw [show numF X2.2.1 X2.2.2 ((8 : Nat) : Int) = X3 from hX3.symm]
      have qX3 : X3.2.1.length ≤ l.length := by rw [hX3]; exact Nat.le_trans (numF_length _ _ _) qX2
      refine Xp rfl (ST rfl rfl ?_)
      refine Xp rfl (ST rfl rfl ?_)
      refine Xp rfl (HD (⟨(X1.1 : Int), (X2.1 : Int), (X3.1 : Int), X3.2.1, X3.2.2⟩) (⟨by rw [hdN_ne (by rw [← hX1]; exact h0), ← hX1, ← hX2, ← hX3], qX3⟩))
    · refine Xp rfl (HD (⟨(X1.1 : Int), 0, 0, X1.2.1, X1.2.2⟩) (⟨by rw [hdN_eq (by rw [← hX1]; exact h0), ← hX1], qX1⟩))
  · refine Xpf 2 rfl ?_
    have hsuf : l.drop (n - h.xr.length) = h.xr := drop_suf (by have := hdN_suf l; rw [hd] at this; exact this) hln
    refine Xp rfl (CL0 rfl go81 (sleftK _ _ _) (N1 ?_))
    refine Xp rfl (SBl (n - h.xr.length) rfl rfl fun a31 => ?_)
    rw [hsuf, show n - (n - h.xr.length) = h.xr.length by omega]
    refine Xp rfl (LD rfl ?_)
    refine Xpf 3 rfl ?_
    refine JN (fun (x : GeY) r9 => (6, .slice x.la x.ll.length x.lc) :: r9) (fun x R9 => blk b5 [iv h.kd, iv h.tl, iv h.nu, .slice x.a x.xs.length x.c] 43 :: wsA x.a x.xs :: scnA s12 x.sl x.e :: R9) (fun x => getR l = endR (h.kd, h.tl, h.nu) (x.xs.map wrV) x.ll x.e ∧ x.xs.length ≤ x.c ∧ x.xs.length ≤ 65535) [2, 4, 5] [bs a n l, blk b2 [iv 0, iv 0, iv 0, .slice none 0 0] 43] rfl ?_ fun x ⟨hg, hxc, hxn⟩ => ?_
    · refine CD rfl (fun h1 => ?_) (fun h1 => ?_)
      · refine Xp rfl (DL0 rfl go74 (snumK 2 _ _ _) (N1 ?_))
        obtain ⟨X4, hX4⟩ : ∃ z, z = numF h.xr h.er 2 := ⟨_, rfl⟩
        rw [show numF h.xr h.er ((2 : Nat) : Int) = X4 from hX4.symm]
        have hN := num2_lt h.xr h.er
        rw [← hX4] at hN
        have q4 : X4.2.1.length ≤ h.xr.length := by rw [hX4]; exact numF_length _ _ _
        have hsu2 : l.drop (n - X4.2.1.length) = X4.2.1 := drop_suf (by have := hdN_suf l; rw [hd] at this; rw [hX4]; exact (numF_suf _ _ _).trans this) hln
        refine Xp rfl (CL0 rfl go81 (sleftK _ _ _) (N1 ?_))
        refine Xp rfl (SBl (n - X4.2.1.length) rfl rfl fun a43 => ?_)
        rw [hsu2, show n - (n - X4.2.1.length) = X4.2.1.length by omega]
        refine Xpf 10 rfl ?_
        refine IM (Imp.ownNil 45 2) ?_
        refine IM (Imp.pure (p := fun w => ∀ y ∈ ([] : List WrX), wrOk w y) (fun w y hy => by cases hy)) ?_
        refine LP (fun (x : GeX) r9 => (45, iv x.i) :: (6, .slice x.la x.ll.length x.lc) :: r9) (fun x R9 => own 45 2 x.a x.xs.length x.c (rowsC wrC x.xs) :: sh (fun w => ∀ y ∈ x.xs, wrOk w y) :: bs x.la x.ll.length x.ll :: blk b5 [iv h.kd, iv h.tl, iv h.nu, .slice x.a x.xs.length x.c] 43 :: R9) (fun x => (x.i ≤ X4.1 ∧ x.xs.length = x.i) ∧ (x.ll.length ≤ x.lc ∧ x.ll.length ≤ l.length) ∧ partsF X4.1 X4.2.1 = (partsF (X4.1 - x.i) x.ll).map fun p => (x.xs.map wrV ++ p.1, p.2)) (fun x => X4.1 - x.i) (⟨0, none, 0, [], a43, c - (n - X4.2.1.length), X4.2.1⟩) [2, 4, 5, 44] rfl (⟨⟨Nat.zero_le _, rfl⟩, ⟨by show X4.2.1.length ≤ c - (n - X4.2.1.length); omega, by show X4.2.1.length ≤ l.length; omega⟩, by show partsF X4.1 X4.2.1 = (partsF X4.1 X4.2.1).map (fun p => ([] ++ p.1, p.2)); simp⟩) fun x ⟨⟨hi, hxi⟩, ⟨hlc, hll⟩, hp⟩ => ?_
        refine Xp rfl (CD rfl (fun h2 => ?_) (fun h2 => ?_))
        · refine Xp rfl (DF1 rfl go82 (rpartK _ _ _ _) fun y49 h49 => N2 ?_)
          have hpl := parts_len (l := x.ll)
          refine Xp rfl (AS rfl fun b8 => ?_)
          refine Xp rfl (CB rfl (fun h3 => ?_) (fun h3 => ?_))
          · have hgn : getR l = none := by rw [getR_3 hd h1, ← hX4, parts_none hp (by omega) (partV_f (by simpa using h3))]
            refine Xp rfl (BU rfl rfl ?_)
            refine SA rfl rfl ?_
            refine Xpf 3 rfl ?_
            rw [gR_none hgn]
            refine IM (Imp.wsNil) ?_
            exact R2c rfl rfl rfl (⟨⟨none, 0, []⟩, ⟨Nat.le_refl _, rfl⟩, rfl, rfl⟩)
          · replace h3 : (partV x.ll).2.2 = true := by simpa using h3
            refine Xp rfl (LD rfl ?_)
            refine LA rfl ?_
            refine BSA rfl fun b59 => ?_
            refine AP rfl rfl (fun w9 F9 S9 s => s.blkC (show Sel _ (blk b59 _ _) _ from sE0)) fun a60 c60 => ?_
            refine Xp rfl (ST rfl rfl ?_)
            refine Xpf 1 rfl ?_
            refine IM (Imp.wrAdd ((⟨(partV x.ll).1.1, y49.a, (partV x.ll).1.2.length, y49.c, (partV x.ll).1.2⟩ : WrX)) (show Sel _ (own 5 1 y49.a _ y49.c _) _ from sE0) (show Sel _ (sh (fun w => ∀ y ∈ x.xs, wrOk w y)) _ from sE0) h49.1) ?_
            rw [show rowsC wrC x.xs ++ [iv (partV x.ll).1.1, .slice y49.a (partV x.ll).1.2.length y49.c] = rowsC wrC (x.xs ++ [(⟨(partV x.ll).1.1, y49.a, (partV x.ll).1.2.length, y49.c, (partV x.ll).1.2⟩ : WrX)]) by rw [rowsC_app, rowsC_one]; rfl, show x.xs.length + 1 = (x.xs ++ [(⟨(partV x.ll).1.1, y49.a, (partV x.ll).1.2.length, y49.c, (partV x.ll).1.2⟩ : WrX)]).length by rw [List.length_append]; rfl]
            refine Xp rfl ?_
            exact HD (⟨x.i + 1, a60, c60, x.xs ++ [(⟨(partV x.ll).1.1, y49.a, (partV x.ll).1.2.length, y49.c, (partV x.ll).1.2⟩ : WrX)], y49.a', y49.c', (partV x.ll).2.1⟩) (⟨by show X4.1 - (x.i + 1) < X4.1 - x.i; omega, ⟨by show x.i + 1 ≤ _; omega, by show (x.xs ++ [_]).length = x.i + 1; rw [List.length_append, hxi]; rfl⟩, ⟨h49.2, by show (partV x.ll).2.1.length ≤ _; omega⟩, by dsimp only; rw [List.map_append]; exact parts_next hp (by omega) (partV_t h3)⟩)
        · refine Xp rfl ?_
          refine FO (show Sel _ (own 45 2 x.a x.xs.length x.c (rowsC wrC x.xs)) _ from sE0) fun hxo => ?_
          refine IM (Imp.wsIn (show Sel _ (own 45 2 x.a x.xs.length x.c (rowsC wrC x.xs)) _ from sE0) (show Sel _ (sh (fun w => ∀ y ∈ x.xs, wrOk w y)) _ from sE0)) ?_
          exact HD (⟨x.a, x.c, x.xs, x.la, x.lc, x.ll, X4.2.1, X4.2.2⟩) (⟨by rw [getR_3 hd h1, ← hX4, hp, show x.i = X4.1 by omega, Nat.sub_self]; show endR _ ((x.xs.map wrV) ++ []) x.ll _ = _; rw [List.append_nil], hxo.2, by show x.xs.length ≤ _; omega⟩)
      · refine Xp rfl ?_
        refine IM (Imp.wsNil) ?_
        exact HD (⟨none, 0, [], a31, c - (n - h.xr.length), h.xr, h.xr, h.er⟩) (⟨getR_n hd h1, Nat.le_refl _, Nat.zero_le _⟩)
    · refine Xp rfl (CL0 rfl go77 (serrK _ _ _) (N1 ?_))
      refine Xp rfl (GP 67 rfl (fun hg16_3 => ?_) (fun hg16_3 => ?_))
      · have hgn : getR l = none := by rw [hg]; exact endR_no (fun hn => hg16_3 hn.1)
        refine Xp rfl (BU rfl rfl ?_)
        refine SA rfl rfl ?_
        refine Xpf 3 rfl ?_
        rw [gR_none hgn]
        refine IM (Imp.wsNil) ?_
        exact R2c rfl rfl rfl (⟨⟨none, 0, []⟩, ⟨Nat.le_refl _, rfl⟩, rfl, rfl⟩)
      · refine Xp rfl (GP 72 rfl (fun hg16_8 => ?_) (fun hg16_8 => ?_))
        · have hgn : getR l = none := by rw [hg]; exact endR_no (fun hn => by omega)
          refine Xp rfl (BU rfl rfl ?_)
          refine SA rfl rfl ?_
          refine Xpf 3 rfl ?_
          rw [gR_none hgn]
          refine IM (Imp.wsNil) ?_
          exact R2c rfl rfl rfl (⟨⟨none, 0, []⟩, ⟨Nat.le_refl _, rfl⟩, rfl, rfl⟩)
        · refine LA rfl ?_
          refine DL0 rfl go31 (rrightK _ _ _ _ _ _) (N0 ?_)
          refine Xp rfl (CB rfl (fun h4 => ?_) (fun h4 => ?_))
          · have hgn : getR l = none := by rw [hg]; exact endR_no (fun hn => by rw [rightB_iff.2 hn.2.2] at h4; cases h4)
            refine Xp rfl (BU rfl rfl ?_)
            refine SA rfl rfl ?_
            refine Xpf 3 rfl ?_
            rw [gR_none hgn]
            refine IM (Imp.wsNil) ?_
            exact R2c rfl rfl rfl (⟨⟨none, 0, []⟩, ⟨Nat.le_refl _, rfl⟩, rfl, rfl⟩)
          · have hgs : getR l = some ((h.kd, h.tl, h.nu), x.xs.map wrV) := by rw [hg]; exact endR_yes ⟨by omega, by omega, rightB_iff.1 (by simpa using h4)⟩
            refine Xp rfl (LA rfl ?_)
            refine SA rfl rfl ?_
            refine Xpf 3 rfl ?_
            rw [gR_some hgs]
            exact R2c rfl rfl rfl (⟨⟨x.a, x.c, x.xs⟩, ⟨hxc, rfl⟩, rfl, rfl⟩)

end Go.Proofs.Ytcedgodfmohleaa
/-
  Package frame: take.
-/
set_option linter.unusedVariables false
set_option linter.unusedSimpArgs false
set_option maxRecDepth 4000
namespace Go.Proofs.Ytcedgodfmohleaa
open Go Brv Brv.Crc Brv.Pack Brv.Frame
structure GI where
  v0 : Value
  v2 : Value
  v4 : Value
  a : Option Addr
  c : Nat
structure TkX where
  v0 : Value
  v2 : Value
  v4 : Value
  q : Int
  k : Int
def gthA (g : Nat) (lsn at' q k : Int) (body : List UInt8) : Asn := pk fun i : GI => [blk g [iv lsn, iv at', i.v0, iv q, i.v2, iv k, i.v4, iv 0, iv 0, iv 0, iv 0, .slice none 0 0, .slice i.a body.length i.c] 132, own 5 1 i.a body.length i.c (vbs body)]
theorem gtakeK (g : Nat) (lsn q k : Int) (n0 : Nat) (body : List UInt8) (a : Option Addr) (n c : Nat) (l : List UInt8) (hs : (0 ≤ lsn ∧ lsn ≤ 4611686018427387903) ∧ n0 ≤ 70000 ∧ body.length ≤ 40 * n0 ∧ n ≤ 100000000) : SpecS Try.prog 79 [pt g, .slice a n c] [gthA g lsn n0 q k body, bs a n l] (fun v H' => v = iv (takeE lsn n0 q k l) ∧ H' = if takeE lsn n0 q k l = 0 then [gthA g lsn ((n0 : Int) + 1) (qG n0 q (getF l).1) (kG n0 k (getF l).1) (body ++ (getF l).1.2.2.2.2)] else []) := by
  refine EN Try.func79 rfl rfl fun o => ?_
  obtain ⟨hlsn, hn0, hbd, hn⟩ := hs
  refine Xp rfl (DF2 rfl go59 (fgetK _ _ _ _) fun a10 c10 h10 => N1 ?_)
  obtain ⟨F, hF⟩ : ∃ F, F = (getF l).1 := ⟨_, rfl⟩
  obtain ⟨ee, hee⟩ : ∃ e, e = (getF l).2 := ⟨_, rfl⟩
  rw [← hF] at h10
  rw [← hF, ← hee]
  refine Xp rfl (AS rfl fun b5 => ?_)
  refine Xp rfl (CD rfl (fun h0 => ?_) (fun h0 => ?_))
  · have hne : (getF l).2 ≠ 0 := by rw [← hee]; exact h0
    rw [takeE_err hne, ← hee, if_neg h0]
    refine Xp rfl (R1 rfl rfl (⟨rfl, rfl⟩))
  · have he0 : (getF l).2 = 0 := by omega
    have hok := (getF_ok he0).1
    rw [← hF] at hok
    unfold okV okFrame at hok
    refine OP (show Sel _ (gthA g lsn n0 q k body) _ from sE0) fun i => N2 ?_
    refine Xp rfl (LD rfl ?_)
    refine Xpf 3 rfl ?_
    refine JN (fun (x : TkX) r9 => r9) (fun x R9 => blk g [iv lsn, iv n0, x.v0, iv x.q, x.v2, iv x.k, x.v4, iv 0, iv 0, iv 0, iv 0, .slice none 0 0, .slice i.a body.length i.c] 132 :: R9) (fun x => x.q = qG n0 q F ∧ x.k = kG n0 k F) [0, 4, 5] [blk b5 [iv F.1, iv F.2.1, iv F.2.2.1, iv F.2.2.2.1, .slice a10 F.2.2.2.2.length c10] 65, own 5 1 i.a body.length i.c (vbs body), bs a10 F.2.2.2.2.length F.2.2.2.2] rfl ?_ fun x ⟨hq, hk⟩ => ?_
    · refine CD rfl (fun h1 => ?_) (fun h1 => ?_)
      · refine Xp rfl (LA rfl ?_)
        refine Xp rfl (SA rfl rfl ?_)
        refine Xp rfl (HD (⟨iv F.1, iv F.2.2.1, .slice a10 F.2.2.2.2.length c10, F.2.1, F.2.2.2.1⟩) (⟨(if_pos (by omega)).symm, (if_pos (by omega)).symm⟩))
      · refine Xp rfl (HD (⟨i.v0, i.v2, i.v4, q, k⟩) (⟨(if_neg (by omega)).symm, (if_neg (by omega)).symm⟩))
    · refine Xpf 2 rfl ?_
      refine JN (fun (w : Bool) r9 => (7, .bool w) :: r9) (fun w R9 => R9) (fun w => w = decide ((F.2.2.1 + 1 < F.2.2.2.1 ∧ (F.2.2.2.2.length : Int) < 40) ∨ (0 < F.2.2.1 ∧ (F.2.2.2.2.length : Int) = 0))) [0, 4, 5] [blk g [iv lsn, iv n0, x.v0, iv x.q, x.v2, iv x.k, x.v4, iv 0, iv 0, iv 0, iv 0, .slice none 0 0, .slice i.a body.length i.c] 132, blk b5 [iv F.1, iv F.2.1, iv F.2.2.1, iv F.2.2.2.1, .slice a10 F.2.2.2.2.length c10] 65, own 5 1 i.a body.length i.c (vbs body), bs a10 F.2.2.2.2.length F.2.2.2.2] rfl ?_ fun w hw => ?_
      · refine Xp rfl (LD rfl ?_)
        refine Xp rfl (LD rfl ?_)
        refine Xp rfl (GP 31 rfl (fun hg6_6 => ?_) (fun hg6_6 => ?_))
        · refine Xp rfl (LD rfl ?_)
          refine Xp rfl (GP 37 rfl (fun hg6_12 => ?_) (fun hg6_12 => ?_))
          · refine Xp rfl (HD (true) ((decide_eq_true (by omega)).symm))
          · refine Xp rfl (LD rfl ?_)
            refine Xp rfl (GP 41 rfl (fun hg6_16 => ?_) (fun hg6_16 => ?_))
            · refine Xp rfl (LD rfl ?_)
              refine Xp rfl (HD (decide ((F.2.2.2.2.length : Int) = 0)) (decide_eq_decide.2 (by omega)))
            · refine Xp rfl (HD (false) ((decide_eq_false (by omega)).symm))
        · refine Xp rfl (LD rfl ?_)
          refine Xp rfl (GP 41 rfl (fun hg6_16 => ?_) (fun hg6_16 => ?_))
          · refine Xp rfl (LD rfl ?_)
            refine Xp rfl (HD (decide ((F.2.2.2.2.length : Int) = 0)) (decide_eq_decide.2 (by omega)))
          · refine Xp rfl (HD (false) ((decide_eq_false (by omega)).symm))
      · refine Xpf 3 rfl ?_
        refine JN (fun (z : Bool) r9 => (91, .bool z) :: r9) (fun z R9 => R9) (fun z => z = decide (badG lsn n0 x.q x.k F)) [0, 4, 5] [blk g [iv lsn, iv n0, x.v0, iv x.q, x.v2, iv x.k, x.v4, iv 0, iv 0, iv 0, iv 0, .slice none 0 0, .slice i.a body.length i.c] 132, blk b5 [iv F.1, iv F.2.1, iv F.2.2.1, iv F.2.2.2.1, .slice a10 F.2.2.2.2.length c10] 65, own 5 1 i.a body.length i.c (vbs body), bs a10 F.2.2.2.2.length F.2.2.2.2] rfl ?_ fun z hz => ?_
        · refine DR [] [0, 1, 2, 3, 4, 5, 6, 7, 8, 9, 10, 11, 12, 13, 14, 15, 16, 17, 18, 19, 20, 21, 22, 23, 24, 25, 26, 27, 28, 29, 30, 31, 32, 33, 34, 35, 36, 37, 38, 39, 40, 41, 42, 43] ?_
          refine Xp rfl (GB 49 rfl (fun hg7_1 => ?_) (fun hg7_1 => ?_))
          · have hsh : (F.2.2.1 + 1 < F.2.2.2.1 ∧ (F.2.2.2.2.length : Int) < 40) ∨ (0 < F.2.2.1 ∧ (F.2.2.2.2.length : Int) = 0) := of_decide_eq_true (by rw [← hw]; exact hg7_1)
            refine Xp rfl (HD (true) ((decide_eq_true (by unfold badG; omega)).symm))
          · have hsh : ¬ ((F.2.2.1 + 1 < F.2.2.2.1 ∧ (F.2.2.2.2.length : Int) < 40) ∨ (0 < F.2.2.1 ∧ (F.2.2.2.2.length : Int) = 0)) := of_decide_eq_false (by rw [← hw]; exact hg7_1)
            refine Xp rfl (WD rfl ?_)
            refine Xp rfl (WD rfl ?_)
            refine Xp rfl (WD rfl ?_)
            refine Xp rfl (GP 63 rfl (fun hg7_15 => ?_) (fun hg7_15 => ?_))
            · refine Xp rfl (HD (true) ((decide_eq_true (by unfold badG; omega)).symm))
            · refine Xp rfl (WD rfl ?_)
              refine Xp rfl (WD rfl ?_)
              refine Xp rfl (GP 72 rfl (fun hg7_24 => ?_) (fun hg7_24 => ?_))
              · refine Xp rfl (HD (true) ((decide_eq_true (by unfold badG; omega)).symm))
              · refine Xp rfl (WD rfl ?_)
                refine Xp rfl (WD rfl ?_)
                refine Xp rfl (GP 82 rfl (fun hg7_34 => ?_) (fun hg7_34 => ?_))
                · refine Xp rfl (HD (true) ((decide_eq_true (by unfold badG; omega)).symm))
                · refine Xp rfl (WD rfl ?_)
                  refine Xp rfl (WD rfl ?_)
                  refine Xp rfl (HD (decide (F.2.2.2.1 ≠ x.k)) (decide_eq_decide.2 (by unfold badG; omega)))
        · refine Xp rfl (CB rfl (fun h2 => ?_) (fun h2 => ?_))
          · have hb9 : badG lsn n0 x.q x.k F := of_decide_eq_true (by rw [← hz]; exact h2)
            rw [takeE_bad he0 (by rw [← hF, ← hq, ← hk]; exact hb9), if_neg (by decide)]
            refine Xp rfl (R1 rfl rfl (⟨rfl, rfl⟩))
          · have hb9 : ¬ badG lsn n0 x.q x.k F := of_decide_eq_false (by rw [← hz]; exact h2)
            rw [takeE_ok he0 (by rw [← hF, ← hq, ← hk]; exact hb9), if_pos rfl, ← hq, ← hk]
            refine Xp rfl (LD rfl ?_)
            refine Xp rfl (ST rfl rfl ?_)
            refine Xp rfl (DR [7, 10] [0, 1, 2, 3, 4, 5, 6, 7, 8, 9, 10] ?_)
            refine Xp rfl (WD rfl ?_)
            refine Xp rfl (WD rfl ?_)
            refine SW' (CS.app rfl rfl (show Sel _ (own 5 1 i.a body.length i.c (vbs body)) _ from sE0) (fun w9 F9 S9 s => (s.bs (show Sel _ (bs a10 F.2.2.2.2.length F.2.2.2.2) _ from sE0)).cells) (by rw [vbs_length, Nat.mul_one]) (vbs_one _) (by unfold maxLen; omega) (by omega)) ?_
            rintro _ _ ⟨a106, c106, rfl, rfl⟩
            refine ⟨⟨OR, ⟨OR, trivial⟩⟩, ?_⟩
            refine Xp rfl (SW' (CS.st rfl rfl sE0 sE3 rfl) ?_)
            rintro _ _ rfl
            refine ⟨⟨OR, ⟨OR, trivial⟩⟩, ?_⟩
            refine Xpf 4 rfl ?_
            rw [← vbs_app, show body.length + F.2.2.2.2.length = (body ++ F.2.2.2.2).length from List.length_append.symm]
            refine IM (show Imp _ (gthA g lsn ((n0 : Int) + 1) x.q x.k (body ++ F.2.2.2.2) :: _) from Imp.pkIn ⟨x.v0, x.v2, x.v4, a106, c106⟩ sE1) ?_
            refine Xp rfl (R1 rfl rfl (⟨rfl, rfl⟩))

end Go.Proofs.Ytcedgodfmohleaa
/-
  Package frame: Gather.
-/
set_option linter.unusedVariables false
set_option linter.unusedSimpArgs false
set_option maxRecDepth 4000
namespace Go.Proofs.Ytcedgodfmohleaa
open Go Brv Brv.Crc Brv.Pack Brv.Frame
structure GR where
  a : Option Addr
  c : Nat
  b : List UInt8
  n : Int
  e : Int
structure GQ where
  q : Int
  k : Int
  b : List UInt8
theorem gatherK (lsn : Int) (b2 b3 : Nat) (a : Option Addr) (n c : Nat) (l : List UInt8) (N : Nat) (hs : (0 ≤ lsn ∧ lsn ≤ 4611686018427387903) ∧ n = 64 * N ∧ n ≤ c ∧ N ≤ 70000) : SpecS Try.prog 60 [iv lsn, .func (.func 80) #[] #[pt b2, pt b3]] [fz b2 [.slice a n c] 22, fz b3 [iv 64] 3, bs a n l] (fun v H' => ∃ a' c', (gathN lsn (sct l) N 0 0 0 []).2.1.length ≤ c' ∧ v = .tuple #[.slice a' (gathN lsn (sct l) N 0 0 0 []).2.1.length c', iv (gathN lsn (sct l) N 0 0 0 []).2.2.1, iv (gathN lsn (sct l) N 0 0 0 []).2.2.2] ∧ H' = [bs a' (gathN lsn (sct l) N 0 0 0 []).2.1.length (gathN lsn (sct l) N 0 0 0 []).2.1]) := by
  refine EN Try.func60 rfl rfl fun o => ?_
  obtain ⟨hlsn, hn, hc, hN⟩ := hs
  obtain ⟨G, hG⟩ : ∃ G, G = gathN lsn (sct l) N 0 0 0 [] := ⟨_, rfl⟩
  rw [← hG]
  refine Xp rfl (AL fun b4 => ?_)
  refine AL fun b5 => ?_
  refine AL fun b6 => ?_
  refine Xp rfl (GE 12 rfl (decide_eq_false (by omega)) ?_)
  refine Xp rfl (GE 16 rfl (decide_eq_false (by omega)) ?_)
  refine Xp rfl (VL (fun w9 F9 S9 s => R.eqNilF Try.underlying111 rfl rfl) ?_)
  refine Xp rfl (CE rfl (rfl) ?_)
  refine Xp rfl (BU rfl rfl ?_)
  refine BX rfl fun b22 => ?_
  refine IM (Imp.ownNil 5 1) ?_
  refine IM (show Imp _ (gthA b22 lsn ((0 : Nat) : Int) 0 0 [] :: _) from Imp.pkIn ⟨iv 0, iv 0, .slice none 0 0, none, 0⟩ sE1) ?_
  refine AL fun b7 => ?_
  refine ST rfl rfl ?_
  refine Xp rfl (RG (X := GQ) (Y := GR) (fun k x R9 => blk b4 [.slice none 0 0] 22 :: blk b5 [iv 0] 3 :: blk b6 [iv 0] 32 :: blk b7 [pt b22] 130 :: gthA b22 lsn (k : Int) x.q x.k x.b :: R9) (fun k x => x.b.length ≤ 40 * k ∧ gathN lsn (sct l) (N - k) k x.q x.k x.b = G) (fun c k y R9 => blk b4 [.slice y.a y.b.length y.c] 22 :: blk b5 [iv y.n] 3 :: blk b6 [iv y.e] 32 :: bs y.a y.b.length y.b :: R9) (fun c k y => c = .ret ∧ y.b.length ≤ y.c ∧ G.2 = (y.b, y.n, y.e)) (⟨0, 0, []⟩) rfl go80 (chunkI b2 b3 a n c l N hn hc (by omega)) (⟨Nat.zero_le _, hG.symm⟩) ?_ ?_ ?_)
  · rintro l9 k x vs p hk ⟨hb, hg⟩ ⟨a1, rfl, rfl⟩
    refine ⟨rfl, fun o8 => ?_⟩
    refine Xp rfl (RA fun o9 => ?_)
    obtain ⟨m, hm⟩ : ∃ m, N - k = m + 1 := ⟨N - k - 1, by omega⟩
    rw [hm] at hg
    refine Xp rfl (LD rfl ?_)
    refine Xp rfl (DL0 rfl go79 (gtakeK _ _ _ _ _ _ _ _ _ _) (?_))
    refine Xp rfl (CD rfl (fun h1 => ?_) (fun h1 => ?_))
    · rw [if_neg h1]
      refine N0 ?_
      refine IM (Imp.pure (p := fun w => Bs w none 0 []) (fun w => Bs.nil w)) ?_
      refine Xp rfl (ST rfl rfl ?_)
      refine ST rfl rfl ?_
      refine ST rfl rfl ?_
      refine Xpf 2 rfl ?_
      exact RR ⟨none, 0, [], 0, takeE lsn k x.q x.k (sct l k)⟩ ⟨rfl, Nat.le_refl _, by rw [← hg, gathN_err h1]⟩
    · rw [if_pos (Classical.not_not.1 h1)]
      refine N1 ?_
      have hz := takeE_zero (Classical.not_not.1 h1)
      refine Xpf 3 rfl ?_
      refine OP (show Sel _ (gthA b22 lsn ((k : Int) + 1) _ _ _) _ from sE0) fun i => N2 ?_
      refine DR [] [0, 1, 2, 3, 4, 5, 6, 7, 8, 9] ?_
      refine Xp rfl (WD rfl ?_)
      refine Xp rfl (WD rfl ?_)
      refine WD rfl ?_
      refine Xp rfl (WD rfl ?_)
      refine Xp rfl (CD rfl (fun h2 => ?_) (fun h2 => ?_))
      · refine Xp rfl (DR [8, 9, 10] [0, 1, 2, 3, 4, 5, 6, 7, 8, 9, 10] ?_)
        refine Xp rfl (WD rfl ?_)
        refine Xp rfl (WD rfl ?_)
        refine WD rfl ?_
        refine Xp rfl (WD rfl ?_)
        refine SW' (CS.st rfl rfl sE0 sE3 rfl) ?_
        rintro _ _ rfl
        refine ⟨⟨OB rfl, ⟨OB rfl, ⟨OR, ⟨OR, trivial⟩⟩⟩⟩, ?_⟩
        refine SW' (CS.st rfl rfl sE0 sE3 rfl) ?_
        rintro _ _ rfl
        refine ⟨⟨OR, ⟨OR, ⟨OR, ⟨OR, trivial⟩⟩⟩⟩, ?_⟩
        refine SW' (CS.st rfl rfl sE0 sE3 rfl) ?_
        rintro _ _ rfl
        refine ⟨⟨OR, ⟨OR, ⟨OR, ⟨OR, trivial⟩⟩⟩⟩, ?_⟩
        refine Xpf 3 rfl ?_
        refine FO (show Sel _ (own 5 1 i.a (x.b ++ (getF (sct l k)).1.2.2.2.2).length i.c (vbs (x.b ++ (getF (sct l k)).1.2.2.2.2))) _ from sE0) fun ho => ?_
        refine IM (Imp.ownBs (show Sel _ (own 5 1 i.a (x.b ++ (getF (sct l k)).1.2.2.2.2).length i.c (vbs (x.b ++ (getF (sct l k)).1.2.2.2.2))) _ from sE0)) ?_
        exact RR ⟨i.a, i.c, x.b ++ (getF (sct l k)).1.2.2.2.2, (k : Int) + 1, 0⟩ ⟨rfl, ho.2, by rw [← hg, gathN_last (Classical.not_not.1 h1) h2]⟩
      · refine IM (show Imp _ (gthA b22 lsn ((k + 1 : Nat) : Int) (qG k x.q (getF (sct l k)).1) (kG k x.k (getF (sct l k)).1) (x.b ++ (getF (sct l k)).1.2.2.2.2) :: _) from Imp.pkIn i sE1) ?_
        refine Xp rfl ?_
        have hg2 := hg
        rw [gathN_next (Classical.not_not.1 h1) h2] at hg2
        exact RN (⟨qG k x.q (getF (sct l k)).1, kG k x.k (getF (sct l k)).1, x.b ++ (getF (sct l k)).1.2.2.2.2⟩) (⟨by rw [List.length_append]; omega, by rw [show N - (k + 1) = m by omega]; exact hg2⟩)
  · rintro d9 x ⟨hb, hg⟩
    rw [Nat.sub_self] at hg
    have hg2 : G = (N, [], 0, 20) := hg.symm
    rw [hg2]
    refine IM (Imp.pure (p := fun w => Bs w none 0 []) (fun w => Bs.nil w)) ?_
    refine Xp rfl (ST rfl rfl ?_)
    refine ST rfl rfl ?_
    refine ST rfl rfl ?_
    refine Xpf 2 rfl ?_
    exact R3C rfl rfl rfl rfl (⟨none, 0, Nat.le_refl _, rfl, rfl⟩)
  · rintro d9 k c y hk ⟨rfl, h1, h2⟩
    rw [h2]
    exact R3C rfl rfl rfl rfl ⟨_, _, h1, rfl, rfl⟩

end Go.Proofs.Ytcedgodfmohleaa
/-
  Package ring: what stands.
-/
set_option linter.unusedVariables false
set_option linter.unusedSimpArgs false
set_option maxRecDepth 4000
namespace Go.Proofs.Ytcedgodfmohleaa
open Go Brv Brv.Pack Brv.Frame Brv.Rec
structure EntR where
  lsn : Int
  epoch : Int
  n : Int
  h : Int × Int × Int
  ws : List (Int × List UInt8)
/-- What Gather comes to, from a sector on. -/
def gathP (l : List UInt8) (M : Nat) (lsn : Int) (i : Nat) : Nat × List UInt8 × Int × Int := gathN lsn (sct (l.drop (64 * i))) (M - i) 0 0 0 []
/-- Does an entry stand at a place? -/
def goodS (l : List UInt8) (M lsn : Nat) : Prop := (getF (sct l (lsn % M))).2 = 0 ∧ (gathP l M lsn (lsn % M)).2.2.2 = 0 ∧ (gR (gathP l M lsn (lsn % M)).2.1).2.2 = 0 ∧ ((gR (gathP l M lsn (lsn % M)).2.1).1.1 = 1 ↔ lsn % M = 0) ∧ ((gR (gathP l M lsn (lsn % M)).2.1).1.1 = 3 → ((lsn % M : Nat) : Int) + (gathP l M lsn (lsn % M)).2.2.1 < M)
noncomputable def entS (l : List UInt8) (M lsn : Nat) : EntR := ⟨lsn, (getF (sct l (lsn % M))).1.2.1, (gathP l M lsn (lsn % M)).2.2.1, (gR (gathP l M lsn (lsn % M)).2.1).1, (gR (gathP l M lsn (lsn % M)).2.1).2.1⟩
open Classical in
noncomputable def standsV (l : List UInt8) (M lsn : Nat) : EntR × Bool := if goodS l M lsn then (entS l M lsn, true) else (⟨0, 0, 0, (0, 0, 0), []⟩, false)
theorem standsV_no {l : List UInt8} {M lsn : Nat} (h : ¬ goodS l M lsn) : standsV l M lsn = (⟨0, 0, 0, (0, 0, 0), []⟩, false) := by unfold standsV; rw [if_neg h]
theorem standsV_yes {l : List UInt8} {M lsn : Nat} (h : goodS l M lsn) : standsV l M lsn = (entS l M lsn, true) := by unfold standsV; rw [if_pos h]
theorem gathN_n {lsn : Int} {sec : Nat → List UInt8} : ∀ {m i : Nat} {q k : Int} {body : List UInt8}, ((gathN lsn sec m i q k body).2.2.2 = 0 → ∃ j : Nat, (gathN lsn sec m i q k body).2.2.1 = j ∧ i < j ∧ j ≤ i + m) ∧ (gathN lsn sec m i q k body).2.1.length ≤ body.length + 40 * m
  | 0, i, q, k, body => ⟨fun h => by simp [gathN] at h, by simp [gathN]⟩
  | m + 1, i, q, k, body => by
    by_cases h1 : takeE lsn i q k (sec i) = 0
    · have h40 := (takeE_zero h1).2
      by_cases h2 : ((i : Int) + 1) = kG i k (getF (sec i)).1
      · rw [gathN_last h1 h2]
        exact ⟨fun _ => ⟨i + 1, rfl, by omega, by omega⟩, by dsimp only; rw [List.length_append]; omega⟩
      · rw [gathN_next h1 h2]
        have ih := gathN_n (lsn := lsn) (sec := sec) (m := m) (i := i + 1) (q := qG i q (getF (sec i)).1) (k := kG i k (getF (sec i)).1) (body := body ++ (getF (sec i)).1.2.2.2.2)
        refine ⟨fun h => ?_, ?_⟩
        · obtain ⟨j, e, h3, h4⟩ := ih.1 h
          exact ⟨j, e, by omega, by omega⟩
        · have := ih.2
          rw [List.length_append] at this
          omega
    · rw [gathN_err h1]
      exact ⟨fun h => absurd h h1, by simp⟩
theorem rstandsK (a : Option Addr) (n c : Nat) (l : List UInt8) (M lsn : Nat) (hs : (n = 64 * M ∧ n ≤ c) ∧ (1 ≤ M ∧ M ≤ 65535) ∧ lsn ≤ 4611686018427387903) : SpecS Try.prog 43 [.slice a n c, iv (lsn : Int)] [bs a n l] (fun v H' => ∃ y : RwX, (y.xs.length ≤ y.c ∧ y.xs.map wrV = (standsV l M lsn).1.ws) ∧ v = .tuple #[.agg #[iv (standsV l M lsn).1.lsn, iv (standsV l M lsn).1.epoch, iv (standsV l M lsn).1.n, iv (standsV l M lsn).1.h.1, iv (standsV l M lsn).1.h.2.1, iv (standsV l M lsn).1.h.2.2, .slice y.a y.xs.length y.c], .bool (standsV l M lsn).2] ∧ H' = [wsA y.a y.xs]) := by
  refine EN Try.func43 rfl rfl fun o => ?_
  obtain ⟨⟨hn, hc⟩, ⟨hM, hM2⟩, hls⟩ := hs
  refine FB (show Sel _ (bs a n l) _ from sE0) fun hln => ?_
  obtain ⟨i, hi⟩ : ∃ i, i = lsn % M := ⟨_, rfl⟩
  have him : i < M := by rw [hi]; exact Nat.mod_lt _ hM
  have hgs : goodS l M lsn = goodS l M lsn := rfl
  conv at hgs => rhs; unfold goodS
  refine Xp rfl (AL fun b4 => ?_)
  refine Xpf 8 rfl ?_
  refine BE 15 rfl (show _ = iv (M : Int) from congrArg (Value.int .i64) (by omega)) ?_
  refine Xpf 8 rfl ?_
  refine BE 18 rfl (show _ = iv (i : Int) from congrArg (Value.int .i64) (by rw [hi]; exact (Int.natCast_emod lsn M).symm)) ?_
  refine Xp rfl (SB (64 * i) (64) rfl rfl rfl fun a26 => ?_)
  rw [show (l.drop (64 * i)).take 64 = sct l i from rfl]
  refine DF2 rfl go59 (fgetK _ _ _ _) fun a27 c27 h27 => N1 ?_
  obtain ⟨F, hF⟩ : ∃ F, F = getF (sct l i) := ⟨_, rfl⟩
  rw [← hF]
  rw [← hi, ← hF] at hgs
  refine Xp rfl (AS rfl fun b8 => ?_)
  refine Xp rfl (CD rfl (fun h0 => ?_) (fun h0 => ?_))
  · have hno : ¬ goodS l M lsn := fun h => by rw [hgs] at h; exact h0 h.1
    rw [standsV_no hno]
    refine IM (Imp.wsNil) ?_
    refine Xp rfl (BU rfl rfl ?_)
    refine SA rfl rfl ?_
    refine Xp rfl (R2c rfl rfl rfl (⟨⟨none, 0, []⟩, ⟨Nat.le_refl _, rfl⟩, rfl, rfl⟩))
  · refine Xp rfl (SBl (64 * i) rfl rfl fun a38 => ?_)
    refine CL2 rfl go61 (chunkK _ _ _) fun b39 d39 => N2 ?_
    refine DF2 rfl go60 (gatherK _ b39 d39 a38 (n - 64 * i) (c - 64 * i) (l.drop (64 * i)) (M - i)) fun a40 c40 h40 => N1 ?_
    obtain ⟨G, hG⟩ : ∃ G, G = gathP l M lsn i := ⟨_, rfl⟩
    rw [show gathN lsn (sct (l.drop (64 * i))) (M - i) 0 0 0 [] = G from hG.symm] at h40 ⊢
    rw [← hG] at hgs
    have hGn : (G.2.2.2 = 0 → ∃ j : Nat, G.2.2.1 = j ∧ 0 < j ∧ j ≤ 0 + (M - i)) ∧ G.2.1.length ≤ 0 + 40 * (M - i) := by rw [hG]; exact gathN_n
    have hGl := hGn.2
    refine Xp rfl (CD rfl (fun h1 => ?_) (fun h1 => ?_))
    · have hno : ¬ goodS l M lsn := fun h => by rw [hgs] at h; exact h1 h.2.1
      rw [standsV_no hno]
      refine IM (Imp.wsNil) ?_
      refine Xp rfl (BU rfl rfl ?_)
      refine SA rfl rfl ?_
      refine Xp rfl (R2c rfl rfl rfl (⟨⟨none, 0, []⟩, ⟨Nat.le_refl _, rfl⟩, rfl, rfl⟩))
    · obtain ⟨j, hj, hj1, hj2⟩ := hGn.1 (by omega)
      refine Xp rfl (DF1 rfl go62 (rgetK _ _ _ _) fun y49 h49 => N1 ?_)
      obtain ⟨R, hR⟩ : ∃ R, R = gR G.2.1 := ⟨_, rfl⟩
      rw [← hR] at h49 ⊢
      rw [← hR] at hgs
      refine Xp rfl (AS rfl fun b12 => ?_)
      refine Xp rfl (GP 54 rfl (fun hg10_2 => ?_) (fun hg10_2 => ?_))
      · have hno : ¬ goodS l M lsn := fun h => by rw [hgs] at h; exact hg10_2 h.2.2.1
        refine Xpf 23 rfl ?_
        rw [standsV_no hno]
        refine IM (Imp.wsNil) ?_
        refine Xp rfl (BU rfl rfl ?_)
        refine SA rfl rfl ?_
        refine Xp rfl (R2c rfl rfl rfl (⟨⟨none, 0, []⟩, ⟨Nat.le_refl _, rfl⟩, rfl, rfl⟩))
      · refine Xp rfl (LD rfl ?_)
        refine Xp rfl (GB 62 rfl (fun hg10_10 => ?_) (fun hg10_10 => ?_))
        · have hno : ¬ goodS l M lsn := fun h => by rw [hgs] at h; have h4 := h.2.2.2.1; simp [h4] at hg10_10
          refine Xpf 15 rfl ?_
          rw [standsV_no hno]
          refine IM (Imp.wsNil) ?_
          refine Xp rfl (BU rfl rfl ?_)
          refine SA rfl rfl ?_
          refine Xp rfl (R2c rfl rfl rfl (⟨⟨none, 0, []⟩, ⟨Nat.le_refl _, rfl⟩, rfl, rfl⟩))
        · have hki : R.1.1 = 1 ↔ i = 0 := by have h4 := hg10_10; simp at h4; exact h4
          refine Xp rfl (LD rfl ?_)
          refine Xp rfl (GP 66 rfl (fun hg10_14 => ?_) (fun hg10_14 => ?_))
          · refine Xp rfl (CD rfl (fun h2 => ?_) (fun h2 => ?_))
            · have hno : ¬ goodS l M lsn := fun h => by rw [hgs] at h; have := h.2.2.2.2 hg10_14; omega
              refine Xpf 1 rfl ?_
              rw [standsV_no hno]
              refine IM (Imp.wsNil) ?_
              refine Xp rfl (BU rfl rfl ?_)
              refine SA rfl rfl ?_
              refine Xp rfl (R2c rfl rfl rfl (⟨⟨none, 0, []⟩, ⟨Nat.le_refl _, rfl⟩, rfl, rfl⟩))
            · refine Xpf 3 rfl ?_
              have hgd : goodS l M lsn := by rw [hgs]; exact ⟨by omega, by omega, by omega, hki, fun h => by omega⟩
              rw [standsV_yes hgd]
              have hen : entS l M lsn = ⟨lsn, F.1.2.1, G.2.2.1, R.1, R.2.1⟩ := by unfold entS; rw [← hi, ← hF, ← hG, ← hR]
              rw [hen]
              refine Xp rfl (LD rfl ?_)
              refine Xp rfl (LA rfl ?_)
              refine BU (l := [iv (lsn : Int), iv F.1.2.1, iv G.2.2.1, iv R.1.1, iv R.1.2.1, iv R.1.2.2, .slice y49.a y49.xs.length y49.c]) rfl rfl ?_
              refine SA rfl rfl ?_
              refine Xp rfl (R2c rfl rfl rfl (⟨y49, h49, rfl, rfl⟩))
          · refine Xpf 13 rfl ?_
            have hgd : goodS l M lsn := by rw [hgs]; exact ⟨by omega, by omega, by omega, hki, fun h => by omega⟩
            rw [standsV_yes hgd]
            have hen : entS l M lsn = ⟨lsn, F.1.2.1, G.2.2.1, R.1, R.2.1⟩ := by unfold entS; rw [← hi, ← hF, ← hG, ← hR]
            rw [hen]
            refine Xp rfl (LD rfl ?_)
            refine Xp rfl (LA rfl ?_)
            refine BU (l := [iv (lsn : Int), iv F.1.2.1, iv G.2.2.1, iv R.1.1, iv R.1.2.1, iv R.1.2.2, .slice y49.a y49.xs.length y49.c]) rfl rfl ?_
            refine SA rfl rfl ?_
            refine Xp rfl (R2c rfl rfl rfl (⟨y49, h49, rfl, rfl⟩))

end Go.Proofs.Ytcedgodfmohleaa
/-
  Package ring: Walk.
-/
set_option linter.unusedVariables false
set_option linter.unusedSimpArgs false
set_option maxRecDepth 4000
namespace Go.Proofs.Ytcedgodfmohleaa
open Go Brv Brv.Pack Brv.Frame Brv.Rec
structure B4 where
  p : Nat
  q : Nat
  r : Nat
  s : Nat
noncomputable def walkP (l : List UInt8) (M : Nat) (hi : Int) (sg : Nat) : Nat → Nat → Int → List EntR
  | 0, _, _ => []
  | f + 1, at', least => if at' / M = sg ∧ (standsV l M at').2 = true ∧ least ≤ (standsV l M at').1.epoch ∧ (standsV l M at').1.epoch ≤ hi then (standsV l M at').1 :: (if (standsV l M at').1.h.1 = 2 then [] else walkP l M hi sg f (at' + (standsV l M at').1.n.toNat) (standsV l M at').1.epoch) else []
/-- The entries from a place on. -/
noncomputable def walkE (l : List UInt8) (lsn lo hi : Int) : List EntR :=
  if 64 ≤ l.length ∧ l.length % 64 = 0 ∧ 0 ≤ lsn ∧ lsn ≤ 2305843009213693952 then walkP l (l.length / 64) hi (lsn.toNat / (l.length / 64)) (l.length / 64) lsn.toNat lo else []
def WsP (a : Option Addr) (xs : List WrX) (w : World) : Prop := Cells w a (rowsC wrC xs) ∧ ∀ x ∈ xs, wrOk w x
def wkE (es : List EntR) (k : Nat) (vs : List Value) (p : World → Prop) : Prop := ∃ e, ∃ y : RwX, es[k]? = some e ∧ (y.xs.length ≤ y.c ∧ y.xs.map wrV = e.ws) ∧ vs = [.agg #[iv e.lsn, iv e.epoch, iv e.n, iv e.h.1, iv e.h.2.1, iv e.h.2.2, .slice y.a y.xs.length y.c]] ∧ p = WsP y.a y.xs
theorem stands_n {l : List UInt8} {M at' : Nat} (hM : 1 ≤ M) (h : (standsV l M at').2 = true) : ∃ j : Nat, (standsV l M at').1.n = j ∧ 0 < j ∧ j ≤ M - at' % M := by
  unfold standsV at h ⊢
  split
  · rename_i hg
    have := gathN_n (lsn := (at' : Int)) (sec := sct (l.drop (64 * (at' % M)))) (m := M - at' % M) (i := 0) (q := 0) (k := 0) (body := [])
    obtain ⟨j, h1, h2, h3⟩ := this.1 hg.2.1
    exact ⟨j, h1, h2, by omega⟩
  · rename_i hg
    rw [if_neg hg] at h
    cases h
structure WkX where
  k : Nat
  at' : Nat
  f : Nat
  least : Int
theorem rwalkK (a : Option Addr) (n c : Nat) (lsn lo hi : Int) (hn : n ≤ 1000000000) : SpecS Try.prog 20 [.slice a n c, iv lsn, .agg #[iv lo, iv hi]] [] (fun v H' => ∃ b : B4, v = .func (.func 42) #[] #[pt b.p, pt b.q, pt b.r, pt b.s] ∧ H' = [fz b.p [iv ((n / 64 : Nat) : Int)] 3, fz b.q [.slice a n c] 22, fz b.r [iv lsn] 3, fz b.s [iv lo, iv hi] 23]) := by
  refine EN Try.func20 rfl rfl fun o => ?_
  refine Xp rfl (B1 rfl fun b3 => ?_)
  refine B1 rfl fun b4 => ?_
  refine BX rfl fun b5 => ?_
  refine Xp rfl (LD rfl ?_)
  refine Xpf 2 rfl ?_
  refine BE 10 rfl (show _ = iv ((n / 64 : Nat) : Int) from congrArg (Value.int .i64) (by omega)) ?_
  refine AL fun b7 => ?_
  refine ST rfl rfl ?_
  refine Xpf 8 rfl ?_
  refine IM (Imp.fz (show Sel _ (blk b7 _ 3) _ from sE0)) ?_
  refine IM (Imp.fz (show Sel _ (blk b3 _ 22) _ from sE0)) ?_
  refine IM (Imp.fz (show Sel _ (blk b4 _ 3) _ from sE0)) ?_
  refine IM (Imp.fz (show Sel _ (blk b5 _ 23) _ from sE0)) ?_
  exact R1 rfl rfl (⟨⟨b7, b3, b4, b5⟩, rfl, rfl⟩)

theorem rwalk1K (y : Value) (b : B4) (a : Option Addr) (n c : Nat) (l : List UInt8) (lsn lo hi : Int) (hc : n ≤ c) (hN : n ≤ 4194240) (J Jx : Nat → Asn) (hY : ∀ k vs p, k < (walkE l lsn lo hi).length → wkE (walkE l lsn lo hi) k vs p → YSpec Try.prog y vs [sh p, J k] (fun b H' => H' = [if b then J (k + 1) else Jx (k + 1)])) : SpecS Try.prog 42 [y, pt b.p, pt b.q, pt b.r, pt b.s] [J 0, fz b.p [iv ((n / 64 : Nat) : Int)] 3, fz b.q [.slice a n c] 22, fz b.r [iv lsn] 3, fz b.s [iv lo, iv hi] 23, bs a n l] (fun v H' => H' = J (walkE l lsn lo hi).length :: [fz b.p [iv ((n / 64 : Nat) : Int)] 3, fz b.q [.slice a n c] 22, fz b.r [iv lsn] 3, fz b.s [iv lo, iv hi] 23, bs a n l] ∨ ∃ k, k ≤ (walkE l lsn lo hi).length ∧ H' = Jx k :: [fz b.p [iv ((n / 64 : Nat) : Int)] 3, fz b.q [.slice a n c] 22, fz b.r [iv lsn] 3, fz b.s [iv lo, iv hi] 23, bs a n l]) := by
  refine EN Try.func42 rfl rfl fun o => ?_
  refine FB (show Sel _ (bs a n l) _ from sE0) fun hln => ?_
  obtain ⟨es, hes⟩ : ∃ es, es = (walkE l lsn lo hi) := ⟨_, rfl⟩
  rw [← hes] at hY ⊢
  refine Xp rfl (LD rfl ?_)
  refine Xp rfl (GP 13 rfl (fun hg0_2 => ?_) (fun hg0_2 => ?_))
  · have he0 : es = [] := by rw [hes]; unfold walkE; rw [if_neg (by omega)]
    refine Xp rfl (R0 rfl (.inl (by rw [he0])))
  · refine LD rfl ?_
    refine Xp rfl (GP 19 rfl (fun hg0_8 => ?_) (fun hg0_8 => ?_))
    · have he0 : es = [] := by rw [hes]; unfold walkE; rw [if_neg (by omega)]
      refine Xp rfl (R0 rfl (.inl (by rw [he0])))
    · refine LD rfl ?_
      refine Xp rfl (CB rfl (fun h0 => ?_) (fun h0 => ?_))
      · have he0 : es = [] := by rw [hes]; unfold walkE; rw [if_neg (by simp at h0; omega)]
        exact R0 rfl (.inl (by rw [he0]))
      · have hls : 0 ≤ lsn ∧ lsn ≤ 2305843009213693952 := by simpa using h0
        obtain ⟨ln, rfl⟩ := Int.eq_ofNat_of_zero_le hls.1
        obtain ⟨M, hM⟩ : ∃ M, M = n / 64 := ⟨_, rfl⟩
        have hnM : n = 64 * M := by omega
        rw [← hM]
        have hew : es = walkP l M hi (ln / M) M ln lo := by rw [hes]; unfold walkE; rw [if_pos (by omega), ← hln, ← hM, Int.toNat_natCast]
        have hdm := Nat.div_add_mod ln M
        have hml := Nat.mod_lt ln (show M > 0 by omega)
        obtain ⟨sg, hsg⟩ : ∃ sg, sg = ln / M := ⟨_, rfl⟩
        rw [← hsg] at hew hdm
        refine Xp rfl (DR [] [0, 1, 2, 3, 4, 5, 6, 7, 8] ?_)
        refine Xp rfl (WD rfl ?_)
        refine WD rfl ?_
        refine Xp rfl (WD rfl ?_)
        refine VP (fun w9 => R.idxA rfl rfl (by decide) (by decide) _ rfl) ?_
        refine WD rfl ?_
        refine Xp rfl ?_
        refine BE 6 rfl (show _ = iv (sg : Int) from congrArg (Value.int .i64) (by rw [hsg]; exact (Int.natCast_ediv ln M).symm)) ?_
        refine Xp rfl (LP (fun (x : WkX) r9 => (7, iv (x.at' : Int)) :: (8, iv x.least) :: r9) (fun x R9 => J x.k :: R9) (fun x => (x.k ≤ es.length ∧ es.drop x.k = walkP l M hi sg x.f x.at' x.least) ∧ (M * sg + M ≤ x.at' + x.f ∧ x.at' ≤ M * sg + M)) (fun x => M * sg + M + 1 - x.at') (⟨0, ln, M, lo⟩) [0, 1, 2, 4, 6] rfl (⟨⟨Nat.zero_le _, hew⟩, by show M * sg + M ≤ ln + M; omega, by show ln ≤ _; omega⟩) fun x ⟨⟨hk, hd⟩, hf, hat⟩ => ?_)
        refine Xp rfl (LD rfl ?_)
        refine Xpf 1 rfl ?_
        refine BE 32 rfl (show _ = iv ((x.at' / M : Nat) : Int) from congrArg (Value.int .i64) (Int.natCast_ediv x.at' M).symm) ?_
        refine Xp rfl (CD rfl (fun h1 => ?_) (fun h1 => ?_))
        · have hsg2 : x.at' / M = sg := by omega
          have hdm2 := Nat.div_add_mod x.at' M
          rw [hsg2] at hdm2
          have hml2 := Nat.mod_lt x.at' (show M > 0 by omega)
          obtain ⟨f, hff⟩ : ∃ f, x.f = f + 1 := ⟨x.f - 1, by omega⟩
          obtain ⟨V, hV⟩ : ∃ V, V = standsV l M x.at' := ⟨_, rfl⟩
          rw [hff, walkP, ← hV] at hd
          refine Xpf 4 rfl ?_
          have hsb : ln ≤ 2305843009213693952 := by omega
          refine Xp rfl (LD rfl ?_)
          refine Xp rfl (DF1 rfl go43 (rstandsK _ _ _ l M _) fun y38 h38 => N1 ?_)
          rw [← hV] at h38 ⊢
          refine Xp rfl (AS rfl fun b9 => ?_)
          refine Xp rfl (GB 43 rfl (fun hg4_2 => ?_) (fun hg4_2 => ?_))
          · have hV2 : V.2 = false := by simpa using hg4_2
            have hend : es.length = x.k := by
                rw [if_neg (by simp [hV2])] at hd
                have := List.drop_eq_nil_iff.1 hd
                omega
            refine Xp rfl (R0 rfl (.inl (by rw [hend])))
          · have hV2 : V.2 = true := by simpa using hg4_2
            obtain ⟨j, hj, hj1, hj2⟩ := stands_n (l := l) (M := M) (at' := x.at') (by omega) (by rw [← hV]; exact hV2)
            rw [← hV] at hj
            refine Xp rfl (LD rfl ?_)
            refine Xp rfl (VL (fun w9 F9 S9 s => R.idxA rfl rfl (by decide) (by decide) _ rfl) ?_)
            refine LD rfl ?_
            refine Xp rfl (GB 52 rfl (fun hg4_11 => ?_) (fun hg4_11 => ?_))
            · have hep : ¬ (x.least ≤ V.1.epoch ∧ V.1.epoch ≤ hi) := fun h => by rw [decide_eq_true h] at hg4_11; cases hg4_11
              have hend : es.length = x.k := by
                  rw [if_neg (fun h => hep h.2.2)] at hd
                  have := List.drop_eq_nil_iff.1 hd
                  omega
              refine Xp rfl (R0 rfl (.inl (by rw [hend])))
            · have hep : x.least ≤ V.1.epoch ∧ V.1.epoch ≤ hi := by simpa using hg4_11
              rw [if_pos ⟨hsg2, hV2, hep⟩] at hd
              have hkn : x.k < es.length := by
                  refine Nat.lt_of_not_le fun h => ?_
                  rw [List.drop_of_length_le h] at hd
                  cases hd
              have hek : es[x.k]? = some V.1 := by rw [← Nat.add_zero x.k, ← List.getElem?_drop, hd]; rfl
              have hd2 : es.drop (x.k + 1) = if V.1.h.1 = 2 then [] else walkP l M hi sg f (x.at' + V.1.n.toNat) V.1.epoch := by rw [← List.tail_drop, hd]; rfl
              refine Xp rfl (LA rfl ?_)
              refine YC rfl rfl (hY x.k _ _ hkn ⟨V.1, y38, hek, h38, rfl, rfl⟩) fun b55 K hK => ?_
              subst hK
              refine Xp rfl (GB 58 rfl (fun hg4_17 => ?_) (fun hg4_17 => ?_))
              · obtain rfl : b55 = false := by simpa using hg4_17
                refine Xp rfl (R0 rfl (.inr ⟨x.k + 1, by omega, rfl⟩))
              · obtain rfl : b55 = true := by simpa using hg4_17
                refine Xp rfl (LD rfl ?_)
                refine Xp rfl (CD rfl (fun h2 => ?_) (fun h2 => ?_))
                · have hend : es.length = x.k + 1 := by
                      rw [if_pos h2] at hd2
                      have := List.drop_eq_nil_iff.1 hd2
                      omega
                  exact R0 rfl (.inl (by rw [hend]))
                · refine Xp rfl (DR [] [0, 1, 2, 3, 4, 5, 6, 7] ?_)
                  refine Xp rfl (WD rfl ?_)
                  refine Xp rfl (WD rfl ?_)
                  refine Xp rfl ?_
                  refine BE 7 rfl (show _ = iv ((x.at' + j : Nat) : Int) from congrArg (Value.int .i64) (by omega)) ?_
                  refine Xp rfl ?_
                  exact HD (⟨x.k + 1, x.at' + j, f, V.1.epoch⟩) (⟨by show M * sg + M + 1 - (x.at' + j) < M * sg + M + 1 - x.at'; omega, ⟨by show x.k + 1 ≤ _; omega, by show es.drop (x.k + 1) = walkP l M hi sg f (x.at' + j) V.1.epoch; rw [hd2, if_neg h2]; congr 1; omega⟩, by show M * sg + M ≤ x.at' + j + f; omega, by show x.at' + j ≤ _; omega⟩)
        · have hend : es.length = x.k := by
              have : es.drop x.k = [] := by
                rw [hd]
                cases x.f with
                | zero => rfl
                | succ f => rw [walkP, if_neg (fun h => h1 (by rw [h.1]))]
              have := List.drop_eq_nil_iff.1 this
              omega
          refine Xp rfl (RE rfl (.inl (by rw [hend])))

end Go.Proofs.Ytcedgodfmohleaa
/-
  Package dev: Read.
-/
set_option linter.unusedVariables false
set_option linter.unusedSimpArgs false
set_option maxRecDepth 4000
namespace Go.Proofs.Ytcedgodfmohleaa
open Go Brv Brv.Image Brv.Dev
theorem rd_succ {a n : Nat} {s : List UInt8} {wt : List (Nat × List UInt8)} {k : Nat} {x : Nat × List UInt8} (h : wt[k]? = some x) : (wt.take (k + 1)).foldl (rd1 a n) s = rd1 a n ((wt.take k).foldl (rd1 a n) s) x := by
  rw [List.take_add_one, h, List.foldl_append]; rfl
theorem dreadK (d : Nat) (v : DevV) (N : Nat) (p m : Int) : SpecS Try.prog 41 [pt d, iv p, iv m] [dvA d v N] (fun r H' => ∃ a c, (readV v N p m).1.length ≤ c ∧ r = .tuple #[.slice a (readV v N p m).1.length c, iv (readV v N p m).2] ∧ H' = [own 5 1 a (readV v N p m).1.length c (vbs ((readV v N p m).1)), dvA d v N]) := by
  refine EN Try.func41 rfl rfl fun o => ?_
  refine OP4 (show Sel _ (dvA d v N) _ from sE0) fun sa sc wa wc => N4 ?_
  refine FS (φ := v.Wf N ∧ 1 ≤ N ∧ N ≤ 4096) sE0 fun hw => ?_
  obtain ⟨hwf, hN⟩ := hw
  have hst := hwf.len
  have hlf := hwf.left
  refine Xp rfl (CL0 rfl go33 (dableB _ _ _ _ _ _) (N1 ?_))
  refine Xp rfl (CD rfl (fun h0 => ?_) (fun h0 => ?_))
  · have ho : v.off = true := by revert h0; cases v.off <;> simp
    rw [if_pos ho, show readV v N p m = ([], 10) from if_pos ho]
    refine IM (Imp.ownNil 5 1) ?_
    refine Xpf 7 rfl ?_
    refine IM (show Imp _ (dvA d v N :: _) from Imp.pkIn4 sa sc wa wc sE1) ?_
    exact R2 rfl rfl rfl (⟨none, 0, Nat.le_refl _, rfl, rfl⟩)
  · have ho : ¬ v.off = true := by revert h0; cases v.off <;> simp
    refine Xp rfl (DL0 rfl go57 (dthereB _ _ _ _ _ N _ _) (N1 ?_))
    refine Xp rfl (CB rfl (fun h1 => ?_) (fun h1 => ?_))
    · have ht : ¬ thereP N p m := by simpa using h1
      rw [show readV v N p m = ([], 11) by unfold readV; rw [if_neg ho, if_neg ht]]
      refine IM (Imp.ownNil 5 1) ?_
      refine Xpf 6 rfl ?_
      refine IM (show Imp _ (dvA d v N :: _) from Imp.pkIn4 sa sc wa wc sE1) ?_
      exact R2 rfl rfl rfl (⟨none, 0, Nat.le_refl _, rfl, rfl⟩)
    · have ht : thereP N p m := by simpa using h1
      rw [show readV v N p m = (win (laidAll v.stay v.wt) p.toNat m.toNat, 0) by unfold readV; rw [if_neg ho, if_pos ht]]
      unfold thereP at ht
      obtain ⟨p, rfl⟩ := Int.eq_ofNat_of_zero_le ht.1
      obtain ⟨m, rfl⟩ := Int.eq_ofNat_of_zero_le ht.2.1
      rw [Int.toNat_natCast, Int.toNat_natCast]
      refine FO (show Sel _ (own 5 1 sa v.stay.length sc (vbs (v.stay))) _ from sE0) fun hso => ?_
      refine FA (fun w9 F9 S9 s => s.ownM (show Sel _ (own 83 65 wa v.wt.length wc (rowsC waitC v.wt)) _ from sE0)) fun hf9 => ?_
      have hwm := hf9; clear hf9
      unfold maxLen at hwm
      refine Xp rfl (LD rfl ?_)
      refine Xp rfl (VL (fun w9 F9 S9 s => R.slLHi (64 * p) (64 * m) rfl rfl rfl (by omega) (by omega) (by omega)) ?_)
      refine CRO rfl go58 (cloneK _ _ _ (win v.stay p m) (by omega)) (fun w9 F9 S9 s => (s.own (show Sel _ (own 5 1 sa v.stay.length sc (vbs (v.stay))) _ from sE0)).elim fun M h => (Bs.of_own h).sub (64 * p) sc (64 * m) (by omega) (by omega)) fun a c hc => ?_
      obtain ⟨V, hV⟩ : ∃ V : Nat → List UInt8, ∀ k, V k = (v.wt.take k).foldl (rd1 p m) (win v.stay p m) := ⟨_, fun _ => rfl⟩
      obtain ⟨R0, hR⟩ : ∃ R0, R0 = win (laidAll v.stay v.wt) p m := ⟨_, rfl⟩
      have hVe : V v.wt.length = R0 := by rw [hV, hR, List.take_length]; exact rd_fold (by omega) hst hwf.wt
      have hRl : R0.length = 64 * m := by rw [hR]; exact win_length (laidAll_length (s := []) hst hwf.wt) (by omega)
      rw [show win v.stay p m = V 0 from (hV 0).symm, ← hR]
      refine Xp rfl (LD rfl ?_)
      refine Xp rfl (LP (fun (k : Nat) r9 => (39, iv k) :: r9) (fun k R9 => own 5 1 a (64 * m) c (vbs (V k)) :: R9) (fun k => k ≤ v.wt.length) (fun k => v.wt.length - k) (0) [1, 2, 6, 7, 9, 37, 38] rfl (Nat.zero_le _) fun k hj => ?_)
      refine Xp rfl (CD rfl (fun h2 => ?_) (fun h2 => ?_))
      · refine Xpf 5 rfl ?_
        obtain ⟨x, hx⟩ : ∃ x, v.wt[k]? = some x := ⟨_, List.getElem?_eq_getElem (by omega)⟩
        obtain ⟨hxs, hx64⟩ := hwf.wt x (List.mem_of_getElem? hx)
        refine Xp rfl (EL v.wt k x rfl rfl (fun w9 F9 S9 s => s.ownC (show Sel _ (own 83 65 wa v.wt.length wc (rowsC waitC v.wt)) _ from sE0)) (fun p41 => ?_) hx (fun y hy => waitC_len (hwf.wt y hy).2))
        refine ASn rfl (fun b11 => ?_) (waitC_len hx64) (waitC_one x)
        refine Xp rfl (LD rfl ?_)
        refine Xp rfl (GP 47 rfl (fun hg10_4 => ?_) (fun hg10_4 => ?_))
        · refine Xp rfl (LD rfl ?_)
          refine Xp rfl (CD rfl (fun h3 => ?_) (fun h3 => ?_))
          · refine FO (show Sel _ (own 5 1 a (64 * m) c (vbs (V k))) _ from sE0) fun hvo => ?_
            refine FA (fun w9 F9 S9 s => s.ownG (show Sel _ (own 5 1 a (64 * m) c (vbs (V k))) _ from sE0) (by omega)) fun hf9 => ?_
            obtain ⟨g, hg⟩ := hf9
            subst hg
            have hv64 : (vbs x.2).length = 64 := by rw [vbs_length, hx64]
            refine DR [9] [0, 1, 2, 3, 4, 5, 6, 7, 8, 9] ?_
            refine Xp rfl (WD rfl ?_)
            refine Xp rfl (VP (fun w9 => R.slLo (64 * (x.1 - p)) (64 * (x.1 - p)) rfl rfl (by omega) (by omega) (by omega) (by omega)) ?_)
            refine Xp rfl (VP (fun w9 => R.slA rfl) ?_)
            refine SW' (CS.copyO (i := 64 * (x.1 - p)) rfl rfl (show Sel _ (own 5 1 (some ⟨g, 0, none⟩) (64 * m) c (vbs (V k))) _ from sE0) (fun w9 F9 S9 s => waitC_cells (s.blk (show Sel _ (blk b11 (waitC x) _) _ from sE0))) (by rw [hv64]; exact (Nat.min_eq_left (show 64 ≤ 64 * m - 64 * (x.1 - p) by omega)).symm) (by omega) (vbs_one _) (by omega)) ?_
            rintro _ _ ⟨rfl, rfl⟩
            refine ⟨⟨OR, trivial⟩, ?_⟩
            rw [vbs_laid _ _ _ hx64, show laid (V k) (x.1 - p) x.2 = V (k + 1) by rw [hV, hV, rd_succ hx, rd1, if_pos (by omega)]]
            refine Xp rfl ?_
            exact HD (k + 1) (⟨by omega, by omega⟩)
          · refine Xp rfl ?_
            rw [show V k = V (k + 1) by rw [hV, hV, rd_succ hx, rd1, if_neg (by omega)]]
            exact HD (k + 1) (⟨by omega, by omega⟩)
        · refine Xp rfl ?_
          rw [show V k = V (k + 1) by rw [hV, hV, rd_succ hx, rd1, if_neg (by omega)]]
          exact HD (k + 1) (⟨by omega, by omega⟩)
      · obtain rfl : k = v.wt.length := by omega
        rw [hVe, ← hRl]
        refine Xpf 9 rfl ?_
        refine IM (show Imp _ (dvA d v N :: _) from Imp.pkIn4 sa sc wa wc sE1) ?_
        exact R2 rfl rfl rfl (⟨_, _, by show R0.length ≤ _; omega, rfl, rfl⟩)

theorem dwriteK (d : Nat) (v : DevV) (N : Nat) (p : Int) (a : Option Addr) (n c : Nat) (b : List UInt8) (hs : (0 ≤ v.calls ∧ v.calls ≤ 1000000000) ∧ v.wt.length ≤ 1000000 ∧ n ≤ 262144 ∧ n ≤ c) : SpecS Try.prog 54 [pt d, iv p, .slice a n c] [dvA d v N, bs a n b] (fun r H' => r = iv (writeV v N p b).2 ∧ H' = [dvA d ((writeV v N p b).1) N]) := by
  refine EN Try.func54 rfl rfl fun o => ?_
  refine OP4 (show Sel _ (dvA d v N) _ from sE0) fun sa sc wa wc => N4 ?_
  refine FS (φ := v.Wf N ∧ 1 ≤ N ∧ N ≤ 4096) sE0 fun hw => ?_
  obtain ⟨hwf, hN⟩ := hw
  have hst := hwf.len
  have hlf := hwf.left
  refine FB (show Sel _ (bs a n b) _ from sE0) fun hbl => ?_
  refine Xp rfl (B1 rfl fun b3 => ?_)
  refine B1 rfl fun b4 => ?_
  refine Xp rfl (LD rfl ?_)
  refine CL0 rfl go33 (dableB _ _ _ _ _ _) (N1 ?_)
  refine Xp rfl (CD rfl (fun h0 => ?_) (fun h0 => ?_))
  · have ho : v.off = true := by revert h0; cases v.off <;> simp
    rw [if_pos ho, show writeV v N p b = (v, 10) from if_pos ho]
    refine Xpf 6 rfl ?_
    refine IM (show Imp _ (dvA d v N :: _) from Imp.pkIn4 sa sc wa wc sE1) ?_
    exact R1 rfl rfl (⟨rfl, rfl⟩)
  · have ho : ¬ v.off = true := by revert h0; cases v.off <;> simp
    refine Xp rfl (CD rfl (fun h1 => ?_) (fun h1 => ?_))
    · rw [show writeV v N p b = (v, 2) by unfold writeV; rw [if_neg ho, if_pos (by omega)]]
      refine Xpf 5 rfl ?_
      refine IM (show Imp _ (dvA d v N :: _) from Imp.pkIn4 sa sc wa wc sE1) ?_
      exact R1 rfl rfl (⟨rfl, rfl⟩)
    · have h64 : ¬ b.length % 64 ≠ 0 := by omega
      obtain ⟨m, hm⟩ : ∃ m, m = dn b := ⟨_, rfl⟩
      have hmn : n = 64 * m := by rw [hm]; unfold dn; omega
      refine Xp rfl (LD rfl ?_)
      refine LD rfl ?_
      refine Xp rfl ?_
      refine BE 24 rfl (show _ = iv (m : Int) from congrArg (Value.int .i64) (by omega)) ?_
      refine DL0 rfl go57 (dthereB _ _ _ _ _ N _ _) (N1 ?_)
      refine Xp rfl (CB rfl (fun h2 => ?_) (fun h2 => ?_))
      · have ht : ¬ thereP N p m := by simpa using h2
        rw [show writeV v N p b = (v, 11) by unfold writeV; rw [if_neg ho, if_neg h64, if_pos (by rw [← hm]; exact ht)]]
        refine Xpf 5 rfl ?_
        refine IM (show Imp _ (dvA d v N :: _) from Imp.pkIn4 sa sc wa wc sE1) ?_
        exact R1 rfl rfl (⟨rfl, rfl⟩)
      · have ht : thereP N p m := by simpa using h2
        have ht2 := ht
        unfold thereP at ht2
        obtain ⟨p, rfl⟩ := Int.eq_ofNat_of_zero_le ht2.1
        refine Xp rfl (LD rfl ?_)
        refine DL0 rfl go34 (dcallB _ _ _ v) (N1 ?_)
        refine Xp rfl (CB rfl (fun h3 => ?_) (fun h3 => ?_))
        · have hcl : (callV v).2 = false := by simpa using h3
          have hwv : writeV v N p b = ((callV v).1, 10) := by unfold writeV; rw [if_neg ho, if_neg h64, if_neg (by rw [← hm]; exact fun h => h ht), if_neg (by simp [hcl])]
          obtain ⟨u, hu⟩ : ∃ u, u = (callV v).1 := ⟨_, rfl⟩
          have huw : u.Wf N := by rw [hu]; exact callV_wf hwf
          obtain ⟨hu1, hu2⟩ : u.stay = v.stay ∧ u.wt = v.wt := by rw [hu]; exact callV_same v
          rw [hwv, ← hu]
          dsimp only
          rw [← hu1, ← hu2]
          refine Xpf 5 rfl ?_
          refine IM (Imp.add (sh_any (show u.Wf N ∧ 1 ≤ N ∧ N ≤ 4096 from ⟨huw, hN⟩))) ?_
          refine IM (show Imp _ (dvA d u N :: _) from Imp.pkIn4 sa sc wa wc sE1) ?_
          exact R1 rfl rfl (⟨rfl, rfl⟩)
        · have hcl : (callV v).2 = true := by simpa using h3
          have hwv : writeV v N p b = ({ (callV v).1 with wt := (callV v).1.wt ++ secsF p b m }, 0) := by unfold writeV; rw [if_neg ho, if_neg h64, if_neg (by rw [← hm]; exact fun h => h ht), if_pos hcl, ← hm, Int.toNat_natCast]
          obtain ⟨u, hu⟩ : ∃ u, u = (writeV v N p b).1 := ⟨_, rfl⟩
          have huw : u.Wf N := by rw [hu]; exact writeV_wf hwf
          obtain ⟨hu1, hu2⟩ := callV_same v
          have hst2 : u.stay = v.stay := by rw [hu, hwv]; exact hu1
          have hwt2 : u.wt = v.wt ++ secsF p b m := by rw [hu, hwv]; show (callV v).1.wt ++ _ = _; rw [hu2]
          obtain ⟨hc1, hc2, hc3⟩ : (callV v).1.calls = u.calls ∧ (callV v).1.left = u.left ∧ (callV v).1.off = u.off := by rw [hu, hwv]; exact ⟨rfl, rfl, rfl⟩
          rw [hc1, hc2, hc3, ← hu, hwv]
          dsimp only
          refine Xp rfl (CL2 rfl go61 (chunkK _ _ _) fun b32 d32 => N2 ?_)
          refine Xpf 3 rfl ?_
          rw [show rowsC waitC v.wt = rowsC waitC (v.wt ++ secsF p b 0) by simp [secsF]]
          refine RG (X := Option Addr × Nat) (Y := Unit) (fun k x R9 => blk b4 [iv ((p + k : Nat) : Int)] 3 :: blk d [.slice sa v.stay.length sc, .slice x.1 (v.wt.length + k) x.2, iv u.calls, iv u.left, .bool u.off] 74 :: own 83 65 x.1 (v.wt.length + k) x.2 (rowsC waitC (v.wt ++ secsF p b k)) :: R9) (fun k x => k ≤ m) (fun c k _ R9 => R9) (fun c k _ => False) ((wa, wc)) rfl go80 (chunkI b32 d32 a n c b m hmn (by omega) (by omega)) (Nat.zero_le _) ?_ ?_ ?_
          · rintro l9 k x vs p hk hk ⟨a1, rfl, rfl⟩
            refine ⟨rfl, fun o8 => ?_⟩
            refine Xp rfl (RA fun o9 => ?_)
            refine Xpf 2 rfl ?_
            refine FA (fun w9 F9 S9 s => bs_pt (s.bs (show Sel _ (bs a1 64 (sct b k)) _ from sE0)) (k := 0) (by decide)) fun hf9 => ?_
            obtain ⟨q, hq⟩ := hf9
            refine FB (show Sel _ (bs a1 64 (sct b k)) _ from sE0) fun hsl => ?_
            subst hq
            have hs65 : (waitC (p + k, sct b k)).length = 65 := waitC_len hsl.symm
            refine DR [10, 11, 14] [0, 1, 2, 3, 4, 5, 6, 7, 8, 9, 10, 11, 12, 13, 14] ?_
            refine Xp rfl (WD rfl ?_)
            refine WD rfl ?_
            refine Xp rfl (WD rfl ?_)
            refine WD rfl ?_
            refine Xp rfl (VP (fun w9 => R.s2ap rfl (by decide)) ?_)
            refine VW (fun w9 F9 S9 s => R.ldN rfl (s.bs (show Sel _ (bs (some q) 64 (sct b k)) _ from sE0)).cells (by rw [vbs_length, ← hsl])) ?_
            refine VP (fun w9 => R.buildN rfl (fill_arr (by rw [vbs_length, ← hsl]))) ?_
            refine SW' (CS.bsa (cs := waitC (p + k, sct b k)) rfl hs65) ?_
            rintro _ _ ⟨b44, rfl, rfl⟩
            refine ⟨⟨OR, ⟨OR, ⟨OB rfl, ⟨OB rfl, ⟨OB rfl, trivial⟩⟩⟩⟩⟩, ?_⟩
            refine SW' (CS.app rfl rfl (show Sel _ (own 83 65 x.1 (v.wt.length + k) x.2 (rowsC waitC (v.wt ++ secsF p b k))) _ from sE0) (fun w9 F9 S9 s => s.blkC (show Sel _ (blk b44 _ _) _ from sE0)) (by rw [hs65]) (waitC_one _) (by unfold maxLen; omega) (by omega)) ?_
            rintro _ _ ⟨a45, c45, rfl, rfl⟩
            refine ⟨⟨OR, ⟨OR, ⟨OR, ⟨OR, ⟨OB rfl, trivial⟩⟩⟩⟩⟩, ?_⟩
            refine Xp rfl (SW' (CS.st rfl rfl sE0 sE3 rfl) ?_)
            rintro _ _ rfl
            refine ⟨⟨OR, ⟨OR, ⟨OR, ⟨OR, ⟨OR, trivial⟩⟩⟩⟩⟩, ?_⟩
            refine Xp rfl ?_
            rw [show rowsC waitC (v.wt ++ secsF p b k) ++ waitC (p + k, sct b k) = rowsC waitC (v.wt ++ secsF p b (k + 1)) by rw [secsF_succ, ← List.append_assoc, rowsC_app (v.wt ++ secsF p b k), rowsC_one]; rfl]
            refine Xp rfl (LD rfl ?_)
            refine Xp rfl (ST rfl rfl ?_)
            refine Xp rfl (RN ((a45, c45)) (by omega))
          · rintro d9 x hk
            refine Xpf 7 rfl ?_
            rw [show v.wt.length + m = u.wt.length by rw [hwt2, List.length_append, secsF_length], ← hwt2, ← hst2]
            refine IM (Imp.add (sh_any (show u.Wf N ∧ 1 ≤ N ∧ N ≤ 4096 from ⟨huw, hN⟩))) ?_
            refine IM (show Imp _ (dvA d u N :: _) from Imp.pkIn4 sa sc x.1 x.2 sE1) ?_
            exact R1M rfl rfl (⟨rfl, rfl⟩)
          · rintro d9 k c _ hk ⟨⟩

end Go.Proofs.Ytcedgodfmohleaa
/-
  Package dev: Flush, Crash.
-/
set_option linter.unusedVariables false
set_option linter.unusedSimpArgs false
set_option maxRecDepth 4000
namespace Go.Proofs.Ytcedgodfmohleaa
open Go Brv Brv.Image Brv.Dev
theorem dflushK (d : Nat) (v : DevV) (N : Nat) (hs : (0 ≤ v.calls ∧ v.calls ≤ 1000000000)) : SpecS Try.prog 12 [pt d] [dvA d v N] (fun r H' => r = iv (flushV v).2 ∧ H' = [dvA d ((flushV v).1) N]) := by
  refine EN Try.func12 rfl rfl fun o => ?_
  refine OP4 (show Sel _ (dvA d v N) _ from sE0) fun sa sc wa wc => N4 ?_
  refine FS (φ := v.Wf N ∧ 1 ≤ N ∧ N ≤ 4096) sE0 fun hw => ?_
  obtain ⟨hwf, hN⟩ := hw
  have hst := hwf.len
  have hlf := hwf.left
  refine FO (show Sel _ (own 5 1 sa v.stay.length sc (vbs (v.stay))) _ from sE0) fun hso => ?_
  refine FA (fun w9 F9 S9 s => s.ownM (show Sel _ (own 83 65 wa v.wt.length wc (rowsC waitC v.wt)) _ from sE0)) fun hf9 => ?_
  have hwm := hf9; clear hf9
  unfold maxLen at hwm
  refine Xp rfl (CL0 rfl go33 (dableB _ _ _ _ _ _) (N1 ?_))
  refine Xp rfl (CD rfl (fun h0 => ?_) (fun h0 => ?_))
  · have ho : v.off = true := by revert h0; cases v.off <;> simp
    rw [if_pos ho, show flushV v = (v, 10) from if_pos ho]
    refine Xpf 6 rfl ?_
    refine IM (show Imp _ (dvA d v N :: _) from Imp.pkIn4 sa sc wa wc sE1) ?_
    exact R1 rfl rfl (⟨rfl, rfl⟩)
  · have ho : ¬ v.off = true := by revert h0; cases v.off <;> simp
    refine Xp rfl (DL0 rfl go34 (dcallB _ _ _ v) (N1 ?_))
    refine Xp rfl (CB rfl (fun h1 => ?_) (fun h1 => ?_))
    · have hcl : (callV v).2 = false := by simpa using h1
      rw [show flushV v = ((callV v).1, 10) by unfold flushV; rw [if_neg ho, if_neg (by simp [hcl])]]
      obtain ⟨u, hu⟩ : ∃ u, u = (callV v).1 := ⟨_, rfl⟩
      have huw : u.Wf N := by rw [hu]; exact callV_wf hwf
      obtain ⟨hu1, hu2⟩ : u.stay = v.stay ∧ u.wt = v.wt := by rw [hu]; exact callV_same v
      rw [← hu]
      dsimp only
      rw [← hu1, ← hu2]
      refine Xpf 5 rfl ?_
      refine IM (Imp.add (sh_any (show u.Wf N ∧ 1 ≤ N ∧ N ≤ 4096 from ⟨huw, hN⟩))) ?_
      refine IM (show Imp _ (dvA d u N :: _) from Imp.pkIn4 sa sc wa wc sE1) ?_
      exact R1 rfl rfl (⟨rfl, rfl⟩)
    · have hcl : (callV v).2 = true := by simpa using h1
      have hfv : flushV v = ({ (callV v).1 with stay := laidAll (callV v).1.stay (callV v).1.wt, wt := [] }, 0) := by unfold flushV; rw [if_neg ho, if_pos hcl]
      obtain ⟨hv1, hv2⟩ := callV_same v
      obtain ⟨u, hu⟩ : ∃ u, u = (flushV v).1 := ⟨_, rfl⟩
      have huw : u.Wf N := by rw [hu]; exact flushV_wf hwf
      have hs2 : u.stay = laidAll v.stay v.wt := by rw [hu, hfv]; show laidAll _ _ = _; rw [hv1, hv2]
      have hw2 : u.wt = [] := by rw [hu, hfv]
      obtain ⟨hc1, hc2, hc3⟩ : (callV v).1.calls = u.calls ∧ (callV v).1.left = u.left ∧ (callV v).1.off = u.off := by rw [hu, hfv]; exact ⟨rfl, rfl, rfl⟩
      rw [hc1, hc2, hc3, ← hu, hfv]
      dsimp only
      refine Xp rfl (LD rfl ?_)
      refine Xp rfl (LP (fun (k : Nat) r9 => (19, iv k) :: r9) (fun k R9 => own 5 1 sa v.stay.length sc (vbs (laidAll v.stay (v.wt.take k))) :: R9) (fun k => k ≤ v.wt.length) (fun k => v.wt.length - k) (0) [0, 2, 17, 18] rfl (Nat.zero_le _) fun k hj => ?_)
      refine Xp rfl (CD rfl (fun h2 => ?_) (fun h2 => ?_))
      · refine Xpf 5 rfl ?_
        obtain ⟨x, hx⟩ : ∃ x, v.wt[k]? = some x := ⟨_, List.getElem?_eq_getElem (by omega)⟩
        obtain ⟨hxs, hx64⟩ := hwf.wt x (List.mem_of_getElem? hx)
        refine Xp rfl (EL v.wt k x rfl rfl (fun w9 F9 S9 s => s.ownC (show Sel _ (own 83 65 wa v.wt.length wc (rowsC waitC v.wt)) _ from sE0)) (fun p21 => ?_) hx (fun y hy => waitC_len (hwf.wt y hy).2))
        refine ASn rfl (fun b5 => ?_) (waitC_len hx64) (waitC_one x)
        refine Xp rfl (LAn rfl ?_ (waitC_len hx64))
        refine DL0 rfl go35 (dsettleB _ _ _ _ _ _ _ N) (N2 ?_)
        refine Xp rfl ?_
        rw [← laidAll_succ hx]
        exact HD (k + 1) (⟨by omega, by omega⟩)
      · obtain rfl : k = v.wt.length := by omega
        rw [List.take_length, ← hs2]
        refine Xp rfl (ST rfl rfl ?_)
        refine Xpf 7 rfl ?_
        rw [show v.stay.length = u.stay.length by rw [huw.len, hst]]
        rw [show rowsC waitC v.wt = rowsC waitC v.wt from rfl]
        refine IM (Imp.ownNil 83 65) ?_
        have hz : ([] : List Value) = rowsC waitC u.wt := by rw [hw2]; rfl
        rw [show (Value.slice none 0 0) = .slice none u.wt.length 0 by rw [hw2]; rfl, show own 83 65 none 0 0 [] = own 83 65 none u.wt.length 0 (rowsC waitC u.wt) by rw [hw2]; rfl]
        refine IM (Imp.add (sh_any (show u.Wf N ∧ 1 ≤ N ∧ N ≤ 4096 from ⟨huw, hN⟩))) ?_
        refine IM (show Imp _ (dvA d u N :: _) from Imp.pkIn4 sa sc none 0 sE1) ?_
        exact R1 rfl rfl (⟨rfl, rfl⟩)

end Go.Proofs.Ytcedgodfmohleaa
/-
  Package ring: what writes.
-/
set_option linter.unusedVariables false
set_option linter.unusedSimpArgs false
set_option maxRecDepth 4000
namespace Go.Proofs.Ytcedgodfmohleaa
open Go Brv Brv.Image Brv.Dev Brv.Pack Brv.Frame Brv.Rec
/-- The shape of a ring. -/
structure Shp where
  N : Nat
  fr : Int
  sg : Int
  sz : Int
def Shp.ok (s : Shp) : Prop := (0 ≤ s.fr ∧ s.fr ≤ 4096) ∧ (3 ≤ s.sg ∧ s.sg ≤ 64) ∧ (4 ≤ s.sz ∧ s.sz ≤ 64)
def secAt (s : Shp) (lsn : Int) : Int := s.fr + lsn / s.sz % s.sg * s.sz + lsn % s.sz
theorem Shp.at {s : Shp} (h : s.ok) {lsn : Int} (hl : 0 ≤ lsn) : (0 ≤ lsn / s.sz ∧ lsn / s.sz ≤ lsn) ∧ (0 ≤ lsn / s.sz % s.sg ∧ lsn / s.sz % s.sg < s.sg) ∧ (0 ≤ lsn / s.sz % s.sg * s.sz ∧ lsn / s.sz % s.sg * s.sz ≤ 4096) ∧ (0 ≤ lsn % s.sz ∧ lsn % s.sz < s.sz) ∧ lsn / s.sz * s.sz + lsn % s.sz = lsn := by
  unfold Shp.ok at h
  have h1 : 0 ≤ lsn / s.sz := Int.ediv_nonneg hl (by omega)
  have h2 := Int.emod_nonneg (lsn / s.sz) (show s.sg ≠ 0 by omega)
  have h3 := Int.emod_lt_of_pos (lsn / s.sz) (show 0 < s.sg by omega)
  have h4 := Int.mul_le_mul (show lsn / s.sz % s.sg ≤ 64 by omega) (show s.sz ≤ 64 by omega) (by omega) (by omega)
  exact ⟨⟨h1, Int.ediv_le_self _ hl⟩, ⟨h2, h3⟩, ⟨Int.mul_nonneg h2 (by omega), by omega⟩, ⟨Int.emod_nonneg _ (by omega), Int.emod_lt_of_pos _ (by omega)⟩, by rw [Int.mul_comm]; exact Int.mul_ediv_add_emod lsn s.sz⟩
theorem putR_len (kd tl nu : Int) (ws : List (Int × List UInt8)) : (putR kd tl nu ws).length ≤ 4239 := by
  by_cases h : okR kd tl nu ws
  · rw [putR_yes h]; exact recB_len h
  · rw [putR_no h]; exact Nat.zero_le _
theorem secN_le (l : List UInt8) : 1 ≤ secN l ∧ (l.length ≤ 4239 → secN l ≤ 106) := by unfold secN; split <;> omega
theorem secR_le (kd tl nu : Int) (ws : List (Int × List UInt8)) : 0 ≤ secR kd tl nu ws ∧ secR kd tl nu ws ≤ 106 := by
  by_cases h : okR kd tl nu ws
  · rw [secR_yes h]; have := secN_le (recB kd tl nu ws); have := recB_len h; omega
  · rw [secR_no h]; omega
/-- A record, written at a place: the device, the place behind it, the error. -/
noncomputable def wrL (s : Shp) (v : DevV) (lsn ep kd tl nu : Int) (ws : List (Int × List UInt8)) : DevV × Int × Int :=
  ((writeV v s.N (secAt s lsn) (spreadN lsn ep (putR kd tl nu ws) (secN (putR kd tl nu ws)))).1, lsn + (secN (putR kd tl nu ws) : Int), (writeV v s.N (secAt s lsn) (spreadN lsn ep (putR kd tl nu ws) (secN (putR kd tl nu ws)))).2)
open Classical in
noncomputable def startL (s : Shp) (v : DevV) (e sgm ep tl nu : Int) : DevV × Int × Int :=
  if ((0 ≤ sgm ∧ sgm ≤ 1099511627776) ∧ (0 ≤ ep ∧ ep ≤ 4294967295)) ∧ okR 1 tl nu [] then
    ((wrL s v (sgm * s.sz) ep 1 tl nu []).1, if (wrL s v (sgm * s.sz) ep 1 tl nu []).2.2 = 0 then (wrL s v (sgm * s.sz) ep 1 tl nu []).2.1 else e, (wrL s v (sgm * s.sz) ep 1 tl nu []).2.2)
  else (v, e, 2)
def nextL (s : Shp) (e low : Int) : Int × Int := if low ≤ e / s.sz + 1 - s.sg then (0, 30) else (e / s.sz + 1, 0)
open Classical in
noncomputable def roomL (s : Shp) (e kd tl nu : Int) (ws : List (Int × List UInt8)) (low : Int) : Int :=
  if (kd = 3 ∧ okR kd tl nu ws) ∧ e ≠ 0 then (if s.sz - 2 < secR kd tl nu ws then 42 else if e % s.sz + secR kd tl nu ws < s.sz then 0 else (nextL s e low).2) else 2
noncomputable def turnL (s : Shp) (v : DevV) (e n ep kd tl nu : Int) (ws : List (Int × List UInt8)) : DevV × Int × Int :=
  if (wrL s v e ep 2 0 0 []).2.2 = 0 then wrL s (wrL s v e ep 2 0 0 []).1 (n * s.sz) ep kd tl nu ws else ((wrL s v e ep 2 0 0 []).1, 0, (wrL s v e ep 2 0 0 []).2.2)
theorem wrL_bd (s : Shp) (v : DevV) (lsn ep kd tl nu : Int) (ws : List (Int × List UInt8)) : Stp v (wrL s v lsn ep kd tl nu ws).1 (dn (spreadN lsn ep (putR kd tl nu ws) (secN (putR kd tl nu ws)))) := writeV_bd _ _ _ _
theorem rsectorK (l d : Nat) (s : Shp) (e lsn : Int) (hs : s.ok ∧ 0 ≤ lsn ∧ lsn ≤ 4611686018427387903) : SpecS Try.prog 55 [pt l, iv lsn] [blk l [pt d, iv s.fr, iv s.sg, iv s.sz, iv e] 77] (fun v H' => v = iv (secAt s lsn) ∧ H' = [blk l [pt d, iv s.fr, iv s.sg, iv s.sz, iv e] 77]) := by
  refine EN Try.func55 rfl rfl fun o => ?_
  have hat := Shp.at hs.1 hs.2.1
  unfold Shp.ok at hs
  refine Xp rfl (DR [] [0, 1, 2, 3, 4, 5, 6, 7, 8, 9, 10, 11, 12, 13, 14, 15, 16, 17, 18, 19, 20, 21, 22, 23, 24, 25, 26, 27, 28] ?_)
  refine Xp rfl (WD rfl ?_)
  refine Xp rfl (WD rfl ?_)
  refine Xp rfl (WD rfl ?_)
  refine Xp rfl (WD rfl ?_)
  refine Xp rfl (WD rfl ?_)
  refine Xp rfl (R1 rfl rfl (⟨rfl, rfl⟩))

theorem rwriteK (l d : Nat) (s : Shp) (e : Int) (v : DevV) (lsn ep kd tl nu : Int) (a : Option Addr) (c : Nat) (xs : List WrX) (hs : (s.ok ∧ 0 ≤ lsn ∧ lsn ≤ 4611686018427380000) ∧ (0 ≤ ep ∧ ep ≤ 4294967295) ∧ xs.length ≤ 1000000 ∧ (0 ≤ v.calls ∧ v.calls ≤ 999999000) ∧ v.wt.length ≤ 999000) : SpecS Try.prog 32 [pt l, iv lsn, iv ep, .agg #[iv kd, iv tl, iv nu, .slice a xs.length c]] [blk l [pt d, iv s.fr, iv s.sg, iv s.sz, iv e] 77, dvA d v s.N, wsA a xs] (fun r H' => r = .tuple #[iv (wrL s v lsn ep kd tl nu (xs.map wrV)).2.1, iv (wrL s v lsn ep kd tl nu (xs.map wrV)).2.2] ∧ H' = [blk l [pt d, iv s.fr, iv s.sg, iv s.sz, iv e] 77, dvA d (wrL s v lsn ep kd tl nu (xs.map wrV)).1 s.N]) := by
  refine EN Try.func32 rfl rfl fun o => ?_
  have hpl := putR_len kd tl nu (xs.map wrV)
  obtain ⟨PB, hPB⟩ : ∃ PB, PB = putR kd tl nu (xs.map wrV) := ⟨_, rfl⟩
  rw [← hPB] at hpl
  have hsl := secN_le PB
  have hsl2 := hsl.2 hpl
  unfold wrL
  rw [← hPB]
  refine Xp rfl (BX rfl fun b7 => ?_)
  refine Xp rfl (LA rfl ?_)
  refine DF2 rfl go53 (rputK _ _ _ _ _ _) fun a14 c14 h14 => N1 ?_
  rw [← hPB] at h14 ⊢
  refine IM (Imp.ownBs (show Sel _ (own 5 1 a14 _ c14 _) _ from sE0)) ?_
  refine DF2 rfl go52 (fspreadK lsn ep a14 c14 PB) fun a15 c15 h15 => N1 ?_
  refine Xpf 4 rfl ?_
  refine IM (Imp.ownBs (show Sel _ (own 5 1 a15 _ c15 _) _ from sE0)) ?_
  refine DR [11, 13] [0, 1, 2, 3, 4, 5, 6, 7, 8, 9, 10, 12, 11, 13, 14, 15] ?_
  refine Xp rfl (WD rfl ?_)
  refine Xp rfl (SW' (CS.call rfl go55 (rsectorK l d s e lsn ⟨hs.1.1, hs.1.2.1, by omega⟩) sE1) ?_)
  rintro _ _ ⟨_, ⟨rfl, rfl⟩, rfl⟩
  refine ⟨⟨OB rfl, trivial⟩, N1 ?_⟩
  refine SW' (CS.call rfl go54 (dwriteK d v s.N (secAt s lsn) a15 (64 * secN PB) c15 _ ⟨by omega, by omega, by omega, by omega⟩) sE1) ?_
  rintro _ _ ⟨_, ⟨rfl, rfl⟩, rfl⟩
  refine ⟨⟨OR, trivial⟩, N1 ?_⟩
  refine Xp rfl ?_
  refine BE 8 rfl (show _ = iv (lsn + (secN PB : Int)) from congrArg (Value.int .i64) (by omega)) ?_
  refine Xp rfl (R2 rfl rfl rfl (⟨rfl, rfl⟩))

theorem rheadK (tl nu : Int) : SpecS Try.prog 30 [iv tl, iv nu] [] (fun v H' => v = .agg #[iv 1, iv tl, iv nu, .slice none 0 0] ∧ H' = []) := by
  refine EN Try.func30 rfl rfl fun o => ?_
  refine Xp rfl (AL fun b4 => ?_)
  refine Xp rfl (BU rfl rfl ?_)
  refine SA rfl rfl ?_
  refine Xp rfl (R1c rfl rfl (⟨rfl, rfl⟩))

theorem rendK (l d : Nat) (s : Shp) (e : Int) : SpecS Try.prog 17 [pt l] [blk l [pt d, iv s.fr, iv s.sg, iv s.sz, iv e] 77] (fun v H' => v = iv e ∧ H' = [blk l [pt d, iv s.fr, iv s.sg, iv s.sz, iv e] 77]) := by
  refine EN Try.func17 rfl rfl fun o => ?_
  refine Xp rfl (CE rfl (rfl) ?_)
  refine Xp rfl (LD rfl ?_)
  refine Xp rfl (R1 rfl rfl (⟨rfl, rfl⟩))

theorem rfreshK (l d : Nat) (s : Shp) (e : Int) (hs : s.ok ∧ 0 ≤ e ∧ e ≤ 4611686018427387903) : SpecS Try.prog 23 [pt l] [blk l [pt d, iv s.fr, iv s.sg, iv s.sz, iv e] 77] (fun v H' => v = .bool (decide (e % s.sz = 1)) ∧ H' = [blk l [pt d, iv s.fr, iv s.sg, iv s.sz, iv e] 77]) := by
  refine EN Try.func23 rfl rfl fun o => ?_
  have hat := Shp.at hs.1 hs.2.1
  unfold Shp.ok at hs
  refine Xp rfl (DR [] [0, 1, 2, 3, 4, 5, 6, 7, 8, 9, 10, 11, 12, 13, 14] ?_)
  refine Xp rfl (GT 5 rfl (rfl) ?_)
  refine Xp rfl (WD rfl ?_)
  refine Xp rfl (WD rfl ?_)
  refine Xp rfl (R1 rfl rfl (⟨rfl, rfl⟩))

theorem rnextK (l d : Nat) (s : Shp) (e low : Int) (hs : s.ok ∧ 0 ≤ e ∧ e ≤ 4611686018427387903) : SpecS Try.prog 38 [pt l, iv low] [blk l [pt d, iv s.fr, iv s.sg, iv s.sz, iv e] 77] (fun v H' => v = .tuple #[iv (nextL s e low).1, iv (nextL s e low).2] ∧ H' = [blk l [pt d, iv s.fr, iv s.sg, iv s.sz, iv e] 77]) := by
  refine EN Try.func38 rfl rfl fun o => ?_
  have hat := Shp.at hs.1 hs.2.1
  unfold Shp.ok at hs
  refine Xp rfl (DR [] [0, 1, 2, 3, 4, 5, 6, 7, 8, 9, 10] ?_)
  refine Xp rfl (WD rfl ?_)
  refine Xp rfl (WD rfl ?_)
  refine Xp rfl (LD rfl ?_)
  refine Xp rfl (CD rfl (fun h0 => ?_) (fun h0 => ?_))
  · rw [show nextL s e low = (0, 30) from if_pos h0]
    refine Xp rfl (R2 rfl rfl rfl (⟨rfl, rfl⟩))
  · rw [show nextL s e low = (e / s.sz + 1, 0) from if_neg h0]
    refine Xp rfl (R2 rfl rfl rfl (⟨rfl, rfl⟩))

theorem rgoesK (l d : Nat) (s : Shp) (e kd tl nu : Int) (a : Option Addr) (c : Nat) (xs : List WrX) (hs : (s.ok ∧ 0 ≤ e ∧ e ≤ 4611686018427387903) ∧ xs.length ≤ 1000000) : SpecS Try.prog 37 [pt l, .agg #[iv kd, iv tl, iv nu, .slice a xs.length c]] [blk l [pt d, iv s.fr, iv s.sg, iv s.sz, iv e] 77, wsA a xs] (fun v H' => v = .bool (decide (e % s.sz + secR kd tl nu (xs.map wrV) < s.sz)) ∧ H' = [blk l [pt d, iv s.fr, iv s.sg, iv s.sz, iv e] 77]) := by
  refine EN Try.func37 rfl rfl fun o => ?_
  have hat := Shp.at hs.1.1 hs.1.2.1
  unfold Shp.ok at hs
  have hsr := secR_le kd tl nu (xs.map wrV)
  refine Xp rfl (BX rfl fun b3 => ?_)
  refine Xp rfl (DR [10] [0, 1, 2, 3, 4, 5, 6, 7, 8, 9, 12, 13, 14, 15, 10, 11, 16, 17] ?_)
  refine Xp rfl (WD rfl ?_)
  refine Xp rfl (WD rfl ?_)
  refine Xp rfl (VW (fun w9 F9 S9 s => R.ldBN rfl (s.cel sE2) (by rfl)) ?_)
  refine Xp rfl (WD rfl ?_)
  refine SW' (CS.call rfl go56 (rsecK _ _ _ _ _ _ hs.2) sE1) ?_
  rintro _ _ ⟨_, ⟨rfl, rfl⟩, rfl⟩
  refine ⟨⟨OB rfl, ⟨OR, ⟨OB rfl, ⟨OB rfl, trivial⟩⟩⟩⟩, N0 ?_⟩
  refine Xp rfl (R1 rfl rfl (⟨rfl, rfl⟩))

end Go.Proofs.Ytcedgodfmohleaa
/-
  Package ring: the log.
-/
set_option linter.unusedVariables false
set_option linter.unusedSimpArgs false
set_option maxRecDepth 4000
namespace Go.Proofs.Ytcedgodfmohleaa
open Go Brv Brv.Image Brv.Dev Brv.Pack Brv.Frame Brv.Rec
noncomputable def addT (s : Shp) (v : DevV) (e kd tl nu : Int) (ws : List (Int × List UInt8)) (ep low : Int) : DevV × Int × Int :=
  if e % s.sz + secR kd tl nu ws < s.sz then (v, e, 0) else turnL s v e (nextL s e low).1 ep 1 tl nu []
/-- The device and the end; the place; the error. -/
noncomputable def addL (s : Shp) (v : DevV) (e kd tl nu : Int) (ws : List (Int × List UInt8)) (ep low : Int) : (DevV × Int) × Int × Int :=
  if roomL s e kd tl nu ws low ≠ 0 then ((v, e), 0, roomL s e kd tl nu ws low) else if ¬ (0 ≤ ep ∧ ep ≤ 4294967295) then ((v, e), 0, 2)
  else if (addT s v e kd tl nu ws ep low).2.2 ≠ 0 then (((addT s v e kd tl nu ws ep low).1, e), 0, (addT s v e kd tl nu ws ep low).2.2)
  else if (wrL s (addT s v e kd tl nu ws ep low).1 (addT s v e kd tl nu ws ep low).2.1 ep kd tl nu ws).2.2 ≠ 0 then (((wrL s (addT s v e kd tl nu ws ep low).1 (addT s v e kd tl nu ws ep low).2.1 ep kd tl nu ws).1, e), 0, (wrL s (addT s v e kd tl nu ws ep low).1 (addT s v e kd tl nu ws ep low).2.1 ep kd tl nu ws).2.2)
  else (((wrL s (addT s v e kd tl nu ws ep low).1 (addT s v e kd tl nu ws ep low).2.1 ep kd tl nu ws).1, (wrL s (addT s v e kd tl nu ws ep low).1 (addT s v e kd tl nu ws ep low).2.1 ep kd tl nu ws).2.1), (addT s v e kd tl nu ws ep low).2.1, 0)
open Classical in
noncomputable def turnT (s : Shp) (v : DevV) (e ep low tl nu : Int) : (DevV × Int) × Int :=
  if ((0 ≤ ep ∧ ep ≤ 4294967295) ∧ okR 1 tl nu []) ∧ e ≠ 0 then
    if e % s.sz = 1 then ((v, e), 52) else if (nextL s e low).2 ≠ 0 then ((v, e), (nextL s e low).2)
    else if (turnL s v e (nextL s e low).1 ep 1 tl nu []).2.2 = 0 then (((turnL s v e (nextL s e low).1 ep 1 tl nu []).1, (turnL s v e (nextL s e low).1 ep 1 tl nu []).2.1), 0) else (((turnL s v e (nextL s e low).1 ep 1 tl nu []).1, e), (turnL s v e (nextL s e low).1 ep 1 tl nu []).2.2)
  else ((v, e), 2)
theorem rsegK (l d : Nat) (s : Shp) (e : Int) (v : DevV) (n : Int) (hs : s.ok ∧ 0 ≤ n) : SpecS Try.prog 19 [pt l, iv n] [blk l [pt d, iv s.fr, iv s.sg, iv s.sz, iv e] 77, dvA d v s.N] (fun r H' => ∃ a c, (readV v s.N (s.fr + n % s.sg * s.sz) s.sz).1.length ≤ c ∧ r = .tuple #[.slice a (readV v s.N (s.fr + n % s.sg * s.sz) s.sz).1.length c, iv (readV v s.N (s.fr + n % s.sg * s.sz) s.sz).2] ∧ H' = [own 5 1 a (readV v s.N (s.fr + n % s.sg * s.sz) s.sz).1.length c (vbs ((readV v s.N (s.fr + n % s.sg * s.sz) s.sz).1)), blk l [pt d, iv s.fr, iv s.sg, iv s.sz, iv e] 77, dvA d v s.N]) := by
  refine EN Try.func19 rfl rfl fun o => ?_
  unfold Shp.ok at hs
  have h2 := Int.emod_nonneg n (show s.sg ≠ 0 by omega)
  have h3 := Int.emod_lt_of_pos n (show 0 < s.sg by omega)
  have h4 := Int.mul_le_mul (show n % s.sg ≤ 64 by omega) (show s.sz ≤ 64 by omega) (by omega) (by omega)
  have h5 := Int.mul_nonneg h2 (show 0 ≤ s.sz by omega)
  refine Xp rfl (CE rfl (rfl) ?_)
  refine Xp rfl (CE rfl (decide_eq_false (by omega)) ?_)
  refine Xp rfl (DR [24] [0, 1, 2, 3, 4, 5, 6, 7, 8, 9, 10, 11, 12, 13, 14, 15, 16, 17, 18, 19, 20, 21, 22, 23, 24, 25, 26, 27, 28] ?_)
  refine Xp rfl (WD rfl ?_)
  refine Xp rfl (WD rfl ?_)
  refine Xp rfl (WD rfl ?_)
  refine Xp rfl (WD rfl ?_)
  refine Xp rfl (WD rfl ?_)
  refine SW' (CS.call rfl go41 (dreadK d v s.N _ _) sE1) ?_
  rintro _ _ ⟨_, ⟨a36, c36, h36, rfl, rfl⟩, rfl⟩
  refine ⟨⟨OR, ⟨OR, ⟨OR, ⟨OR, ⟨OR, trivial⟩⟩⟩⟩⟩, N2 ?_⟩
  refine Xp rfl (R2 rfl rfl rfl (⟨_, _, h36, rfl, rfl⟩))

theorem rroomK (l d : Nat) (s : Shp) (e kd tl nu low : Int) (a : Option Addr) (c : Nat) (xs : List WrX) (hs : (s.ok ∧ 0 ≤ e ∧ e ≤ 4611686018427387903) ∧ xs.length ≤ 1000000) : SpecS Try.prog 36 [pt l, .agg #[iv kd, iv tl, iv nu, .slice a xs.length c], iv low] [blk l [pt d, iv s.fr, iv s.sg, iv s.sz, iv e] 77, wsA a xs] (fun v H' => v = iv (roomL s e kd tl nu (xs.map wrV) low) ∧ H' = [blk l [pt d, iv s.fr, iv s.sg, iv s.sz, iv e] 77]) := by
  refine EN Try.func36 rfl rfl fun o => ?_
  have hok := hs.1.1
  have hsr := secR_le kd tl nu (xs.map wrV)
  refine Xp rfl (BX rfl fun b4 => ?_)
  refine Xp rfl (CE rfl (rfl) ?_)
  refine Xp rfl (LD rfl ?_)
  refine Xp rfl (GP 16 rfl (fun hg3_3 => ?_) (fun hg3_3 => ?_))
  · rw [show roomL s e kd tl nu (xs.map wrV) low = 2 from if_neg (fun h => hg3_3 h.1.1)]
    refine Xp rfl (R1 rfl rfl (⟨rfl, rfl⟩))
  · refine LA rfl ?_
    refine DL0 rfl go31 (rrightK _ _ _ _ _ _) (N0 ?_)
    refine Xp rfl (GB 21 rfl (fun hg3_8 => ?_) (fun hg3_8 => ?_))
    · rw [show roomL s e kd tl nu (xs.map wrV) low = 2 from if_neg (fun h => by rw [rightB_iff.2 h.1.2] at hg3_8; cases hg3_8)]
      refine Xp rfl (R1 rfl rfl (⟨rfl, rfl⟩))
    · have hr : okR kd tl nu (xs.map wrV) := rightB_iff.1 (by simpa using hg3_8)
      refine Xp rfl (LD rfl ?_)
      refine Xp rfl (CD rfl (fun h1 => ?_) (fun h1 => ?_))
      · rw [show roomL s e kd tl nu (xs.map wrV) low = 2 from if_neg (fun h => h.2 h1)]
        refine Xp rfl (R1 rfl rfl (⟨rfl, rfl⟩))
      · have hrm : roomL s e kd tl nu (xs.map wrV) low = _ := if_pos ⟨⟨Classical.not_not.1 hg3_3, hr⟩, h1⟩
        refine Xpf 1 rfl ?_
        unfold Shp.ok at hok
        refine DR [1] [0, 2, 3, 4, 5, 6, 1, 7, 8] ?_
        refine Xp rfl (VW (fun w9 F9 S9 s => R.ldBN rfl (s.cel sE2) (by rfl)) ?_)
        refine Xp rfl (WD rfl ?_)
        refine Xp rfl (SW' (CS.call rfl go56 (rsecK _ _ _ _ _ _ hs.2) sE1) ?_)
        rintro _ _ ⟨_, ⟨rfl, rfl⟩, rfl⟩
        refine ⟨⟨OB rfl, ⟨OR, trivial⟩⟩, N0 ?_⟩
        refine Xp rfl (CD rfl (fun h2 => ?_) (fun h2 => ?_))
        · rw [hrm, if_pos (by omega)]
          refine Xp rfl (R1 rfl rfl (⟨rfl, rfl⟩))
        · rw [if_neg (by omega)] at hrm
          refine Xp rfl (LA rfl ?_)
          refine DL0 rfl go37 (rgoesK _ d s _ _ _ _ _ _ _) (N1 ?_)
          refine Xp rfl (CD rfl (fun h3 => ?_) (fun h3 => ?_))
          · rw [hrm, if_pos h3]
            refine Xp rfl (R1 rfl rfl (⟨rfl, rfl⟩))
          · rw [hrm, if_neg h3]
            refine Xp rfl (DL0 rfl go38 (rnextK _ d s _ _) (N1 ?_))
            refine Xp rfl (R1 rfl rfl (⟨rfl, rfl⟩))

theorem rstartK (l d : Nat) (s : Shp) (e : Int) (v : DevV) (sgm ep tl nu : Int) (hs : s.ok ∧ (0 ≤ v.calls ∧ v.calls ≤ 999999000) ∧ v.wt.length ≤ 999000) : SpecS Try.prog 11 [pt l, iv sgm, iv ep, iv tl, iv nu] [blk l [pt d, iv s.fr, iv s.sg, iv s.sz, iv e] 77, dvA d v s.N] (fun r H' => r = iv (startL s v e sgm ep tl nu).2.2 ∧ H' = [blk l [pt d, iv s.fr, iv s.sg, iv s.sz, iv (startL s v e sgm ep tl nu).2.1] 77, dvA d (startL s v e sgm ep tl nu).1 s.N]) := by
  refine EN Try.func11 rfl rfl fun o => ?_
  have hok := hs.1
  unfold Shp.ok at hok
  refine IM (Imp.wsNil) ?_
  have hm := fun h : 0 ≤ sgm ∧ sgm ≤ 1099511627776 => Int.mul_le_mul h.2 (show s.sz ≤ 64 by omega) (by omega) (by omega)
  have hm0 := fun h : 0 ≤ sgm ∧ sgm ≤ 1099511627776 => Int.mul_nonneg h.1 (show 0 ≤ s.sz by omega)
  refine Xp rfl (CL0 rfl go30 (rheadK _ _) (N0 ?_))
  refine AS rfl fun b11 => ?_
  refine Xp rfl (CE rfl (rfl) ?_)
  refine Xp rfl (GB 24 rfl (fun hg4_3 => ?_) (fun hg4_3 => ?_))
  · rw [show startL s v e sgm ep tl nu = (v, e, 2) from if_neg (fun h => by rw [decide_eq_true h.1.1] at hg4_3; cases hg4_3)]
    refine Xp rfl (R1 rfl rfl (⟨rfl, rfl⟩))
  · have hg1 : 0 ≤ sgm ∧ sgm ≤ 1099511627776 := by simpa using hg4_3
    replace hm := hm hg1
    replace hm0 := hm0 hg1
    refine Xp rfl (GB 29 rfl (fun hg4_8 => ?_) (fun hg4_8 => ?_))
    · rw [show startL s v e sgm ep tl nu = (v, e, 2) from if_neg (fun h => by rw [decide_eq_true h.1.2] at hg4_8; cases hg4_8)]
      refine Xp rfl (R1 rfl rfl (⟨rfl, rfl⟩))
    · have hg2 : 0 ≤ ep ∧ ep ≤ 4294967295 := by simpa using hg4_8
      refine LA rfl ?_
      refine DL0 rfl go31 (rrightK 1 tl nu none 0 []) (N0 ?_)
      refine Xp rfl (CB rfl (fun h1 => ?_) (fun h1 => ?_))
      · rw [show startL s v e sgm ep tl nu = (v, e, 2) from if_neg (fun h => by rw [show (([] : List WrX).map wrV) = [] from rfl, rightB_iff.2 h.2] at h1; cases h1)]
        refine Xp rfl (R1 rfl rfl (⟨rfl, rfl⟩))
      · have hr : okR 1 tl nu [] := rightB_iff.1 (by simpa using h1)
        rw [show startL s v e sgm ep tl nu = _ from if_pos ⟨⟨hg1, hg2⟩, hr⟩]
        obtain ⟨W, hW⟩ : ∃ W, W = wrL s v (sgm * s.sz) ep 1 tl nu [] := ⟨_, rfl⟩
        rw [← hW]
        refine Xp rfl (DR [9] [0, 1, 2, 3, 4, 5, 6, 7, 8, 9, 10, 11, 12, 13, 14] ?_)
        refine Xp rfl (WD rfl ?_)
        refine Xp rfl (VW (fun w9 F9 S9 s => R.ldBN rfl (s.cel sE2) (by rfl)) ?_)
        refine SW' (CS.call rfl go32 (rwriteK l d s e v (sgm * s.sz) ep 1 tl nu none 0 [] ⟨⟨hs.1, by omega, by omega⟩, hg2, Nat.zero_le _, by omega, by omega⟩) sE1) ?_
        rintro _ _ ⟨_, ⟨rfl, rfl⟩, rfl⟩
        refine ⟨⟨OR, ⟨OR, trivial⟩⟩, N2 ?_⟩
        rw [show wrL s v (sgm * s.sz) ep 1 tl nu (([] : List WrX).map wrV) = W from hW.symm]
        refine Xp rfl (CD rfl (fun h2 => ?_) (fun h2 => ?_))
        · rw [if_pos h2]
          refine Xp rfl (ST rfl rfl ?_)
          refine Xp rfl (R1 rfl rfl (⟨rfl, rfl⟩))
        · rw [if_neg h2]
          refine Xp rfl (R1 rfl rfl (⟨rfl, rfl⟩))

end Go.Proofs.Ytcedgodfmohleaa
/-
  Package ring: Add.
-/
set_option linter.unusedVariables false
set_option linter.unusedSimpArgs false
set_option maxRecDepth 4000
namespace Go.Proofs.Ytcedgodfmohleaa
open Go Brv Brv.Image Brv.Dev Brv.Pack Brv.Frame Brv.Rec
theorem spreadN_len (p q : Int) (l : List UInt8) : ∀ k, (spreadN p q l k).length = 64 * k
  | 0 => rfl
  | k + 1 => by
    have h : (secV (frV p q l k)).length = 64 := by
      show (frameF _ _ _ _ (bodyF l k)).length = 64
      unfold frameF
      rw [Crc.markF_length]
      exact frame_pad _ _ _ _ _ (by rw [part_length]; exact Nat.min_le_left _ _)
    rw [spreadN_succ, List.length_append, spreadN_len p q l k, h]; omega
theorem wrL_bd2 (s : Shp) (v : DevV) (lsn ep kd tl nu : Int) (ws : List (Int × List UInt8)) : v.calls ≤ (wrL s v lsn ep kd tl nu ws).1.calls ∧ (wrL s v lsn ep kd tl nu ws).1.calls ≤ v.calls + 1 ∧ (wrL s v lsn ep kd tl nu ws).1.wt.length ≤ v.wt.length + 106 := by
  obtain ⟨h1, h2, h3⟩ := wrL_bd s v lsn ep kd tl nu ws
  have h4 := (secN_le (putR kd tl nu ws)).2 (putR_len kd tl nu ws)
  have h5 : dn (spreadN lsn ep (putR kd tl nu ws) (secN (putR kd tl nu ws))) ≤ 106 := by
    unfold dn
    have := spreadN_len lsn ep (putR kd tl nu ws) (secN (putR kd tl nu ws))
    omega
  exact ⟨h1, h2, by omega⟩
theorem wrL_place (s : Shp) (v : DevV) (lsn ep kd tl nu : Int) (ws : List (Int × List UInt8)) : lsn + 1 ≤ (wrL s v lsn ep kd tl nu ws).2.1 ∧ (wrL s v lsn ep kd tl nu ws).2.1 ≤ lsn + 106 := by
  have h4 := (secN_le (putR kd tl nu ws)).2 (putR_len kd tl nu ws)
  have h5 := (secN_le (putR kd tl nu ws)).1
  show lsn + 1 ≤ lsn + (secN (putR kd tl nu ws) : Int) ∧ lsn + (secN (putR kd tl nu ws) : Int) ≤ lsn + 106
  omega
theorem turnL_bd (s : Shp) (v : DevV) (e n ep kd tl nu : Int) (ws : List (Int × List UInt8)) : v.calls ≤ (turnL s v e n ep kd tl nu ws).1.calls ∧ (turnL s v e n ep kd tl nu ws).1.calls ≤ v.calls + 2 ∧ (turnL s v e n ep kd tl nu ws).1.wt.length ≤ v.wt.length + 212 := by
  have h1 := wrL_bd2 s v e ep 2 0 0 []
  unfold turnL
  split
  · have h2 := wrL_bd2 s (wrL s v e ep 2 0 0 []).1 (n * s.sz) ep kd tl nu ws
    omega
  · dsimp only; omega
theorem turnL_place {s : Shp} {v : DevV} {e n ep kd tl nu : Int} {ws : List (Int × List UInt8)} (h : (turnL s v e n ep kd tl nu ws).2.2 = 0) : n * s.sz + 1 ≤ (turnL s v e n ep kd tl nu ws).2.1 ∧ (turnL s v e n ep kd tl nu ws).2.1 ≤ n * s.sz + 106 := by
  unfold turnL at h ⊢
  split
  · exact wrL_place _ _ _ _ _ _ _ _
  · rename_i h2
    rw [if_neg h2] at h
    exact absurd h h2
theorem next_place {s : Shp} {e low : Int} (hs : s.ok) (he : 0 ≤ e) (h : (nextL s e low).2 = 0) : (nextL s e low).1 = e / s.sz + 1 ∧ 0 ≤ (nextL s e low).1 * s.sz ∧ (nextL s e low).1 * s.sz ≤ e + 64 := by
  have hat := Shp.at hs he
  unfold Shp.ok at hs
  unfold nextL at h ⊢
  split
  · rename_i h2; rw [if_pos h2] at h; cases h
  · refine ⟨rfl, ?_, ?_⟩
    · exact Int.mul_nonneg (by dsimp only; omega) (by omega)
    · show (e / s.sz + 1) * s.sz ≤ e + 64
      rw [Int.add_mul, Int.one_mul]; omega
theorem rturnK (l d : Nat) (s : Shp) (e : Int) (v : DevV) (n ep kd tl nu : Int) (a : Option Addr) (c : Nat) (xs : List WrX) (hs : (s.ok ∧ (0 ≤ e ∧ e ≤ 4611686018427300000)) ∧ (0 ≤ n * s.sz ∧ n * s.sz ≤ 4611686018427380000) ∧ (0 ≤ ep ∧ ep ≤ 4294967295) ∧ xs.length ≤ 1000000 ∧ (0 ≤ v.calls ∧ v.calls ≤ 999998000) ∧ v.wt.length ≤ 998000) : SpecS Try.prog 39 [pt l, iv n, iv ep, .agg #[iv kd, iv tl, iv nu, .slice a xs.length c]] [blk l [pt d, iv s.fr, iv s.sg, iv s.sz, iv e] 77, dvA d v s.N, wsA a xs] (fun r H' => r = .tuple #[iv (turnL s v e n ep kd tl nu (xs.map wrV)).2.1, iv (turnL s v e n ep kd tl nu (xs.map wrV)).2.2] ∧ H' = [blk l [pt d, iv s.fr, iv s.sg, iv s.sz, iv e] 77, dvA d (turnL s v e n ep kd tl nu (xs.map wrV)).1 s.N]) := by
  refine EN Try.func39 rfl rfl fun o => ?_
  have hok := hs.1.1
  refine IM (Imp.wsNil) ?_
  refine Xp rfl (BX rfl fun b7 => ?_)
  refine Xp rfl (LD rfl ?_)
  refine Xp rfl (BU (l := [iv 2, iv 0, iv 0, .slice none 0 0]) rfl rfl ?_)
  refine DL0 rfl go32 (rwriteK l d s e v e ep 2 0 0 none 0 []) (N2 ?_)
  obtain ⟨W, hW⟩ : ∃ W, W = wrL s v e ep 2 0 0 [] := ⟨_, rfl⟩
  have hwb := wrL_bd2 s v e ep 2 0 0 []
  rw [← hW] at hwb
  rw [show wrL s v e ep 2 0 0 (([] : List WrX).map wrV) = W from hW.symm]
  refine Xp rfl (CD rfl (fun h0 => ?_) (fun h0 => ?_))
  · rw [show turnL s v e n ep kd tl nu (xs.map wrV) = (W.1, 0, W.2.2) by unfold turnL; rw [← hW, if_neg h0]]
    refine Xp rfl (R2 rfl rfl rfl (⟨rfl, rfl⟩))
  · rw [show turnL s v e n ep kd tl nu (xs.map wrV) = wrL s W.1 (n * s.sz) ep kd tl nu (xs.map wrV) by unfold turnL; rw [← hW, if_pos (by omega)]]
    refine Xp rfl (DR [9] [0, 1, 2, 3, 4, 5, 6, 7, 8, 9, 10, 11, 12, 13] ?_)
    refine Xp rfl (WD rfl ?_)
    refine Xp rfl (VW (fun w9 F9 S9 s => R.ldBN rfl (s.cel sE2) (by rfl)) ?_)
    refine SW' (CS.call rfl go32 (rwriteK l d s e W.1 (n * s.sz) ep kd tl nu a c xs ⟨⟨hok, by omega, by omega⟩, by omega, by omega, by omega, by omega⟩) sE1) ?_
    rintro _ _ ⟨_, ⟨rfl, rfl⟩, rfl⟩
    refine ⟨⟨OR, ⟨OR, trivial⟩⟩, N2 ?_⟩
    refine Xp rfl (R2 rfl rfl rfl (⟨rfl, rfl⟩))

theorem raddK (l d : Nat) (s : Shp) (e : Int) (v : DevV) (kd tl nu ep low : Int) (a : Option Addr) (c : Nat) (xs : List WrX) (hs : (s.ok ∧ (0 ≤ e ∧ e ≤ 4611686018427300000)) ∧ xs.length ≤ 1000000 ∧ (0 ≤ v.calls ∧ v.calls ≤ 999997000) ∧ v.wt.length ≤ 997000) : SpecS Try.prog 13 [pt l, .agg #[iv kd, iv tl, iv nu, .slice a xs.length c], iv ep, iv low] [blk l [pt d, iv s.fr, iv s.sg, iv s.sz, iv e] 77, dvA d v s.N, wsA a xs] (fun r H' => r = .tuple #[iv (addL s v e kd tl nu (xs.map wrV) ep low).2.1, iv (addL s v e kd tl nu (xs.map wrV) ep low).2.2] ∧ H' = [blk l [pt d, iv s.fr, iv s.sg, iv s.sz, iv (addL s v e kd tl nu (xs.map wrV) ep low).1.2] 77, dvA d (addL s v e kd tl nu (xs.map wrV) ep low).1.1 s.N]) := by
  refine EN Try.func13 rfl rfl fun o => ?_
  have hok := hs.1.1
  refine Xp rfl (BX rfl fun b5 => ?_)
  refine Xp rfl (LA rfl ?_)
  refine Xp rfl (DL0 rfl go36 (rroomK _ d s _ _ _ _ _ _ _ _) (N1 ?_))
  refine Xp rfl (CD rfl (fun h0 => ?_) (fun h0 => ?_))
  · rw [show addL s v e kd tl nu (xs.map wrV) ep low = _ from if_pos h0]
    refine Xp rfl (R2 rfl rfl rfl (⟨rfl, rfl⟩))
  · have had : addL s v e kd tl nu (xs.map wrV) ep low = _ := if_neg h0
    refine Xp rfl (CB rfl (fun h1 => ?_) (fun h1 => ?_))
    · rw [had, if_pos (fun h => by rw [decide_eq_true h] at h1; cases h1)]
      refine Xp rfl (R2 rfl rfl rfl (⟨rfl, rfl⟩))
    · have hep : 0 ≤ ep ∧ ep ≤ 4294967295 := by simpa using h1
      rw [if_neg (fun h => h hep)] at had
      refine Xp rfl (LD rfl ?_)
      refine Xp rfl (LA rfl ?_)
      refine DL0 rfl go37 (rgoesK _ d s _ _ _ _ _ _ _) (N1 ?_)
      refine Xpf 3 rfl ?_
      refine JN (fun (t : DevV × Int × Int) r9 => (11, iv t.2.1) :: r9) (fun t R9 => blk l [pt d, iv s.fr, iv s.sg, iv s.sz, iv e] 77 :: dvA d t.1 s.N :: R9) (fun t => t = addT s v e kd tl nu (xs.map wrV) ep low ∧ t.2.2 = 0 ∧ (0 ≤ t.2.1 ∧ t.2.1 ≤ e + 170) ∧ v.calls ≤ t.1.calls ∧ t.1.calls ≤ v.calls + 2 ∧ t.1.wt.length ≤ v.wt.length + 212) [0, 2, 5] [blk b5 [iv kd, iv tl, iv nu, .slice a xs.length c] 43, wsA a xs] rfl ?_ fun t ⟨ht, hte, htp, htb⟩ => ?_
      · refine CB rfl (fun h2 => ?_) (fun h2 => ?_)
        · have hng : ¬ e % s.sz + secR kd tl nu (xs.map wrV) < s.sz := by simpa using h2
          have hnx : (nextL s e low).2 = 0 := by
              have h := Classical.not_not.1 h0
              unfold roomL at h
              split at h
              · split at h
                · cases h
                · first | exact h | (rw [if_neg hng] at h; exact h)
              · cases h
          obtain ⟨hn1, hn2, hn3⟩ := next_place hok hs.1.2.1 hnx
          refine IM (Imp.wsNil) ?_
          refine Xp rfl (DL0 rfl go38 (rnextK _ d s _ _) (N1 ?_))
          refine Xp rfl (LD rfl ?_)
          refine Xp rfl (LD rfl ?_)
          refine CL0 rfl go30 (rheadK _ _) (N0 ?_)
          refine DL0 rfl go39 (rturnK l d s e v (nextL s e low).1 ep 1 tl nu none 0 []) (N2 ?_)
          obtain ⟨U, hU⟩ : ∃ U, U = turnL s v e (nextL s e low).1 ep 1 tl nu [] := ⟨_, rfl⟩
          rw [show turnL s v e (nextL s e low).1 ep 1 tl nu (([] : List WrX).map wrV) = U from hU.symm]
          have hub := turnL_bd s v e (nextL s e low).1 ep 1 tl nu []
          rw [← hU] at hub
          refine Xp rfl (CD rfl (fun h3 => ?_) (fun h3 => ?_))
          · have hT : addT s v e kd tl nu (xs.map wrV) ep low = U := by rw [hU]; exact if_neg hng
            rw [had, hT, if_pos h3]
            refine Xp rfl (R2 rfl rfl rfl (⟨rfl, rfl⟩))
          · have hup : _ := turnL_place (s := s) (v := v) (e := e) (n := (nextL s e low).1) (ep := ep) (kd := 1) (tl := tl) (nu := nu) (ws := []) (by rw [← hU]; omega)
            rw [← hU] at hup
            refine Xp rfl (HD (U) (⟨by rw [hU]; exact (if_neg hng).symm, by omega, by omega, hub⟩))
        · have hgo : e % s.sz + secR kd tl nu (xs.map wrV) < s.sz := by simpa using h2
          refine Xp rfl (HD ((v, e, 0)) (⟨(if_pos hgo).symm, rfl, by show 0 ≤ e ∧ e ≤ e + 170; omega, Int.le_refl _, by show v.calls ≤ v.calls + 2; omega, by show v.wt.length ≤ v.wt.length + 212; omega⟩))
      · rw [← ht] at had
        rw [if_neg (fun h => h hte)] at had
        refine Xp rfl (LA rfl ?_)
        refine DL0 rfl go32 (rwriteK l d s e t.1 t.2.1 ep kd tl nu a c xs) (N2 ?_)
        obtain ⟨W, hW⟩ : ∃ W, W = wrL s t.1 t.2.1 ep kd tl nu (xs.map wrV) := ⟨_, rfl⟩
        rw [← hW] at had ⊢
        refine Xp rfl (CD rfl (fun h4 => ?_) (fun h4 => ?_))
        · rw [had, if_pos h4]
          refine Xp rfl (R2 rfl rfl rfl (⟨rfl, rfl⟩))
        · rw [had, if_neg h4]
          refine Xp rfl (ST rfl rfl ?_)
          refine Xp rfl (R2 rfl rfl rfl (⟨rfl, rfl⟩))

end Go.Proofs.Ytcedgodfmohleaa
/-
  Package ring: Turn.
-/
set_option linter.unusedVariables false
set_option linter.unusedSimpArgs false
set_option maxRecDepth 4000
namespace Go.Proofs.Ytcedgodfmohleaa
open Go Brv Brv.Image Brv.Dev Brv.Pack Brv.Frame Brv.Rec
theorem rturn2K (l d : Nat) (s : Shp) (e : Int) (v : DevV) (ep low tl nu : Int) (hs : (s.ok ∧ (0 ≤ e ∧ e ≤ 4611686018427300000)) ∧ (0 ≤ v.calls ∧ v.calls ≤ 999997000) ∧ v.wt.length ≤ 997000) : SpecS Try.prog 22 [pt l, iv ep, iv low, iv tl, iv nu] [blk l [pt d, iv s.fr, iv s.sg, iv s.sz, iv e] 77, dvA d v s.N] (fun r H' => r = iv (turnT s v e ep low tl nu).2 ∧ H' = [blk l [pt d, iv s.fr, iv s.sg, iv s.sz, iv (turnT s v e ep low tl nu).1.2] 77, dvA d (turnT s v e ep low tl nu).1.1 s.N]) := by
  refine EN Try.func22 rfl rfl fun o => ?_
  have hok := hs.1.1
  refine IM (Imp.wsNil) ?_
  refine Xp rfl (CL0 rfl go30 (rheadK _ _) (N0 ?_))
  refine AS rfl fun b11 => ?_
  refine Xp rfl (CE rfl (rfl) ?_)
  refine Xp rfl (GB 25 rfl (fun hg4_3 => ?_) (fun hg4_3 => ?_))
  · rw [show turnT s v e ep low tl nu = ((v, e), 2) from if_neg (fun h => by rw [decide_eq_true h.1.1] at hg4_3; cases hg4_3)]
    refine Xp rfl (R1 rfl rfl (⟨rfl, rfl⟩))
  · have hep : 0 ≤ ep ∧ ep ≤ 4294967295 := by simpa using hg4_3
    refine LA rfl ?_
    refine DL0 rfl go31 (rrightK 1 tl nu none 0 []) (N0 ?_)
    refine Xp rfl (GB 30 rfl (fun hg4_8 => ?_) (fun hg4_8 => ?_))
    · rw [show turnT s v e ep low tl nu = ((v, e), 2) from if_neg (fun h => by rw [show (([] : List WrX).map wrV) = [] from rfl, rightB_iff.2 h.1.2] at hg4_8; cases hg4_8)]
      refine Xp rfl (R1 rfl rfl (⟨rfl, rfl⟩))
    · have hr : okR 1 tl nu [] := rightB_iff.1 (by simpa using hg4_8)
      refine Xp rfl (LD rfl ?_)
      refine Xp rfl (CD rfl (fun h1 => ?_) (fun h1 => ?_))
      · rw [show turnT s v e ep low tl nu = ((v, e), 2) from if_neg (fun h => h.2 h1)]
        refine Xp rfl (R1 rfl rfl (⟨rfl, rfl⟩))
      · have htt : turnT s v e ep low tl nu = _ := if_pos ⟨⟨hep, hr⟩, h1⟩
        refine Xp rfl (DL0 rfl go23 (rfreshK _ d s _) (N1 ?_))
        refine Xp rfl (CD rfl (fun h2 => ?_) (fun h2 => ?_))
        · rw [htt, if_pos h2]
          refine Xp rfl (R1 rfl rfl (⟨rfl, rfl⟩))
        · rw [if_neg h2] at htt
          refine Xp rfl (DL0 rfl go38 (rnextK _ d s _ _) (N1 ?_))
          refine Xp rfl (CD rfl (fun h3 => ?_) (fun h3 => ?_))
          · rw [htt, if_pos h3]
            refine Xp rfl (R1 rfl rfl (⟨rfl, rfl⟩))
          · rw [if_neg h3] at htt
            obtain ⟨hn1, hn2, hn3⟩ := next_place hok hs.1.2.1 (low := low) (by omega)
            refine Xp rfl (LA rfl ?_)
            refine DL0 rfl go39 (rturnK l d s e v (nextL s e low).1 ep 1 tl nu none 0 []) (N2 ?_)
            obtain ⟨U, hU⟩ : ∃ U, U = turnL s v e (nextL s e low).1 ep 1 tl nu [] := ⟨_, rfl⟩
            rw [show turnL s v e (nextL s e low).1 ep 1 tl nu (([] : List WrX).map wrV) = U from hU.symm]
            rw [← hU] at htt
            refine Xp rfl (CD rfl (fun h4 => ?_) (fun h4 => ?_))
            · rw [htt, if_pos h4, show (0 : Int) = U.2.2 from h4.symm]
              refine Xp rfl (ST rfl rfl ?_)
              refine Xp rfl (R1 rfl rfl (⟨rfl, rfl⟩))
            · rw [htt, if_neg h4]
              refine Xp rfl (R1 rfl rfl (⟨rfl, rfl⟩))

end Go.Proofs.Ytcedgodfmohleaa
/-
  Package ring: Open, as plain values.
-/
set_option linter.unusedVariables false
set_option linter.unusedSimpArgs false
set_option maxRecDepth 4000
namespace Go.Proofs.Ytcedgodfmohleaa
open Go Brv Brv.Image Brv.Dev Brv.Pack Brv.Frame Brv.Rec
theorem _root_.Brv.St.dv {H H' : List Asn} {d : Nat} {v : DevV} {N : Nat} {F S : List Nat} {w : World} (s : St H F S w) (h : Sel H (dvA d v N) H') : v.Wf N ∧ 1 ≤ N ∧ N ≤ 4096 := by
  obtain ⟨F1, S1, ⟨hf, hs⟩, i, hP⟩ := s.sel h
  have s1 : St _ F1 S1 w := ⟨hP, fun b hb => s.ltF b (hf hb), fun b hb => s.ltS b (hs hb)⟩
  exact s1.sh (p := fun _ => v.Wf N ∧ 1 ≤ N ∧ N ≤ 4096) (.there (.there (.there .here)))
theorem walkP_len {l : List UInt8} {M : Nat} {hi : Int} {sg : Nat} : ∀ {f at' : Nat} {least : Int}, (walkP l M hi sg f at' least).length ≤ f
  | 0, _, _ => Nat.le_refl _
  | f + 1, at', least => by
    rw [walkP]
    split
    · rw [List.length_cons]
      split
      · exact Nat.succ_le_succ (Nat.zero_le _)
      · exact Nat.succ_le_succ walkP_len
    · exact Nat.zero_le _
theorem walkP_mem {l : List UInt8} {M : Nat} {hi : Int} {sg : Nat} {e : EntR} : ∀ {f at' : Nat} {least : Int}, e ∈ walkP l M hi sg f at' least → ∃ k : Nat, k / M = sg ∧ (standsV l M k).2 = true ∧ e = (standsV l M k).1 ∧ e.epoch ≤ hi
  | 0, _, _, h => by cases h
  | f + 1, at', least, h => by
    rw [walkP] at h
    split at h
    · rename_i hc
      rcases List.mem_cons.1 h with rfl | h
      · exact ⟨at', hc.1, hc.2.1, rfl, hc.2.2.2⟩
      · split at h
        · cases h
        · exact walkP_mem h
    · cases h
theorem stands_lsn {l : List UInt8} {M k : Nat} (h : (standsV l M k).2 = true) : (standsV l M k).1.lsn = k := by
  unfold standsV at h ⊢
  split
  · rfl
  · rename_i hg; rw [if_neg hg] at h; cases h
theorem walkE_mem {l : List UInt8} {lsn lo hi : Int} {e : EntR} (h : e ∈ walkE l lsn lo hi) : ∃ k : Nat, e.lsn = k ∧ e = (standsV l (l.length / 64) k).1 ∧ (standsV l (l.length / 64) k).2 = true ∧ (0 ≤ lsn ∧ lsn ≤ 2305843009213693952) ∧ (e.lsn < lsn + (l.length / 64 : Nat) ∧ 0 < e.n ∧ e.lsn + e.n ≤ lsn + (l.length / 64 : Nat)) ∧ e.epoch ≤ hi := by
  unfold walkE at h
  split at h
  · rename_i hc
    obtain ⟨k, h1, h2, h3, h4⟩ := walkP_mem h
    obtain ⟨ln, rfl⟩ := Int.eq_ofNat_of_zero_le hc.2.2.1
    rw [Int.toNat_natCast] at h1
    have hM : 1 ≤ l.length / 64 := by omega
    obtain ⟨j, hj, hj0, hj1⟩ := stands_n hM h2
    have hl := stands_lsn h2
    rw [← h3] at hj hl
    have d1 := Nat.div_add_mod k (l.length / 64)
    have d2 := Nat.div_add_mod ln (l.length / 64)
    have d3 := Nat.mod_lt k (show l.length / 64 > 0 by omega)
    rw [h1] at d1
    exact ⟨k, hl, h3, h2, ⟨by omega, hc.2.2.2⟩, ⟨by omega, by omega, by omega⟩, h4⟩
  · cases h
theorem walkE_len {l : List UInt8} {lsn lo hi : Int} : (walkE l lsn lo hi).length ≤ l.length / 64 := by
  unfold walkE; split
  · exact walkP_len
  · exact Nat.zero_le _
structure EnX where
  lsn : Int
  epoch : Int
  n : Int
  kd : Int
  tl : Int
  nu : Int
  a : Option Addr
  c : Nat
  xs : List WrX
def entC (x : EnX) : List Value := [iv x.lsn, iv x.epoch, iv x.n, iv x.kd, iv x.tl, iv x.nu, .slice x.a x.xs.length x.c]
def entV (x : EnX) : EntR := ⟨x.lsn, x.epoch, x.n, (x.kd, x.tl, x.nu), x.xs.map wrV⟩
def entOk (w : World) (x : EnX) : Prop := x.xs.length ≤ x.c ∧ WsP x.a x.xs w
/-- Entries that stay as they are. -/
def ensA (a : Option Addr) (ys : List EnX) : Asn := sh fun w => Cells w a (rowsC entC ys) ∧ ∀ y ∈ ys, entOk w y
instance (a : Option Addr) (ys : List EnX) : Pers (ensA a ys) := ⟨fun _ _ _ h => h⟩
theorem _root_.Brv.St.ens {H H' : List Asn} {a : Option Addr} {ys : List EnX} {F S : List Nat} {w : World} (s : St H F S w) (h : Sel H (ensA a ys) H') : Cells w a (rowsC entC ys) ∧ ∀ y ∈ ys, entOk w y := s.sh (p := fun w => Cells w a (rowsC entC ys) ∧ ∀ y ∈ ys, entOk w y) h
theorem Imp.ensNil {H : List Asn} : Imp H (ensA none [] :: H) := Imp.pure fun w => ⟨Cells.nil _ _, fun x hx => (by cases hx)⟩
theorem Imp.ensIn {H H1 H2 : List Asn} {a : Option Addr} {n c : Nat} {ys : List EnX} (k : Sel H (own 62 7 a n c (rowsC entC ys)) H1) (h : Sel H1 (sh fun w => ∀ y ∈ ys, entOk w y) H2) : Imp H (ensA a ys :: H2) :=
  (Imp.ownSh k (p := fun w => Cells w a (rowsC entC ys)) (fun w h => h)).trans (Imp.both .here h)
theorem Imp.enAdd {H H1 H2 : List Asn} {ys : List EnX} (x : EnX) (k : Sel H (sh (WsP x.a x.xs)) H1) (h : Sel H1 (sh fun w => ∀ y ∈ ys, entOk w y) H2) (hc : x.xs.length ≤ x.c) : Imp H (sh (fun w => ∀ y ∈ ys ++ [x], entOk w y) :: H2) :=
  (Imp.both k h).trans (Imp.weak .here fun w ⟨h1, h2⟩ y hy => (List.mem_append.1 hy).elim (h2 y) fun hy => by rw [List.mem_singleton.1 hy]; exact ⟨hc, h1⟩)
def endE (es : List EntR) (en : Int) : Int := match es.getLast? with | some x => x.lsn + x.n | none => en
def leastE (es : List EntR) (least : Int) : Int := match es.getLast? with | some x => x.epoch | none => least
def lastL (es : List EntR) : Int := match es.getLast? with | some x => x.lsn | none => 0
def turnedE (es : List EntR) : Bool := match es.getLast? with | some x => decide (x.h.1 = 2) | none => false
/-- Where a log is opened, segment by segment: what is found, the end, the error. -/
noncomputable def openN (s : Shp) (v : DevV) (ep e0 : Int) : Nat → Int → Int → List EntR → List EntR × Int × Int
  | 0, en, _, out => (out, en, 0)
  | k + 1, en, least, out =>
    if (readV v s.N (s.fr + en / s.sz % s.sg * s.sz) s.sz).2 ≠ 0 then ([], e0, (readV v s.N (s.fr + en / s.sz % s.sg * s.sz) s.sz).2)
    else if turnedE (walkE (readV v s.N (s.fr + en / s.sz % s.sg * s.sz) s.sz).1 en least ep) then
      openN s v ep e0 k ((lastL (walkE (readV v s.N (s.fr + en / s.sz % s.sg * s.sz) s.sz).1 en least ep) / s.sz + 1) * s.sz) (leastE (walkE (readV v s.N (s.fr + en / s.sz % s.sg * s.sz) s.sz).1 en least ep) least) (out ++ walkE (readV v s.N (s.fr + en / s.sz % s.sg * s.sz) s.sz).1 en least ep)
    else (out ++ walkE (readV v s.N (s.fr + en / s.sz % s.sg * s.sz) s.sz).1 en least ep, endE (walkE (readV v s.N (s.fr + en / s.sz % s.sg * s.sz) s.sz).1 en least ep) en, 0)
noncomputable def openL (s : Shp) (v : DevV) (e lsn ep : Int) : List EntR × Int × Int :=
  if (0 ≤ lsn ∧ lsn ≤ 2305843009213693952) ∧ (0 ≤ ep ∧ ep ≤ 4294967295) then openN s v ep e s.sg.toNat lsn 0 [] else ([], e, 2)
theorem readV_ok {v : DevV} {N : Nat} {p m : Int} (hw : v.Wf N) (h : (readV v N p m).2 = 0) : (readV v N p m).1.length = 64 * m.toNat := by
  unfold readV at h ⊢
  split at h
  · cases h
  · rename_i h1
    rw [if_neg h1]
    split at h
    · rename_i h2
      rw [if_pos h2]
      unfold thereP at h2
      exact win_length (laidAll_length (s := []) hw.len hw.wt) (by omega)
    · cases h
theorem endE_snoc (es : List EntR) (x : EntR) (en : Int) : endE (es ++ [x]) en = x.lsn + x.n := by simp [endE]
theorem leastE_snoc (es : List EntR) (x : EntR) (en : Int) : leastE (es ++ [x]) en = x.epoch := by simp [leastE]
theorem turnedE_snoc (es : List EntR) (x : EntR) : turnedE (es ++ [x]) = decide (x.h.1 = 2) := by simp [turnedE]
theorem lastL_snoc (es : List EntR) (x : EntR) : lastL (es ++ [x]) = x.lsn := by simp [lastL]
theorem take_snoc {es : List EntR} {k : Nat} {e : EntR} (h : es[k]? = some e) : es.take (k + 1) = es.take k ++ [e] := by rw [List.take_add_one, h]; rfl
theorem turned_last {es : List EntR} (h : turnedE es = true) : ∃ es' x, es = es' ++ [x] := by
  rcases List.eq_nil_or_concat es with rfl | ⟨es', x, rfl⟩
  · cases h
  · exact ⟨es', x, by simp⟩
structure EnS where
  a : Option Addr
  c : Nat
  ys : List EnX
structure OpX where
  j : Nat
  en : Int
  least : Int
  a : Option Addr
  c : Nat
  ys : List EnX
  ds : List Nat
end Go.Proofs.Ytcedgodfmohleaa
/-
  The document: same entries.
-/
set_option linter.unusedVariables false
set_option linter.unusedSimpArgs false
set_option maxRecDepth 4000
namespace Go.Proofs.Ytcedgodfmohleaa
open Go Brv Brv.Pack Brv.Frame Brv.Rec
deriving instance DecidableEq for EntR
theorem entV_at {ys : List EnX} {k : Nat} {x : EnX} (h : ys[k]? = some x) : (ys.map entV)[k]? = some (entV x) := by rw [List.getElem?_map, h]; rfl
theorem entR_cells {w : World} {p : Addr} {x : EnX} (h : Cells w (some p) (entC x)) : Cells w (some (p.add 3)) [iv x.kd, iv x.tl, iv x.nu, .slice x.a x.xs.length x.c] := by
  intro j v hj
  refine ⟨_, rfl, ?_⟩
  rw [add_add]
  exact h.load (j := 3 + j) (by rw [show entC x = [iv x.lsn, iv x.epoch, iv x.n] ++ [iv x.kd, iv x.tl, iv x.nu, .slice x.a x.xs.length x.c] from rfl, List.getElem?_append_right (by simp)]; simpa using hj)
theorem dsameEK (a : Option Addr) (c : Nat) (ys : List EnX) (a' : Option Addr) (c' : Nat) (zs : List EnX) (hs : ys.length ≤ 1000000000 ∧ zs.length ≤ 1000000000 ∧ (∀ y ∈ ys, y.xs.length ≤ 1000000000) ∧ (∀ y ∈ zs, y.xs.length ≤ 1000000000)) : SpecS Try.prog 7 [.slice a ys.length c, .slice a' zs.length c'] [ensA a ys, ensA a' zs] (fun v H' => v = .bool (decide (ys.map entV = zs.map entV)) ∧ H' = []) := by
  refine EN Try.func7 rfl rfl fun o => ?_
  obtain ⟨hs1, hs2, hb1, hb2⟩ := hs
  refine Xp rfl (CD rfl (fun h0 => ?_) (fun h0 => ?_))
  · rw [decide_eq_false (fun h : ys.map entV = zs.map entV => h0 (by have := congrArg List.length h; simp at this; omega))]
    refine Xp rfl (R1 rfl rfl (⟨rfl, rfl⟩))
  · have hln : ys.length = zs.length := by omega
    refine Xp rfl (LP (fun (k : Nat) r9 => (13, iv k) :: r9) (fun k R9 => R9) (fun k => k ≤ ys.length ∧ (ys.map entV).take k = (zs.map entV).take k) (fun k => ys.length - k) (0) [0, 1, 12] rfl (⟨Nat.zero_le _, rfl⟩) fun k ⟨hk, hp⟩ => ?_)
    refine Xp rfl (CD rfl (fun h1 => ?_) (fun h1 => ?_))
    · refine Xpf 11 rfl ?_
      obtain ⟨x, hx⟩ : ∃ x, ys[k]? = some x := ⟨_, List.getElem?_eq_getElem (by omega)⟩
      obtain ⟨y, hy⟩ : ∃ y, zs[k]? = some y := ⟨_, List.getElem?_eq_getElem (by omega)⟩
      refine FA (fun w9 F9 S9 s => rowsC_at (s.ens (show Sel _ (ensA a ys) _ from sE0)).1 hx (Nat.zero_lt_succ 6)) fun hf9 => ?_
      obtain ⟨q, hq⟩ := hf9
      refine FA (fun w9 F9 S9 s => rowsC_at (s.ens (show Sel _ (ensA a' zs) _ from sE0)).1 hy (Nat.zero_lt_succ 6)) fun hf9 => ?_
      obtain ⟨q', hq'⟩ := hf9
      subst hq hq'
      have hbx := hb1 x (List.mem_of_getElem? hx)
      have hby := hb2 y (List.mem_of_getElem? hy)
      refine IM (show Imp _ (wsA x.a x.xs :: _) from Imp.weak (show Sel _ (ensA (some q) ys) _ from sE0) (fun w h => (h.2 x (List.mem_of_getElem? hx)).2)) ?_
      refine IM (show Imp _ (wsA y.a y.xs :: _) from Imp.weak (show Sel _ (ensA (some q') zs) _ from sE0) (fun w h => (h.2 y (List.mem_of_getElem? hy)).2)) ?_
      refine DR [48] [0, 1, 2, 3, 4, 5, 6, 7, 8, 9, 10, 11, 12, 13, 14, 15, 16, 17, 18, 19, 20, 21, 22, 23, 24, 25, 26, 27, 28, 29, 30, 31, 32, 33, 34, 35, 36, 37, 38, 39, 40, 41, 42, 43, 44, 45, 46, 47, 48, 49, 50] ?_
      refine Xp rfl (VP (fun w9 => R.idx rfl rfl (by omega) (by omega) q rfl) ?_)
      refine VP (fun w9 => R.fldA rfl) ?_
      refine VW (fun w9 F9 S9 s => R.ld rfl (v := iv x.lsn) (by rw [Int.toNat_natCast]; exact (rowsC_ld (s := 7) (fun _ _ => rfl) (s.ens (show Sel _ (ensA (some q) ys) _ from sE0)).1 hx).load (j := 0) rfl)) ?_
      refine Xp rfl (VP (fun w9 => R.idx rfl rfl (by omega) (by omega) q' rfl) ?_)
      refine VP (fun w9 => R.fldA rfl) ?_
      refine VW (fun w9 F9 S9 s => R.ld rfl (v := iv y.lsn) (by rw [Int.toNat_natCast]; exact (rowsC_ld (s := 7) (fun _ _ => rfl) (s.ens (show Sel _ (ensA (some q') zs) _ from sE0)).1 hy).load (j := 0) rfl)) ?_
      refine Xp rfl (GP 27 rfl (fun hg6_11 => ?_) (fun hg6_11 => ?_))
      · have hne : ys.map entV ≠ zs.map entV := fun h => hg6_11 (by have h8 := entV_at hx; rw [h, entV_at hy] at h8; have := congrArg EntR.lsn (Option.some.inj h8); exact this.symm)
        refine Xp rfl (PS (⟨OR, ⟨OR, trivial⟩⟩) ?_)
        refine Xp rfl (R1 rfl rfl (⟨congrArg Value.bool (decide_eq_false hne).symm, rfl⟩))
      · refine Xp rfl (VP (fun w9 => R.idx rfl rfl (by omega) (by omega) q rfl) ?_)
        refine VP (fun w9 => R.fldA rfl) ?_
        refine VW (fun w9 F9 S9 s => R.ld rfl (v := iv x.epoch) (by rw [Int.toNat_natCast]; exact (rowsC_ld (s := 7) (fun _ _ => rfl) (s.ens (show Sel _ (ensA (some q) ys) _ from sE0)).1 hx).load (j := 1) rfl)) ?_
        refine Xp rfl (VP (fun w9 => R.idx rfl rfl (by omega) (by omega) q' rfl) ?_)
        refine VP (fun w9 => R.fldA rfl) ?_
        refine VW (fun w9 F9 S9 s => R.ld rfl (v := iv y.epoch) (by rw [Int.toNat_natCast]; exact (rowsC_ld (s := 7) (fun _ _ => rfl) (s.ens (show Sel _ (ensA (some q') zs) _ from sE0)).1 hy).load (j := 1) rfl)) ?_
        refine Xp rfl (GP 40 rfl (fun hg6_24 => ?_) (fun hg6_24 => ?_))
        · have hne : ys.map entV ≠ zs.map entV := fun h => hg6_24 (by have h8 := entV_at hx; rw [h, entV_at hy] at h8; have := congrArg EntR.epoch (Option.some.inj h8); exact this.symm)
          refine Xp rfl (PS (⟨OR, ⟨OR, ⟨OR, ⟨OR, trivial⟩⟩⟩⟩) ?_)
          refine Xp rfl (R1 rfl rfl (⟨congrArg Value.bool (decide_eq_false hne).symm, rfl⟩))
        · refine Xp rfl (VP (fun w9 => R.idx rfl rfl (by omega) (by omega) q rfl) ?_)
          refine VP (fun w9 => R.fldA rfl) ?_
          refine VW (fun w9 F9 S9 s => R.ld rfl (v := iv x.n) (by rw [Int.toNat_natCast]; exact (rowsC_ld (s := 7) (fun _ _ => rfl) (s.ens (show Sel _ (ensA (some q) ys) _ from sE0)).1 hx).load (j := 2) rfl)) ?_
          refine Xp rfl (VP (fun w9 => R.idx rfl rfl (by omega) (by omega) q' rfl) ?_)
          refine VP (fun w9 => R.fldA rfl) ?_
          refine VW (fun w9 F9 S9 s => R.ld rfl (v := iv y.n) (by rw [Int.toNat_natCast]; exact (rowsC_ld (s := 7) (fun _ _ => rfl) (s.ens (show Sel _ (ensA (some q') zs) _ from sE0)).1 hy).load (j := 2) rfl)) ?_
          refine Xp rfl (GP 53 rfl (fun hg6_37 => ?_) (fun hg6_37 => ?_))
          · have hne : ys.map entV ≠ zs.map entV := fun h => hg6_37 (by have h8 := entV_at hx; rw [h, entV_at hy] at h8; have := congrArg EntR.n (Option.some.inj h8); exact this.symm)
            refine Xp rfl (PS (⟨OR, ⟨OR, ⟨OR, ⟨OR, ⟨OR, ⟨OR, trivial⟩⟩⟩⟩⟩⟩) ?_)
            refine Xp rfl (R1 rfl rfl (⟨congrArg Value.bool (decide_eq_false hne).symm, rfl⟩))
          · refine Xp rfl (VP (fun w9 => R.idx rfl rfl (by omega) (by omega) q rfl) ?_)
            refine VP (fun w9 => R.fldA rfl) ?_
            refine VW (fun w9 F9 S9 s => R.ldN rfl (vs := [iv x.kd, iv x.tl, iv x.nu, .slice x.a x.xs.length x.c]) (by rw [Int.toNat_natCast]; exact entR_cells (rowsC_ld (s := 7) (fun _ _ => rfl) (s.ens (show Sel _ (ensA (some q) ys) _ from sE0)).1 hx)) rfl) ?_
            refine Xp rfl (VP (fun w9 => R.idx rfl rfl (by omega) (by omega) q' rfl) ?_)
            refine VP (fun w9 => R.fldA rfl) ?_
            refine VW (fun w9 F9 S9 s => R.ldN rfl (vs := [iv y.kd, iv y.tl, iv y.nu, .slice y.a y.xs.length y.c]) (by rw [Int.toNat_natCast]; exact entR_cells (rowsC_ld (s := 7) (fun _ _ => rfl) (s.ens (show Sel _ (ensA (some q') zs) _ from sE0)).1 hy)) rfl) ?_
            refine SW' (CS.call rfl go16 (dsameK x.kd x.tl x.nu x.a x.c x.xs y.kd y.tl y.nu y.a y.c y.xs ⟨hbx, hby⟩) sE1) ?_
            rintro _ _ ⟨_, ⟨rfl, rfl⟩, rfl⟩
            refine ⟨⟨OR, ⟨OR, ⟨OR, ⟨OR, ⟨OR, ⟨OR, ⟨OR, ⟨OR, trivial⟩⟩⟩⟩⟩⟩⟩⟩, N0 ?_⟩
            refine Xp rfl (CB rfl (fun h2 => ?_) (fun h2 => ?_))
            · have hne : ys.map entV ≠ zs.map entV := fun h => by
                  have h8 := entV_at hx
                  rw [h, entV_at hy] at h8
                  have h9 := Option.some.inj h8
                  have e1 := congrArg EntR.h h9
                  have e2 := congrArg EntR.ws h9
                  simp only [entV, Prod.mk.injEq] at e1 e2
                  rw [decide_eq_true ⟨⟨e1.1.symm, e1.2.1.symm, e1.2.2.symm⟩, e2.symm⟩] at h2
                  cases h2
              refine Xp rfl (R1 rfl rfl (⟨congrArg Value.bool (decide_eq_false hne).symm, rfl⟩))
            · have hxy : entV x = entV y := by
                  have h9 : (x.kd = y.kd ∧ x.tl = y.tl ∧ x.nu = y.nu) ∧ x.xs.map wrV = y.xs.map wrV := of_decide_eq_true (by simpa using h2)
                  unfold entV
                  rw [show x.lsn = y.lsn by omega, show x.epoch = y.epoch by omega, show x.n = y.n by omega, h9.1.1, h9.1.2.1, h9.1.2.2, h9.2]
              refine Xp rfl (HD (k + 1) (⟨by omega, by omega, by rw [List.take_add_one, List.take_add_one, hp, entV_at hx, entV_at hy, hxy]⟩))
    · refine Xp rfl (R1 rfl rfl (⟨congrArg Value.bool (decide_eq_true (by rw [List.take_of_length_le (by rw [List.length_map]; omega), List.take_of_length_le (by rw [List.length_map]; omega)] at hp; exact hp)).symm, rfl⟩))

end Go.Proofs.Ytcedgodfmohleaa
/-
  The document: crc, pack.
-/
set_option linter.unusedVariables false
set_option linter.unusedSimpArgs false
set_option maxRecDepth 4000
namespace Go.Proofs.Ytcedgodfmohleaa
open Go Brv Brv.Crc Brv.Pack
theorem djoinK (r : UInt32) (a : Option Addr) (n c : Nat) (l : List UInt8) (hn : n ≤ 140737488355328) : SpecS Try.prog 64 [v32 r, .slice a n c] [bs a n l] (fun v H' => v = v32 (joinF r l) ∧ H' = []) := by
  refine EN Try.func64 rfl rfl fun o => ?_
  refine FB (show Sel _ (bs a n l) _ from sE0) fun hl => ?_
  have hr := lt_u32 r
  refine Xp rfl (VL (fun w9 F9 S9 s => R.subW rfl rfl _ (compl_sub r)) ?_)
  refine Xp rfl (LP (fun (i : Nat) r9 => (5, v32 (refR (~~~ r) l i)) :: (6, iv i) :: r9) (fun i R9 => R9) (fun i => i ≤ 8 * n) (fun i => 8 * n - i) (0) [1, 4] rfl (Nat.zero_le _) fun i hj => ?_)
  refine Xp rfl (CD rfl (fun h0 => ?_) (fun h0 => ?_))
  · have hcx := lt_u8 (l.getD (i / 8) 0)
    have hqx := lt_u32 (refR (~~~ r) l i)
    have hnx := refR_next (~~~ r) l i (by omega)
    refine Xp rfl (VL (fun w9 F9 S9 s => R.rem rfl rfl (by omega) (by omega)) ?_)
    refine VL (fun w9 F9 S9 s => R.eqI rfl rfl) ?_
    refine Xp rfl (IB (j := i / 8) rfl rfl fun p23 => ?_)
    refine Xp rfl (VL (fun w9 F9 S9 s => R.conv rfl ((i % 8 : Nat) : Int) (wrap_u64c (by omega) |>.trans (by omega))) ?_)
    refine VL (fun w9 F9 S9 s => R.shrW rfl rfl (by omega) (((l.getD (i / 8) 0).toNat : Int) / 2 ^ (i % 8)) (shr_u8 _ _ (by omega))) ?_
    refine VL (fun w9 F9 S9 s => R.rem rfl rfl (by apply Int.ediv_nonneg (by omega); apply Int.le_of_lt; apply Int.pow_pos; decide) (by omega)) ?_
    refine VL (fun w9 F9 S9 s => R.eqI rfl rfl) ?_
    refine Xpf 2 rfl ?_
    refine BE 7 rfl (show Value.bool _ = Value.bool (oneF (refR (~~~ r) l i) (l.getD (i / 8) 0) (i % 8)) from rfl) ?_
    refine Xp rfl (VL (fun w9 F9 S9 s => R.quoW rfl rfl (by omega) _ (four_k _ 1 2 (by omega) rfl)) ?_)
    refine Xp rfl (CB rfl (fun h1 => ?_) (fun h1 => ?_))
    · have hnx2 : refR (~~~ r) l (i + 1) = (refR (~~~ r) l i >>> 1) ^^^ 0xedb88320 := by rw [hnx]; unfold bitF; rw [if_pos h1]
      refine Xp rfl (VL (fun w9 F9 S9 s => R.xorW rfl rfl _ (xorI_u32 _ 0xedb88320)) ?_)
      refine Xpf 1 rfl ?_
      refine BE 5 rfl (congrArg v32 hnx2.symm) ?_
      refine Xp rfl (HD (i + 1) (⟨by omega, by omega⟩))
    · have hnx2 : refR (~~~ r) l (i + 1) = (refR (~~~ r) l i >>> 1) := by rw [hnx]; unfold bitF; rw [if_neg (by rw [h1]; decide)]
      refine BE 5 rfl (congrArg v32 hnx2.symm) ?_
      refine Xp rfl (HD (i + 1) (⟨by omega, by omega⟩))
  · obtain rfl : i = 8 * n := by omega
    refine BE 5 rfl (congrArg v32 (show _ = restF (~~~ r) l by rw [hl]; exact refR_end _ _)) ?_
    refine Xp rfl (VL (fun w9 F9 S9 s => R.subW rfl rfl _ (compl_sub _)) ?_)
    refine Xp rfl (R1 rfl rfl (⟨rfl, rfl⟩))

theorem dfourK (x : UInt32) : SpecS Try.prog 63 [v32 x] [] (fun v H' => v = .string (str (fourF x)) ∧ H' = []) := by
  refine EN Try.func63 rfl rfl fun o => ?_
  have hv := lt_u32 x
  refine Xp rfl (VL (fun w9 F9 S9 s => R.rem rfl rfl (by omega) (by omega)) ?_)
  refine VL (fun w9 F9 S9 s => R.conv rfl _ (four_0 x)) ?_
  refine Xp rfl (VL (fun w9 F9 S9 s => R.quoW rfl rfl (by omega) _ (four_k x 8 256 (by omega) rfl)) ?_)
  refine VL (fun w9 F9 S9 s => R.rem rfl rfl (by omega) (by omega)) ?_
  refine VL (fun w9 F9 S9 s => R.conv rfl _ (four_0 _)) ?_
  refine Xp rfl (VL (fun w9 F9 S9 s => R.quoW rfl rfl (by omega) _ (four_k x 16 65536 (by omega) rfl)) ?_)
  refine VL (fun w9 F9 S9 s => R.rem rfl rfl (by omega) (by omega)) ?_
  refine VL (fun w9 F9 S9 s => R.conv rfl _ (four_0 _)) ?_
  refine Xp rfl (VL (fun w9 F9 S9 s => R.quoW rfl rfl (by omega) _ (four_k x 24 16777216 (by omega) rfl)) ?_)
  refine VL (fun w9 F9 S9 s => R.conv rfl ((x >>> 24).toUInt8.toNat : Int) (four_top x)) ?_
  refine BS rfl rfl rfl rfl rfl rfl fun b17 => ?_
  refine VL (fun w9 F9 S9 s => R.bytesStr rfl (s.blkC (show Sel _ (blk b17 _ _) _ from sE0) : Cells _ _ (vbs (fourF x))) rfl) ?_
  refine Xp rfl (R1 rfl rfl (⟨rfl, rfl⟩))

theorem dmarkK (a : Option Addr) (n c : Nat) (l : List UInt8) (hs : n ≤ c ∧ n ≤ 140737488355328) : SpecS Try.prog 44 [.slice a n c] [bs a n l] (fun v H' => v = .string (str (markF l)) ∧ H' = []) := by
  refine EN Try.func44 rfl rfl fun o => ?_
  refine FB (show Sel _ (bs a n l) _ from sE0) fun hl => ?_
  refine Xp rfl (CD rfl (fun h0 => ?_) (fun h0 => ?_))
  · refine Xp rfl (VL (fun w9 F9 S9 s => R.bytesStr rfl (s.bs (show Sel _ (bs a n l) _ from sE0)).cells (s.bs (show Sel _ (bs a n l) _ from sE0)).len) ?_)
    refine Xp rfl (R1 rfl rfl (⟨by unfold markF; rw [if_pos (by omega)], rfl⟩))
  · refine Xpf 8 rfl ?_
    refine BE 3 rfl (congrArg (Value.int .i64) (show ((n : Int) - 4) = ((n - 4 : Nat) : Int) by omega)) ?_
    refine Xpf 3 rfl ?_
    refine BE 3 rfl (show _ = iv ((n - 4 : Nat) : Int) from congrArg (Value.int .i64) (by omega)) ?_
    refine IM (show Imp _ (bs (subA a 0 c 1) (n - 4) (l.take (n - 4)) :: _) from Imp.weak (show Sel _ (bs a n l) _ from sE0) (fun w h => h.take c (n - 4) (by omega) hs.1)) ?_
    refine DR [7, 8] [0, 1, 2, 3, 4, 5, 6, 7, 8, 9, 10] ?_
    refine Xp rfl (VP (fun w9 => R.slH rfl rfl (by omega) (by omega)) ?_)
    refine VW (fun w9 F9 S9 s => R.bytesStr rfl (s.bs (show Sel _ (bs (subA a 0 c 1) (n - 4) (l.take (n - 4))) _ from sE0)).cells (s.bs (show Sel _ (bs (subA a 0 c 1) (n - 4) (l.take (n - 4))) _ from sE0)).len) ?_
    refine Xp rfl (VP (fun w9 => R.slH rfl rfl (by omega) (by omega)) ?_)
    refine SW' (CS.call rfl go64 (djoinK 0 (subA a 0 c 1) (n - 4) c (l.take (n - 4)) (by omega)) sE1) ?_
    rintro _ _ ⟨_, ⟨rfl, rfl⟩, rfl⟩
    refine ⟨⟨.inr (fun w9 F9 S9 s => R.bytesStr rfl (s.bs (show Sel _ (bs (subA a 0 c 1) (n - 4) (l.take (n - 4))) _ from sE0)).cells (s.bs (show Sel _ (bs (subA a 0 c 1) (n - 4) (l.take (n - 4))) _ from sE0)).len), trivial⟩, N0 ?_⟩
    refine SW' (CS.call rfl go63 (dfourK (joinF 0 (l.take (n - 4)))) sE1) ?_
    rintro _ _ ⟨_, ⟨rfl, rfl⟩, rfl⟩
    refine ⟨⟨.inr (fun w9 F9 S9 s => R.bytesStr rfl (s.bs (show Sel _ (bs (subA a 0 c 1) (n - 4) (l.take (n - 4))) _ from sE0)).cells (s.bs (show Sel _ (bs (subA a 0 c 1) (n - 4) (l.take (n - 4))) _ from sE0)).len), trivial⟩, N0 ?_⟩
    refine VP (fun w9 => R.addStr rfl rfl (by simp [fourF]; omega)) ?_
    refine Xp rfl (R1 rfl rfl (⟨by unfold markF; rw [if_neg (by omega), ← hl], rfl⟩))

theorem dnum0 (x : Nat) : SpecS Try.prog 65 [iv (x : Int), iv 0] [] (fun v H' => v = .string (str (be 0 x)) ∧ H' = []) := by
  refine EN Try.func65 rfl rfl fun o => ?_
  refine Xp rfl (CT rfl (rfl) ?_)
  refine Xp rfl (R1 rfl rfl (⟨rfl, rfl⟩))

theorem dnumS (x k : Nat) (hx : x ≤ 9223372036854775807) (hk : k ≤ 100) (ih : ∀ x : Nat, x ≤ 9223372036854775807 → SpecS Try.prog 65 [iv (x : Int), iv (k : Int)] [] (fun v H' => v = .string (str (be k x)) ∧ H' = [])) : SpecS Try.prog 65 [iv (x : Int), iv ((k + 1 : Nat) : Int)] [] (fun v H' => v = .string (str (be (k + 1) x)) ∧ H' = []) := by
  refine EN Try.func65 rfl rfl fun o => ?_
  refine Xp rfl (CE rfl (decide_eq_false (by omega)) ?_)
  refine Xp rfl (DT (.flo 0 (.flo 1 (.flo 2 (.flo 3 (.flo 5 (.flo 6 (.flo 7 (.alt 4 (.alt 8 (.flo 9 (.flo 10 (.flo 11 .nil))) .stop) (.alt 8 (.flo 9 (.alt 4 (.flo 10 (.flo 11 .nil)) .stop)) .stop))))))))) ?_)
  refine Xp rfl (VT rfl (fun w9 F9 S9 s => R.conv rfl ((UInt8.ofNat (x % 256)).toNat : Int) (by simp only [UInt8.toNat_ofNat']; exact (wrap_u8 (by omega)).trans (by omega))) ?_)
  refine TO ?_ ?_
  · refine BE 8 rfl (show _ = iv ((x / 256 : Nat) : Int) from congrArg (Value.int .i64) (by omega)) ?_
    refine BE 10 rfl (show _ = iv (k : Int) from congrArg (Value.int .i64) (by omega)) ?_
    refine ST' rfl (CS.call rfl go65 (ih (x / 256) (by omega)) sE1) ?_
    rintro _ _ ⟨_, ⟨rfl, rfl⟩, rfl⟩
    refine ⟨⟨.inr (fun w9 F9 S9 s => R.conv rfl ((UInt8.ofNat (x % 256)).toNat : Int) (by simp only [UInt8.toNat_ofNat']; exact (wrap_u8 (by omega)).trans (by omega))), trivial⟩, N0 ?_⟩
    refine ST' rfl (CS.buildA rfl rfl rfl rfl rfl (vbs [UInt8.ofNat (x % 256)]) rfl) ?_
    rintro _ _ ⟨b15, rfl, rfl⟩
    refine ⟨⟨OR, trivial⟩, ?_⟩
    refine VT rfl (fun w9 F9 S9 s => R.bytesStr rfl (s.blkC (show Sel _ (blk b15 _ _) _ from sE0)) rfl) ?_
    refine VT rfl (fun w9 F9 S9 s => R.addStr rfl rfl (by simp [be_length]; omega)) ?_
    refine Xp rfl (R1 rfl rfl (⟨rfl, rfl⟩))
  refine ST' rfl (CS.buildA rfl rfl rfl rfl rfl (vbs [UInt8.ofNat (x % 256)]) rfl) ?_
  rintro _ _ ⟨b15, rfl, rfl⟩
  refine ⟨⟨OR, trivial⟩, ?_⟩
  refine VT rfl (fun w9 F9 S9 s => R.bytesStr rfl (s.blkC (show Sel _ (blk b15 _ _) _ from sE0)) rfl) ?_
  refine BE 8 rfl (show _ = iv ((x / 256 : Nat) : Int) from congrArg (Value.int .i64) (by omega)) ?_
  refine BE 10 rfl (show _ = iv (k : Int) from congrArg (Value.int .i64) (by omega)) ?_
  refine ST' rfl (CS.call rfl go65 (ih (x / 256) (by omega)) sE1) ?_
  rintro _ _ ⟨_, ⟨rfl, rfl⟩, rfl⟩
  refine ⟨⟨.inr (fun w9 F9 S9 s => R.bytesStr rfl (s.blkC (show Sel _ (blk b15 _ _) _ from sE0)) rfl), ⟨.inr (fun w9 F9 S9 s => R.conv rfl ((UInt8.ofNat (x % 256)).toNat : Int) (by simp only [UInt8.toNat_ofNat']; exact (wrap_u8 (by omega)).trans (by omega))), trivial⟩⟩, N0 ?_⟩
  refine VT rfl (fun w9 F9 S9 s => R.addStr rfl rfl (by simp [be_length]; omega)) ?_
  refine Xp rfl (R1 rfl rfl (⟨rfl, rfl⟩))

end Go.Proofs.Ytcedgodfmohleaa
/-
  The document: pack.
-/
set_option linter.unusedVariables false
set_option linter.unusedSimpArgs false
set_option maxRecDepth 4000
namespace Go.Proofs.Ytcedgodfmohleaa
open Go Brv Brv.Pack
theorem idx_at {l : List UInt8} {i : Int} (k : Nat) (hk : k < l.length) (hi : i = k) : l[i.toNat]? = some (l[k]'hk) := by subst hi; rw [Int.toNat_natCast]; exact List.getElem?_eq_getElem hk
theorem dnumK : ∀ (k x : Nat), k ≤ 100 → x ≤ 9223372036854775807 → SpecS Try.prog 65 [iv (x : Int), iv (k : Int)] [] (fun v H' => v = .string (str (be k x)) ∧ H' = [])
  | 0, x, _, _ => dnum0 x
  | k + 1, x, hk, hx => dnumS x k hx (by omega) fun x hx => dnumK k x (by omega) hx
theorem dtextK (a : Option Addr) (c : Nat) (l : List UInt8) (hn : l.length ≤ 140737488351232) : SpecS Try.prog 66 [.slice a l.length c] [bs a l.length l] (fun v H' => v = .string (str (textF l)) ∧ H' = []) := by
  refine EN Try.func66 rfl rfl fun o => ?_
  refine Xp rfl (DR [2] [0, 1, 3, 4, 2, 5, 6] ?_)
  refine Xp rfl (VW (fun w9 F9 S9 s => R.bytesStr rfl (s.bs (show Sel _ (bs a l.length l) _ from sE0)).cells (s.bs (show Sel _ (bs a l.length l) _ from sE0)).len) ?_)
  refine SW' (CS.call rfl go65 (dnumK 2 l.length (by decide) (by omega)) sE1) ?_
  rintro _ _ ⟨_, ⟨rfl, rfl⟩, rfl⟩
  refine ⟨⟨.inr (fun w9 F9 S9 s => R.bytesStr rfl (s.bs (show Sel _ (bs a l.length l) _ from sE0)).cells (s.bs (show Sel _ (bs a l.length l) _ from sE0)).len), trivial⟩, N0 ?_⟩
  refine VP (fun w9 => R.addStr rfl rfl (by simp [be_length]; omega)) ?_
  refine Xp rfl (R1 rfl rfl (⟨rfl, rfl⟩))

theorem dpadK (l : List UInt8) (hl : l.length ≤ 70368744177664) : SpecS Try.prog 67 [.string (str l), iv 64] [] (fun v H' => v = .string (str (padF 64 l)) ∧ H' = []) := by
  refine EN Try.func67 rfl rfl fun o => ?_
  have hpl := padN_lt (n := 64) (k := l.length) (by decide)
  refine Xpf 7 rfl ?_
  refine BE 0 rfl (congrArg Value.string (show str l = str (l ++ List.replicate 0 0) by simp)) ?_
  refine LP (fun (j : Nat) r9 => (0, .string (str (l ++ List.replicate j 0))) :: r9) (fun j R9 => R9) (fun j => j ≤ padN 64 l.length) (fun j => padN 64 l.length - j) (0) [1, 4] rfl (Nat.zero_le _) fun j hj => ?_
  refine Xp rfl (GT 7 rfl (rfl) ?_)
  refine Xp rfl (VL (fun w9 F9 S9 s => R.lenStr rfl) ?_)
  refine BE 9 rfl (congrArg (Value.int .i64) (show ((str (l ++ List.replicate j 0)).size : Int) = ((l.length + j : Nat) : Int) by rw [str_size]; simp)) ?_
  refine Xp rfl (CD rfl (fun h0 => ?_) (fun h0 => ?_))
  · have hne := mt (pad_end (y := 64) (by decide) hj).2 h0
    have hlt : j < padN 64 l.length := Nat.lt_of_le_of_ne hj hne
    refine Xp rfl (VL (fun w9 F9 S9 s => R.addStr (b := [0]) rfl rfl (by first | (simp; omega) | simp)) ?_)
    refine BE 15 rfl (congrArg Value.string (show str (l ++ List.replicate j 0 ++ [0]) = str (l ++ List.replicate (j + 1) 0) by rw [List.append_assoc, List.replicate_succ'])) ?_
    refine Xp rfl (HD (j + 1) (⟨by omega, by omega⟩))
  · refine Xp rfl (R1 rfl rfl (⟨by have hj9 := (pad_end (y := 64) (by decide) hj).1 (by omega); rw [hj9]; unfold padF; rw [if_neg (by decide)], rfl⟩))

theorem dscanNK (y : Nat) (s : Nat) (l : List UInt8) (e : Int) (hs : (1 ≤ y ∧ y ≤ 8) ∧ l.length ≤ 1000000000) : SpecS Try.prog 45 [pt s, iv (y : Int)] [blk s [.string (str l), iv e] 94] (fun v H' => v = iv (numF l e y).1 ∧ H' = [blk s [.string (str ((numF l e y).2.1)), iv ((numF l e y).2.2)] 94]) := by
  refine EN Try.func45 rfl rfl fun o => ?_
  obtain ⟨hy, hl⟩ := hs
  refine Xp rfl (LD rfl ?_)
  refine Xp rfl (CD rfl (fun h0 => ?_) (fun h0 => ?_))
  · rw [numF_err (by omega)]
    refine Xp rfl (R1 rfl rfl (⟨rfl, rfl⟩))
  · obtain rfl : e = 0 := by omega
    refine Xp rfl (GE 14 rfl (decide_eq_false (by omega)) ?_)
    refine Xp rfl (GE 18 rfl (by simp; omega) ?_)
    refine Xp rfl (LD rfl ?_)
    refine VL (fun w9 F9 S9 s => R.lenStr rfl) ?_
    refine BE 23 rfl (congrArg (Value.int .i64) (congrArg Nat.cast (str_size l))) ?_
    refine Xp rfl (GP 27 rfl (fun hg3_15 => ?_) (fun hg3_15 => ?_))
    · refine Xpf 15 rfl ?_
      have hno : ¬ okN l y := by
          rintro ⟨h1, h2, h3, h4⟩
          first | omega | (have := h4 (by omega); rw [getD_zero (by omega)] at this; omega)
      rw [numF_no hno]
      refine Xp rfl (ST rfl rfl ?_)
      refine Xp rfl (R1 rfl rfl (⟨rfl, rfl⟩))
    · refine Xp rfl (GP 30 rfl (fun hg3_18 => ?_) (fun hg3_18 => ?_))
      · refine Xp rfl (LD rfl ?_)
        refine VL (fun w9 F9 S9 s => R.idxStr rfl rfl (by omega) (idx_at (l := l) 0 (by omega) rfl)) ?_
        refine VL (fun w9 F9 S9 s => R.gtr rfl rfl) ?_
        refine Xp rfl (CD rfl (fun h1 => ?_) (fun h1 => ?_))
        · refine Xpf 1 rfl ?_
          have hno : ¬ okN l y := by
              rintro ⟨h1, h2, h3, h4⟩
              first | omega | (have := h4 (by omega); rw [getD_zero (by omega)] at this; omega)
          rw [numF_no hno]
          refine Xp rfl (ST rfl rfl ?_)
          refine Xp rfl (R1 rfl rfl (⟨rfl, rfl⟩))
        · refine Xpf 3 rfl ?_
          have hok : okN l y := by
              refine ⟨by omega, by omega, by omega, fun h8 => ?_⟩
              first | omega | (rw [getD_zero (by omega)]; omega)
          have htl := okN_lt hok
          rw [numF_ok hok, Int.toNat_natCast] at *
          refine Xp rfl (LP (fun (k : Nat) r9 => (5, iv (num (l.take k))) :: (6, iv k) :: r9) (fun k R9 => R9) (fun k => k ≤ y) (fun k => y - k) (0) [0, 1, 4] rfl (Nat.zero_le _) fun k hj => ?_)
          refine Xp rfl (CD rfl (fun h2 => ?_) (fun h2 => ?_))
          · have hns := num_step (l := l) (k := k) (m := y) (by omega) (by omega) htl
            have hl8 := Crc.lt_u8 (l[k]'(by omega))
            refine Xp rfl (LD rfl ?_)
            refine Xp rfl (VL (fun w9 F9 S9 s => R.idxStr rfl rfl (by omega) (idx_at (l := l) k (by omega) rfl)) ?_)
            refine Xpf 3 rfl ?_
            refine BE 5 rfl (congrArg (Value.int .i64) (show _ = ((num (l.take (k + 1)) : Nat) : Int) by rw [num_take_succ l (by omega)]; omega)) ?_
            refine Xp rfl (HD (k + 1) (⟨by omega, by omega⟩))
          · obtain rfl : k = y := by omega
            refine Xp rfl (LD rfl ?_)
            refine Xp rfl (VL (fun w9 F9 S9 s => R.slStrL rfl rfl (by omega) (by omega)) ?_)
            rw [Int.toNat_natCast]
            refine Xp rfl (ST rfl rfl ?_)
            refine Xp rfl (R1 rfl rfl (⟨rfl, rfl⟩))
      · refine Xpf 14 rfl ?_
        have hok : okN l y := by
            refine ⟨by omega, by omega, by omega, fun h8 => ?_⟩
            first | omega | (rw [getD_zero (by omega)]; omega)
        have htl := okN_lt hok
        rw [numF_ok hok, Int.toNat_natCast] at *
        refine Xp rfl (LP (fun (k : Nat) r9 => (5, iv (num (l.take k))) :: (6, iv k) :: r9) (fun k R9 => R9) (fun k => k ≤ y) (fun k => y - k) (0) [0, 1, 4] rfl (Nat.zero_le _) fun k hj => ?_)
        refine Xp rfl (CD rfl (fun h2 => ?_) (fun h2 => ?_))
        · have hns := num_step (l := l) (k := k) (m := y) (by omega) (by omega) htl
          have hl8 := Crc.lt_u8 (l[k]'(by omega))
          refine Xp rfl (LD rfl ?_)
          refine Xp rfl (VL (fun w9 F9 S9 s => R.idxStr rfl rfl (by omega) (idx_at (l := l) k (by omega) rfl)) ?_)
          refine Xpf 3 rfl ?_
          refine BE 5 rfl (congrArg (Value.int .i64) (show _ = ((num (l.take (k + 1)) : Nat) : Int) by rw [num_take_succ l (by omega)]; omega)) ?_
          refine Xp rfl (HD (k + 1) (⟨by omega, by omega⟩))
        · obtain rfl : k = y := by omega
          refine Xp rfl (LD rfl ?_)
          refine Xp rfl (VL (fun w9 F9 S9 s => R.slStrL rfl rfl (by omega) (by omega)) ?_)
          rw [Int.toNat_natCast]
          refine Xp rfl (ST rfl rfl ?_)
          refine Xp rfl (R1 rfl rfl (⟨rfl, rfl⟩))

theorem dscanTK (y : Int) (s : Nat) (l : List UInt8) (e : Int) (hs : (0 ≤ y ∧ y ≤ 1000000) ∧ l.length ≤ 1000000000) : SpecS Try.prog 46 [pt s, iv y] [blk s [.string (str l), iv e] 94] (fun v H' => v = .string (str (txtF l e y).1) ∧ H' = [blk s [.string (str ((txtF l e y).2.1)), iv ((txtF l e y).2.2)] 94]) := by
  refine EN Try.func46 rfl rfl fun o => ?_
  refine Xp rfl (LD rfl ?_)
  refine Xp rfl (DL0 rfl go45 (dscanNK 2 _ _ _) (N1 ?_))
  obtain ⟨m2, l2, e2, hq⟩ : ∃ m l' e', numF l e 2 = (m, l', e') := ⟨_, _, _, rfl⟩
  rw [show numF l e ((2 : Nat) : Int) = (m2, l2, e2) from hq]
  dsimp only
  refine Xp rfl (LD rfl ?_)
  refine Xp rfl (CD rfl (fun h0 => ?_) (fun h0 => ?_))
  · rw [txtF_first hq (by assumption)]
    refine Xp rfl (R1 rfl rfl (⟨rfl, rfl⟩))
  · obtain rfl : e2 = 0 := by omega
    obtain rfl := numF_zero hq
    have htwo := numF_two hq
    have hl2 : l2.length ≤ 1000000000 := by rcases htwo with ⟨_, _, _, rfl⟩ | ⟨_, _, _, rfl⟩ <;> (try rw [List.length_drop]) <;> omega
    refine Xp rfl (GP 22 rfl (fun hg5_3 => ?_) (fun hg5_3 => ?_))
    · refine Xpf 12 rfl ?_
      rw [txtF_no hq (by omega)]
      refine Xp rfl (ST rfl rfl ?_)
      refine Xp rfl (ST rfl rfl ?_)
      refine Xp rfl (R1 rfl rfl (⟨rfl, rfl⟩))
    · refine Xp rfl (LD rfl ?_)
      refine VL (fun w9 F9 S9 s => R.lenStr rfl) ?_
      refine BE 28 rfl (congrArg (Value.int .i64) (congrArg Nat.cast (str_size l2))) ?_
      refine Xp rfl (CD rfl (fun h1 => ?_) (fun h1 => ?_))
      · refine Xpf 1 rfl ?_
        rw [txtF_no hq (by omega)]
        refine Xp rfl (ST rfl rfl ?_)
        refine Xp rfl (ST rfl rfl ?_)
        refine Xp rfl (R1 rfl rfl (⟨rfl, rfl⟩))
      · refine Xpf 3 rfl ?_
        rw [txtF_yes hq (by omega) (by omega) (by omega)]
        refine Xp rfl (LD rfl ?_)
        refine Xp rfl (VL (fun w9 F9 S9 s => R.slStrH rfl rfl (by omega) (by omega)) ?_)
        rw [Int.toNat_natCast]
        refine Xp rfl (LD rfl ?_)
        refine Xp rfl (VL (fun w9 F9 S9 s => R.slStrL rfl rfl (by omega) (by omega)) ?_)
        rw [Int.toNat_natCast]
        refine Xp rfl (ST rfl rfl ?_)
        refine Xp rfl (R1 rfl rfl (⟨rfl, rfl⟩))

end Go.Proofs.Ytcedgodfmohleaa
/-
  The document: frame.
-/
set_option linter.unusedVariables false
set_option linter.unusedSimpArgs false
set_option maxRecDepth 4000
namespace Go.Proofs.Ytcedgodfmohleaa
open Go Brv Brv.Crc Brv.Pack Brv.Frame
theorem num2_eq {l : List UInt8} (h : 2 ≤ l.length) : num (l.take 2) = 46878 ↔ l.getD 0 0 = 183 ∧ l.getD 1 0 = 30 := by
  obtain ⟨x, y, r, rfl⟩ : ∃ x y r, l = x :: y :: r := by
    match l, h with
    | x :: y :: r, _ => exact ⟨x, y, r, rfl⟩
  have hx := Crc.lt_u8 x
  have hy := Crc.lt_u8 y
  show num [x, y] = 46878 ↔ x = 183 ∧ y = 30
  have e : num [x, y] = x.toNat * 256 + y.toNat := by simp [num]; omega
  rw [e]
  constructor
  · intro h
    exact ⟨UInt8.toNat_inj.1 (show x.toNat = 183 by omega), UInt8.toNat_inj.1 (show y.toNat = 30 by omega)⟩
  · rintro ⟨rfl, rfl⟩
    rfl
theorem okFr_ok {p q i k : Int} {l : List UInt8} (h : okFr p q i k l.length) : okV (p, q, i, k, l) := h
theorem dfrightK (p q i k : Int) (a : Option Addr) (n c : Nat) : SpecS Try.prog 47 [.agg #[iv p, iv q, iv i, iv k, .slice a n c]] [] (fun v H' => v = .bool (decide (okFr p q i k n)) ∧ H' = []) := by
  refine EN Try.func47 rfl rfl fun o => ?_
  refine Xp rfl (BX rfl fun b1 => ?_)
  refine Xp rfl (LD rfl ?_)
  refine Xp rfl (GP 6 rfl (fun hg1_3 => ?_) (fun hg1_3 => ?_))
  · refine Xp rfl (LD rfl ?_)
    refine Xp rfl (GP 11 rfl (fun hg1_8 => ?_) (fun hg1_8 => ?_))
    · refine Xp rfl (LD rfl ?_)
      refine Xp rfl (GP 16 rfl (fun hg1_13 => ?_) (fun hg1_13 => ?_))
      · refine Xp rfl (LD rfl ?_)
        refine Xp rfl (GP 21 rfl (fun hg1_18 => ?_) (fun hg1_18 => ?_))
        · refine Xp rfl (LD rfl ?_)
          refine Xp rfl (GP 26 rfl (fun hg1_23 => ?_) (fun hg1_23 => ?_))
          · refine Xp rfl (LD rfl ?_)
            refine Xp rfl (GP 31 rfl (fun hg1_28 => ?_) (fun hg1_28 => ?_))
            · refine Xp rfl (LD rfl ?_)
              refine Xp rfl (GP 36 rfl (fun hg1_33 => ?_) (fun hg1_33 => ?_))
              · refine Xp rfl (LD rfl ?_)
                refine Xp rfl (LD rfl ?_)
                refine Xp rfl (GP 43 rfl (fun hg1_40 => ?_) (fun hg1_40 => ?_))
                · refine Xp rfl (LD rfl ?_)
                  refine Xp rfl (R1 rfl rfl (⟨by first | exact congrArg Value.bool (decide_eq_decide.2 (by unfold okFr; omega)) | exact congrArg Value.bool (decide_eq_false (by unfold okFr; omega)).symm, rfl⟩))
                · refine Xp rfl (R1 rfl rfl (⟨by first | exact congrArg Value.bool (decide_eq_decide.2 (by unfold okFr; omega)) | exact congrArg Value.bool (decide_eq_false (by unfold okFr; omega)).symm, rfl⟩))
              · refine Xp rfl (R1 rfl rfl (⟨by first | exact congrArg Value.bool (decide_eq_decide.2 (by unfold okFr; omega)) | exact congrArg Value.bool (decide_eq_false (by unfold okFr; omega)).symm, rfl⟩))
            · refine Xp rfl (R1 rfl rfl (⟨by first | exact congrArg Value.bool (decide_eq_decide.2 (by unfold okFr; omega)) | exact congrArg Value.bool (decide_eq_false (by unfold okFr; omega)).symm, rfl⟩))
          · refine Xp rfl (R1 rfl rfl (⟨by first | exact congrArg Value.bool (decide_eq_decide.2 (by unfold okFr; omega)) | exact congrArg Value.bool (decide_eq_false (by unfold okFr; omega)).symm, rfl⟩))
        · refine Xp rfl (R1 rfl rfl (⟨by first | exact congrArg Value.bool (decide_eq_decide.2 (by unfold okFr; omega)) | exact congrArg Value.bool (decide_eq_false (by unfold okFr; omega)).symm, rfl⟩))
      · refine Xp rfl (R1 rfl rfl (⟨by first | exact congrArg Value.bool (decide_eq_decide.2 (by unfold okFr; omega)) | exact congrArg Value.bool (decide_eq_false (by unfold okFr; omega)).symm, rfl⟩))
    · refine Xp rfl (R1 rfl rfl (⟨by first | exact congrArg Value.bool (decide_eq_decide.2 (by unfold okFr; omega)) | exact congrArg Value.bool (decide_eq_false (by unfold okFr; omega)).symm, rfl⟩))
  · refine Xp rfl (R1 rfl rfl (⟨by first | exact congrArg Value.bool (decide_eq_decide.2 (by unfold okFr; omega)) | exact congrArg Value.bool (decide_eq_false (by unfold okFr; omega)).symm, rfl⟩))

theorem dfputK (p q i k : Int) (a : Option Addr) (c : Nat) (l : List UInt8) (hs : okFr p q i k l.length) : SpecS Try.prog 48 [.agg #[iv p, iv q, iv i, iv k, .slice a l.length c]] [bs a l.length l] (fun v H' => v = .string (str (frameF p q i k l)) ∧ H' = []) := by
  refine EN Try.func48 rfl rfl fun o => ?_
  obtain ⟨⟨o1, o2⟩, ⟨o3, o4⟩, ⟨o5, o6⟩, ⟨o7, o8⟩, o9⟩ := hs
  refine Xp rfl (BX rfl fun b1 => ?_)
  refine Xp rfl (DR [2, 6, 10, 14, 18] [0, 1, 4, 5, 8, 9, 12, 13, 16, 17, 2, 3, 6, 7, 10, 11, 14, 15, 18, 19, 20] ?_)
  refine Xp rfl (WD rfl ?_)
  refine Xp rfl (WD rfl ?_)
  refine Xp rfl (WD rfl ?_)
  refine Xp rfl (WD rfl ?_)
  refine Xp rfl (WD rfl ?_)
  refine BE 5 rfl (show _ = iv ((p.toNat : Nat) : Int) from congrArg (Value.int .i64) (by omega)) ?_
  refine SW' (CS.call rfl go65 (dnumK 8 p.toNat (by decide) (by omega)) sE1) ?_
  rintro _ _ ⟨_, ⟨rfl, rfl⟩, rfl⟩
  refine ⟨⟨OB rfl, ⟨OB rfl, ⟨OB rfl, ⟨OB rfl, ⟨OR, trivial⟩⟩⟩⟩⟩, N0 ?_⟩
  refine VP (fun w9 => R.addStr (a := [183, 30]) rfl rfl (by simp [be_length])) ?_
  refine BE 9 rfl (show _ = iv ((q.toNat : Nat) : Int) from congrArg (Value.int .i64) (by omega)) ?_
  refine SW' (CS.call rfl go65 (dnumK 4 q.toNat (by decide) (by omega)) sE1) ?_
  rintro _ _ ⟨_, ⟨rfl, rfl⟩, rfl⟩
  refine ⟨⟨OB rfl, ⟨OB rfl, ⟨OB rfl, ⟨OR, ⟨OR, trivial⟩⟩⟩⟩⟩, N0 ?_⟩
  refine VP (fun w9 => R.addStr rfl rfl (by simp [be_length, textF] <;> omega)) ?_
  refine BE 13 rfl (show _ = iv ((i.toNat : Nat) : Int) from congrArg (Value.int .i64) (by omega)) ?_
  refine SW' (CS.call rfl go65 (dnumK 2 i.toNat (by decide) (by omega)) sE1) ?_
  rintro _ _ ⟨_, ⟨rfl, rfl⟩, rfl⟩
  refine ⟨⟨OB rfl, ⟨OB rfl, ⟨OR, ⟨OR, ⟨OR, trivial⟩⟩⟩⟩⟩, N0 ?_⟩
  refine VP (fun w9 => R.addStr rfl rfl (by simp [be_length, textF] <;> omega)) ?_
  refine BE 17 rfl (show _ = iv ((k.toNat : Nat) : Int) from congrArg (Value.int .i64) (by omega)) ?_
  refine SW' (CS.call rfl go65 (dnumK 2 k.toNat (by decide) (by omega)) sE1) ?_
  rintro _ _ ⟨_, ⟨rfl, rfl⟩, rfl⟩
  refine ⟨⟨OB rfl, ⟨OR, ⟨OR, ⟨OR, ⟨OR, trivial⟩⟩⟩⟩⟩, N0 ?_⟩
  refine VP (fun w9 => R.addStr rfl rfl (by simp [be_length, textF] <;> omega)) ?_
  refine SW' (CS.call rfl go66 (dtextK a c l (by omega)) sE1) ?_
  rintro _ _ ⟨_, ⟨rfl, rfl⟩, rfl⟩
  refine ⟨⟨OR, ⟨OR, ⟨OR, ⟨OR, ⟨OR, trivial⟩⟩⟩⟩⟩, N0 ?_⟩
  refine VP (fun w9 => R.addStr rfl rfl (by simp [be_length, textF] <;> omega)) ?_
  refine Xp rfl ?_
  have hfp : ([183, 30] ++ be 8 p.toNat ++ be 4 q.toNat ++ be 2 i.toNat ++ be 2 k.toNat ++ textF l).length ≤ 64 := by simp [be_length, textF]; omega
  refine DL0 rfl go67 (dpadK _) (N0 ?_)
  have hfp2 := frame_pad p q i k l o9
  obtain ⟨FB, hFB⟩ : ∃ z, z = padF 64 (frameB p q i k l) := ⟨_, rfl⟩
  rw [← hFB] at hfp2
  rw [show padF 64 ([183, 30] ++ be 8 p.toNat ++ be 4 q.toNat ++ be 2 i.toNat ++ be 2 k.toNat ++ textF l) = FB from hFB.symm]
  refine SBy rfl fun a26 c26 h26 => ?_
  refine DL0 rfl go44 (dmarkK a26 _ c26 FB) (N0 ?_)
  refine Xp rfl (R1 rfl rfl (⟨by rw [hFB]; rfl, rfl⟩))

theorem dfgetK (a : Option Addr) (n c : Nat) (l : List UInt8) (hs : n ≤ c ∧ n ≤ 100000000) : SpecS Try.prog 24 [.slice a n c] [bs a n l] (fun v H' => ∃ a' c', (getF l).1.2.2.2.2.length ≤ c' ∧ v = .tuple #[.agg #[iv (getF l).1.1, iv (getF l).1.2.1, iv (getF l).1.2.2.1, iv (getF l).1.2.2.2.1, .slice a' (getF l).1.2.2.2.2.length c'], iv (getF l).2] ∧ H' = [bs a' (getF l).1.2.2.2.2.length (getF l).1.2.2.2.2]) := by
  refine EN Try.func24 rfl rfl fun o => ?_
  refine FB (show Sel _ (bs a n l) _ from sE0) fun hl => ?_
  refine Xp rfl (AL fun b2 => ?_)
  refine Xp rfl (GP 9 rfl (fun hg1_3 => ?_) (fun hg1_3 => ?_))
  · rw [getF_size (fun h => by omega)]
    refine IM (Imp.pure (p := fun w => Bs w none 0 []) (fun w => Bs.nil w)) ?_
    refine Xp rfl (BU rfl rfl ?_)
    refine SA rfl rfl ?_
    refine Xp rfl (R2c rfl rfl rfl (⟨none, 0, Nat.le_refl _, rfl, rfl⟩))
  · have h64 : l.length = 64 := by omega
    have hte := num2_eq (l := l) (by omega)
    refine Xp rfl (IB (j := 0) rfl rfl fun p11 => ?_)
    refine VL (fun w9 F9 S9 s => R.neI rfl rfl) ?_
    refine Xp rfl (GP 15 rfl (fun hg1_9 => ?_) (fun hg1_9 => ?_))
    · rw [getF_size (fun h => hg1_9 (by rw [(hte.1 h.2).1]; rfl))]
      refine IM (Imp.pure (p := fun w => Bs w none 0 []) (fun w => Bs.nil w)) ?_
      refine Xp rfl (BU rfl rfl ?_)
      refine SA rfl rfl ?_
      refine Xp rfl (R2c rfl rfl rfl (⟨none, 0, Nat.le_refl _, rfl, rfl⟩))
    · have h183 : l.getD 0 0 = 183 := UInt8.toNat_inj.1 (show (l.getD 0 0).toNat = 183 by omega)
      refine Xp rfl (IB (j := 1) rfl rfl fun p17 => ?_)
      refine VL (fun w9 F9 S9 s => R.neI rfl rfl) ?_
      refine Xp rfl (CD rfl (fun h0 => ?_) (fun h0 => ?_))
      · rw [getF_size (fun h => h0 (by rw [(hte.1 h.2).2]; rfl))]
        refine IM (Imp.pure (p := fun w => Bs w none 0 []) (fun w => Bs.nil w)) ?_
        refine Xp rfl (BU rfl rfl ?_)
        refine SA rfl rfl ?_
        refine Xp rfl (R2c rfl rfl rfl (⟨none, 0, Nat.le_refl _, rfl, rfl⟩))
      · have hm : l.length = 64 ∧ num (l.take 2) = 46878 := ⟨h64, hte.2 ⟨h183, UInt8.toNat_inj.1 (show (l.getD 1 0).toNat = 30 by omega)⟩⟩
        refine Xp rfl (DR [1] [0, 2, 3, 1, 4] ?_)
        refine Xp rfl (VW (fun w9 F9 S9 s => R.bytesStr rfl (s.bs (show Sel _ (bs a n l) _ from sE0)).cells (s.bs (show Sel _ (bs a n l) _ from sE0)).len) ?_)
        refine SW' (CS.call rfl go44 (dmarkK a n c l ⟨hs.1, by omega⟩) sE1) ?_
        rintro _ _ ⟨_, ⟨rfl, rfl⟩, rfl⟩
        refine ⟨⟨.inr (fun w9 F9 S9 s => R.bytesStr rfl (s.bs (show Sel _ (bs a n l) _ from sE0)).cells (s.bs (show Sel _ (bs a n l) _ from sE0)).len), trivial⟩, N0 ?_⟩
        refine VP (fun w9 => R.neStr rfl rfl) ?_
        refine Xp rfl (CD rfl (fun h1 => ?_) (fun h1 => ?_))
        · have hg : goodF l = false := by unfold goodF; rw [decide_eq_false (p := markF l = l) h1, Bool.and_false]
          rw [getF_sum hm hg]
          refine IM (Imp.pure (p := fun w => Bs w none 0 []) (fun w => Bs.nil w)) ?_
          refine Xp rfl (BU rfl rfl ?_)
          refine SA rfl rfl ?_
          refine Xp rfl (R2c rfl rfl rfl (⟨none, 0, Nat.le_refl _, rfl, rfl⟩))
        · have hg : goodF l = true := by unfold goodF; rw [decide_eq_true (p := markF l = l) (Classical.not_not.1 h1), decide_eq_true (by omega)]; rfl
          refine Xp rfl (SBl (2) rfl rfl fun a29 => ?_)
          refine VL (fun w9 F9 S9 s => R.bytesStr rfl (s.bs (show Sel _ (bs a29 (n - 2) (l.drop 2)) _ from sE0)).cells (s.bs (show Sel _ (bs a29 (n - 2) (l.drop 2)) _ from sE0)).len) ?_
          refine BU (l := [.string (str (l.drop 2)), iv 0]) rfl rfl ?_
          refine BX rfl fun b32 => ?_
          refine Xp rfl (AL fun b5 => ?_)
          refine Xp rfl ?_
          have q0 : (l.drop 2).length ≤ 64 := by rw [List.length_drop]; omega
          refine DL0 rfl go45 (dscanNK 8 b32 _ _) (N1 ?_)
          obtain ⟨A, hA⟩ : ∃ z, z = numF (l.drop 2) 0 8 := ⟨_, rfl⟩
          rw [show numF (l.drop 2) 0 ((8 : Nat) : Int) = A from hA.symm]
          have qA : A.2.1.length ≤ 64 := by rw [hA]; have := numF_length (l.drop 2) 0 8; omega
          refine Xp rfl (ST rfl rfl ?_)
          refine Xp rfl (DL0 rfl go45 (dscanNK 4 b32 _ _) (N1 ?_))
          obtain ⟨B, hB⟩ : ∃ z, z = numF A.2.1 A.2.2 4 := ⟨_, rfl⟩
          rw [show numF A.2.1 A.2.2 ((4 : Nat) : Int) = B from hB.symm]
          have qB : B.2.1.length ≤ 64 := by rw [hB]; have := numF_length A.2.1 A.2.2 4; omega
          refine Xp rfl (ST rfl rfl ?_)
          refine Xp rfl (DL0 rfl go45 (dscanNK 2 b32 _ _) (N1 ?_))
          obtain ⟨C, hC⟩ : ∃ z, z = numF B.2.1 B.2.2 2 := ⟨_, rfl⟩
          rw [show numF B.2.1 B.2.2 ((2 : Nat) : Int) = C from hC.symm]
          have qC : C.2.1.length ≤ 64 := by rw [hC]; have := numF_length B.2.1 B.2.2 2; omega
          refine Xp rfl (ST rfl rfl ?_)
          refine Xp rfl (DL0 rfl go45 (dscanNK 2 b32 _ _) (N1 ?_))
          obtain ⟨D, hD⟩ : ∃ z, z = numF C.2.1 C.2.2 2 := ⟨_, rfl⟩
          rw [show numF C.2.1 C.2.2 ((2 : Nat) : Int) = D from hD.symm]
          have qD : D.2.1.length ≤ 64 := by rw [hD]; have := numF_length C.2.1 C.2.2 2; omega
          refine Xp rfl (ST rfl rfl ?_)
          refine Xp rfl (DL0 rfl go46 (dscanTK 40 b32 _ _) (N1 ?_))
          obtain ⟨t, ht⟩ : ∃ z, z = txtF D.2.1 D.2.2 40 := ⟨_, rfl⟩
          rw [← ht]
          have hP : parse (l.drop 2) = (((A.1 : Int), (B.1 : Int), (C.1 : Int), (D.1 : Int), t.1), t.2.2) := by rw [ht, hD, hC, hB, hA]; rfl
          refine SBy rfl fun a47 c47 h47 => ?_
          refine Xp rfl (ST rfl rfl ?_)
          refine Xp rfl (DR [7, 12] [0, 1, 2, 3, 4, 5, 6, 7, 8, 9, 10, 11, 13, 14, 12, 15, 16] ?_)
          refine Xp rfl (WD rfl ?_)
          refine Xp rfl (GP 54 rfl (fun hg12_5 => ?_) (fun hg12_5 => ?_))
          · rw [getF_form hm hg (fun h => by rw [hP] at h; exact hg12_5 h.1)]
            refine Xp rfl (PS (⟨OR, trivial⟩) ?_)
            refine Xp rfl (PS (⟨OR, trivial⟩) ?_)
            refine Xpf 7 rfl ?_
            refine IM (Imp.pure (p := fun w => Bs w none 0 []) (fun w => Bs.nil w)) ?_
            refine Xp rfl (BU rfl rfl ?_)
            refine SA rfl rfl ?_
            refine Xp rfl (R2c rfl rfl rfl (⟨none, 0, Nat.le_refl _, rfl, rfl⟩))
          · refine Xp rfl (VW (fun w9 F9 S9 s => R.ldBN rfl (s.cel sE2) (by rfl)) ?_)
            refine SW' (CS.call rfl go47 (dfrightK (A.1 : Int) (B.1 : Int) (C.1 : Int) (D.1 : Int) a47 t.1.length c47) sE1) ?_
            rintro _ _ ⟨_, ⟨rfl, rfl⟩, rfl⟩
            refine ⟨⟨OR, ⟨OR, trivial⟩⟩, N0 ?_⟩
            refine Xp rfl (GB 59 rfl (fun hg12_10 => ?_) (fun hg12_10 => ?_))
            · have hnk : ¬ okV ((A.1 : Int), (B.1 : Int), (C.1 : Int), (D.1 : Int), t.1) := fun h => by rw [decide_eq_true (show okFr _ _ _ _ t.1.length from h)] at hg12_10; cases hg12_10
              rw [getF_form hm hg (fun h => by rw [hP] at h; have h9 := h.2; unfold putV at h9; rw [if_neg hnk] at h9; rw [← h9] at h64; cases h64)]
              refine Xp rfl (PS (⟨OR, ⟨OR, trivial⟩⟩) ?_)
              refine Xpf 7 rfl ?_
              refine IM (Imp.pure (p := fun w => Bs w none 0 []) (fun w => Bs.nil w)) ?_
              refine Xp rfl (BU rfl rfl ?_)
              refine SA rfl rfl ?_
              refine Xp rfl (R2c rfl rfl rfl (⟨none, 0, Nat.le_refl _, rfl, rfl⟩))
            · have hok : okFr (A.1 : Int) (B.1 : Int) (C.1 : Int) (D.1 : Int) t.1.length := by simpa using hg12_10
              have hpv : putV ((A.1 : Int), (B.1 : Int), (C.1 : Int), (D.1 : Int), t.1) = secV ((A.1 : Int), (B.1 : Int), (C.1 : Int), (D.1 : Int), t.1) := if_pos (okFr_ok hok)
              refine Xp rfl (VW (fun w9 F9 S9 s => R.ldBN rfl (s.cel sE2) (by rfl)) ?_)
              refine Xp rfl (VW (fun w9 F9 S9 s => R.bytesStr rfl (s.bs (show Sel _ (bs a n l) _ from sE0)).cells (s.bs (show Sel _ (bs a n l) _ from sE0)).len) ?_)
              refine SW' (CS.call rfl go48 (dfputK (A.1 : Int) (B.1 : Int) (C.1 : Int) (D.1 : Int) a47 c47 t.1 hok) sE1) ?_
              rintro _ _ ⟨_, ⟨rfl, rfl⟩, rfl⟩
              refine ⟨⟨.inr (fun w9 F9 S9 s => R.bytesStr rfl (s.bs (show Sel _ (bs a n l) _ from sE0)).cells (s.bs (show Sel _ (bs a n l) _ from sE0)).len), ⟨OR, ⟨OR, ⟨OR, trivial⟩⟩⟩⟩, N0 ?_⟩
              refine VP (fun w9 => R.neStr rfl rfl) ?_
              refine Xp rfl (CD rfl (fun h2 => ?_) (fun h2 => ?_))
              · rw [getF_form hm hg (fun h => by rw [hP] at h; exact h2 (hpv.symm.trans h.2))]
                refine Xpf 1 rfl ?_
                refine IM (Imp.pure (p := fun w => Bs w none 0 []) (fun w => Bs.nil w)) ?_
                refine Xp rfl (BU rfl rfl ?_)
                refine SA rfl rfl ?_
                refine Xp rfl (R2c rfl rfl rfl (⟨none, 0, Nat.le_refl _, rfl, rfl⟩))
              · rw [getF_yes hm hg (by rw [hP]; exact ⟨Classical.not_not.1 hg12_5, hpv.trans (Classical.not_not.1 h2)⟩), hP]
                refine Xp rfl (LA rfl ?_)
                refine SA rfl rfl ?_
                refine Xp rfl (R2c rfl rfl rfl (⟨a47, c47, h47, rfl, rfl⟩))

end Go.Proofs.Ytcedgodfmohleaa
/-
  The document: Gather.
-/
set_option linter.unusedVariables false
set_option linter.unusedSimpArgs false
set_option maxRecDepth 4000
namespace Go.Proofs.Ytcedgodfmohleaa
open Go Brv Brv.Crc Brv.Pack Brv.Frame
structure GthS where
  i : Nat
  q : Int
  k : Int
  body : List UInt8
  x0 : Value
  x2 : Value
  x4 : Value
structure GthZ where
  x0 : Value
  q : Int
  x2 : Value
  k : Int
  x4 : Value
theorem dgatherK (lsn : Int) (a : Option Addr) (n c : Nat) (l : List UInt8) (Nn : Nat) (hs : (0 ≤ lsn ∧ lsn ≤ 4611686018427387903) ∧ n = 64 * Nn ∧ n ≤ c ∧ Nn ≤ 70000) : SpecS Try.prog 25 [iv lsn, .slice a n c] [bs a n l] (fun v H' => v = .tuple #[.string (str (gathN lsn (sct l) Nn 0 0 0 []).2.1), iv (gathN lsn (sct l) Nn 0 0 0 []).2.2.1, iv (gathN lsn (sct l) Nn 0 0 0 []).2.2.2, iv ((gathN lsn (sct l) Nn 0 0 0 []).1 : Int)] ∧ H' = []) := by
  refine EN Try.func25 rfl rfl fun o => ?_
  obtain ⟨hlsn, hnn, hnc, hNn⟩ := hs
  refine FB (show Sel _ (bs a n l) _ from sE0) fun hln => ?_
  refine Xp rfl (GE 16 rfl (decide_eq_false (by omega)) ?_)
  refine Xp rfl (CE rfl (decide_eq_false (by omega)) ?_)
  refine Xp rfl (AL fun b9 => ?_)
  refine Xp rfl (LP (fun (y : GthS) r9 => (8, .string (str y.body)) :: (10, iv (y.i : Int)) :: r9) (fun y R9 => blk b9 [y.x0, iv y.q, y.x2, iv y.k, y.x4] 65 :: R9) (fun y => (y.i ≤ Nn ∧ y.body.length ≤ 40 * y.i) ∧ gathN lsn (sct l) (Nn - y.i) y.i y.q y.k y.body = gathN lsn (sct l) Nn 0 0 0 []) (fun y => Nn - y.i) (⟨0, 0, 0, [], iv 0, iv 0, .slice none 0 0⟩) [0, 1, 9] rfl (⟨⟨Nat.zero_le _, Nat.le_refl _⟩, rfl⟩) fun y ⟨⟨hi, hbl⟩, hg⟩ => ?_)
  refine Xp rfl (CD rfl (fun h1 => ?_) (fun h1 => ?_))
  · obtain ⟨m, hm⟩ : ∃ m, Nn - y.i = m + 1 := ⟨Nn - y.i - 1, by omega⟩
    rw [hm] at hg
    refine Xp rfl (CE rfl (decide_eq_false (by omega)) ?_)
    refine Xp rfl (SB (64 * y.i) (64) rfl rfl rfl fun a41 => ?_)
    rw [show (l.drop (64 * y.i)).take 64 = sct l y.i from rfl]
    refine DF2 rfl go24 (dfgetK _ _ _ (sct l y.i)) fun a42 c42 h42 => N1 ?_
    obtain ⟨f, hf⟩ : ∃ f, f = (getF (sct l y.i)).1 := ⟨_, rfl⟩
    obtain ⟨ee, hee⟩ : ∃ ee, ee = (getF (sct l y.i)).2 := ⟨_, rfl⟩
    rw [← hf] at h42
    rw [← hf, ← hee]
    refine Xp rfl (AS rfl fun b12 => ?_)
    refine Xp rfl (CD rfl (fun h3 => ?_) (fun h3 => ?_))
    · refine Xp rfl (R4 rfl rfl rfl rfl rfl (⟨by rw [← hg, gathN_err (by rw [takeE_err (by rw [← hee]; exact h3), ← hee]; exact h3), takeE_err (by rw [← hee]; exact h3), ← hee]; rfl, rfl⟩))
    · have he0 : ee = 0 := by omega
      have hok := (getF_ok (l := sct l y.i) (by rw [← hee]; exact he0)).1
      rw [← hf] at hok
      unfold okV okFrame at hok
      refine Xpf 9 rfl ?_
      refine JN (fun (z : GthZ) r9 => r9) (fun z R9 => blk b9 [z.x0, iv z.q, z.x2, iv z.k, z.x4] 65 :: R9) (fun z => z.q = qG y.i y.q f ∧ z.k = kG y.i y.k f) [0, 1, 8, 9, 10, 12] [blk b12 [iv f.1, iv f.2.1, iv f.2.2.1, iv f.2.2.2.1, .slice a42 f.2.2.2.2.length c42] 65, bs a42 f.2.2.2.2.length f.2.2.2.2, bs a n l] rfl ?_ fun z ⟨hzq, hzk⟩ => ?_
      · refine CD rfl (fun h4 => ?_) (fun h4 => ?_)
        · refine Xp rfl (LA rfl ?_)
          refine SA rfl rfl ?_
          refine Xp rfl (HD (⟨iv f.1, f.2.1, iv f.2.2.1, f.2.2.2.1, .slice a42 f.2.2.2.2.length c42⟩) (⟨(if_pos (by omega)).symm, (if_pos (by omega)).symm⟩))
        · refine Xp rfl (HD (⟨y.x0, y.q, y.x2, y.k, y.x4⟩) (⟨(if_neg (by omega)).symm, (if_neg (by omega)).symm⟩))
      · refine Xpf 3 rfl ?_
        refine JN (fun (w : Bool) r9 => (101, .bool w) :: r9) (fun w R9 => R9) (fun w => w = decide (badG lsn y.i z.q z.k f)) [0, 1, 8, 9, 10, 12] [blk b9 [z.x0, iv z.q, z.x2, iv z.k, z.x4] 65, blk b12 [iv f.1, iv f.2.1, iv f.2.2.1, iv f.2.2.2.1, .slice a42 f.2.2.2.2.length c42] 65, bs a42 f.2.2.2.2.length f.2.2.2.2, bs a n l] rfl ?_ fun w hw => ?_
        · refine Xp rfl (LD rfl ?_)
          refine Xp rfl (GP 59 rfl (fun hg16_6 => ?_) (fun hg16_6 => ?_))
          · refine Xp rfl (HD (true) ((decide_eq_true (by unfold badG; omega)).symm))
          · refine Xp rfl (LD rfl ?_)
            refine Xp rfl (GP 65 rfl (fun hg16_12 => ?_) (fun hg16_12 => ?_))
            · refine Xp rfl (HD (true) ((decide_eq_true (by unfold badG; omega)).symm))
            · refine Xp rfl (LD rfl ?_)
              refine Xp rfl (LD rfl ?_)
              refine Xp rfl (GP 72 rfl (fun hg16_19 => ?_) (fun hg16_19 => ?_))
              · refine Xp rfl (HD (true) ((decide_eq_true (by unfold badG; omega)).symm))
              · refine Xp rfl (LD rfl ?_)
                refine Xp rfl (LD rfl ?_)
                refine Xp rfl (GP 79 rfl (fun hg16_26 => ?_) (fun hg16_26 => ?_))
                · refine Xp rfl (HD (true) ((decide_eq_true (by unfold badG; omega)).symm))
                · refine Xp rfl (LD rfl ?_)
                  refine Xp rfl (GP 85 rfl (fun hg16_32 => ?_) (fun hg16_32 => ?_))
                  · refine Xp rfl (LD rfl ?_)
                    refine Xp rfl (GP 92 rfl (fun hg16_39 => ?_) (fun hg16_39 => ?_))
                    · refine Xp rfl (HD (true) ((decide_eq_true (by unfold badG; omega)).symm))
                    · refine Xp rfl (GP 95 rfl (fun hg16_42 => ?_) (fun hg16_42 => ?_))
                      · refine Xp rfl (LD rfl ?_)
                        refine Xp rfl (HD (decide ((f.2.2.2.2.length : Int) = 0)) (decide_eq_decide.2 (by unfold badG; omega)))
                      · refine Xp rfl (HD (false) ((decide_eq_false (by unfold badG; omega)).symm))
                  · refine Xp rfl (GP 95 rfl (fun hg16_42 => ?_) (fun hg16_42 => ?_))
                    · refine Xp rfl (LD rfl ?_)
                      refine Xp rfl (HD (decide ((f.2.2.2.2.length : Int) = 0)) (decide_eq_decide.2 (by unfold badG; omega)))
                    · refine Xp rfl (HD (false) ((decide_eq_false (by unfold badG; omega)).symm))
        · refine Xp rfl (CB rfl (fun h5 => ?_) (fun h5 => ?_))
          · have hb9 : badG lsn y.i z.q z.k f := of_decide_eq_true (by rw [← hw]; exact h5)
            refine Xp rfl (R4 rfl rfl rfl rfl rfl (⟨by rw [← hg, gathN_err (by rw [takeE_bad (by rw [← hee]; exact he0) (by rw [← hf, ← hzq, ← hzk]; exact hb9)]; decide), takeE_bad (by rw [← hee]; exact he0) (by rw [← hf, ← hzq, ← hzk]; exact hb9)]; rfl, rfl⟩))
          · have hnb : ¬ badG lsn y.i z.q z.k f := of_decide_eq_false (by rw [← hw]; exact h5)
            refine Xp rfl (LD rfl ?_)
            refine VL (fun w9 F9 S9 s => R.bytesStr rfl (s.bs (show Sel _ (bs a42 f.2.2.2.2.length f.2.2.2.2) _ from sE0)).cells (s.bs (show Sel _ (bs a42 f.2.2.2.2.length f.2.2.2.2) _ from sE0)).len) ?_
            refine VL (fun w9 F9 S9 s => R.addStr rfl rfl (by omega)) ?_
            refine Xp rfl (LD rfl ?_)
            refine Xp rfl (CD rfl (fun h6 => ?_) (fun h6 => ?_))
            · have hkf : f.2.2.2.1 = z.k := by by_cases e : f.2.2.2.1 = z.k; exact e; exact absurd (by unfold badG; omega) hnb
              have hcnt : f.2.2.2.1 = (y.i : Int) + 1 := by omega
              refine Xp rfl (DR [] [0, 1, 2, 3, 4, 5, 6, 7, 8] ?_)
              refine Xp rfl (WD rfl ?_)
              refine Xp rfl (R4 rfl rfl rfl rfl rfl (⟨by rw [← hg, gathN_last (takeE_ok (by rw [← hee]; exact he0) (by rw [← hf, ← hzq, ← hzk]; exact hnb)) (by rw [← hf, ← hzk]; omega), ← hf, hcnt]; rfl, rfl⟩))
            · have hkf : f.2.2.2.1 = z.k := by by_cases e : f.2.2.2.1 = z.k; exact e; exact absurd (by unfold badG; omega) hnb
              refine Xp rfl ?_
              exact HD (⟨y.i + 1, z.q, z.k, y.body ++ f.2.2.2.2, z.x0, z.x2, z.x4⟩) (⟨by show Nn - (y.i + 1) < Nn - y.i; omega, ⟨by show y.i + 1 ≤ Nn; omega, by show (y.body ++ f.2.2.2.2).length ≤ 40 * (y.i + 1); rw [List.length_append]; omega⟩, by show gathN lsn (sct l) (Nn - (y.i + 1)) (y.i + 1) z.q z.k _ = _; rw [show Nn - (y.i + 1) = m by omega, ← hg, gathN_next (by rw [takeE_ok (by rw [← hee]; exact he0) (by rw [← hf, ← hzq, ← hzk]; exact hnb)]) (by rw [← hf, ← hzk]; omega), ← hf, hzq, hzk]⟩)
  · have hdv : (((n : Nat) : Int) + 63) / 64 = (y.i : Int) := by omega
    refine Xp rfl (R4 rfl rfl rfl rfl rfl (⟨by rw [← hg, show Nn - y.i = 0 by omega]; show _ = Value.tuple #[.string (str []), iv 0, iv 20, iv (y.i : Int)]; rw [hdv]; rfl, rfl⟩))

end Go.Proofs.Ytcedgodfmohleaa
/-
  The document: right records.
-/
set_option linter.unusedVariables false
set_option linter.unusedSimpArgs false
set_option maxRecDepth 4000
namespace Go.Proofs.Ytcedgodfmohleaa
open Go Brv Brv.Pack Brv.Frame Brv.Rec
open Classical in
/-- Right so far? -/
noncomputable def okK (tl nu : Int) (ws : List (Int × List UInt8)) (k : Nat) : Bool := decide (okTN tl nu ∧ ∀ j, j < k → okAt ws j)
open Classical in
theorem okK_zero (tl nu : Int) (ws : List (Int × List UInt8)) : okK tl nu ws 0 = decide (okTN tl nu) := by unfold okK; rw [decide_eq_decide]; exact ⟨fun h => h.1, fun h => ⟨h, fun j hj => by omega⟩⟩
open Classical in
theorem okK_no {tl nu : Int} {ws : List (Int × List UInt8)} {k : Nat} (h : okK tl nu ws k = false) : okK tl nu ws (k + 1) = false := by
  unfold okK at h ⊢; rw [decide_eq_false_iff_not] at h ⊢; exact fun h2 => h ⟨h2.1, fun j hj => h2.2 j (by omega)⟩
open Classical in
theorem okK_bad {tl nu : Int} {ws : List (Int × List UInt8)} {k : Nat} (h : ¬ okAt ws k) : okK tl nu ws (k + 1) = false := by
  unfold okK; rw [decide_eq_false_iff_not]; exact fun h2 => h (h2.2 k (by omega))
open Classical in
theorem okK_yes {tl nu : Int} {ws : List (Int × List UInt8)} {k : Nat} (h : okK tl nu ws k = true) (h2 : okAt ws k) : okK tl nu ws (k + 1) = true := by
  unfold okK at h ⊢; rw [decide_eq_true_eq] at h ⊢; exact ⟨h.1, fun j hj => (Nat.lt_or_ge j k).elim (h.2 j) fun h9 => by obtain rfl : j = k := (by omega); exact h2⟩
open Classical in
theorem okK_all {tl nu : Int} {ws : List (Int × List UInt8)} : okK tl nu ws ws.length = true ↔ okTN tl nu ∧ okWs ws := by
  unfold okK; rw [decide_eq_true_eq]
  exact ⟨fun h => ⟨h.1, fun j => (Nat.lt_or_ge j ws.length).elim (h.2 j) fun h9 z hz => by have := (List.getElem?_eq_some_iff.1 hz).1; omega⟩, fun h => ⟨h.1, fun j _ => h.2 j⟩⟩
theorem dright7K (kd tl nu : Int) (a : Option Addr) (c : Nat) (xs : List WrX) (hs : xs.length ≤ 1000000) : SpecS Try.prog 49 [.agg #[iv kd, iv tl, iv nu, .slice a xs.length c]] [wsA a xs] (fun v H' => v = .bool (rightB kd tl nu (xs.map wrV)) ∧ H' = []) := by
  refine EN Try.func49 rfl rfl fun o => ?_
  obtain ⟨ws, hws⟩ : ∃ ws, ws = xs.map wrV := ⟨_, rfl⟩
  have hwl : ws.length = xs.length := by rw [hws, List.length_map]
  rw [← hws]
  refine Xp rfl (BX rfl fun b1 => ?_)
  refine Xp rfl (LD rfl ?_)
  refine Xp rfl (CD rfl (fun h0 => ?_) (fun h0 => ?_))
  · obtain rfl : kd = 2 := h0
    rw [right_2, hwl]
    refine Xp rfl (LD rfl ?_)
    refine Xp rfl (GP 12 rfl (fun hg2_3 => ?_) (fun hg2_3 => ?_))
    · refine Xp rfl (LD rfl ?_)
      refine Xp rfl (GP 17 rfl (fun hg2_8 => ?_) (fun hg2_8 => ?_))
      · refine Xp rfl (LD rfl ?_)
        refine Xp rfl (R1 rfl rfl (⟨by first | exact congrArg Value.bool (decide_eq_decide.2 (by omega)) | exact congrArg Value.bool (decide_eq_false (by omega)).symm, rfl⟩))
      · refine Xp rfl (R1 rfl rfl (⟨by first | exact congrArg Value.bool (decide_eq_decide.2 (by omega)) | exact congrArg Value.bool (decide_eq_false (by omega)).symm, rfl⟩))
    · refine Xp rfl (R1 rfl rfl (⟨by first | exact congrArg Value.bool (decide_eq_decide.2 (by omega)) | exact congrArg Value.bool (decide_eq_false (by omega)).symm, rfl⟩))
  · refine Xpf 3 rfl ?_
    refine JN (fun (w : Bool) r9 => (3, .bool w) :: r9) (fun w R9 => R9) (fun w => w = decide (okTN tl nu)) [1, 2] [blk b1 [iv kd, iv tl, iv nu, .slice a xs.length c] 43, wsA a xs] rfl ?_ fun w hw => ?_
    · refine Xp rfl (LD rfl ?_)
      refine Xp rfl (GP 26 rfl (fun hg3_3 => ?_) (fun hg3_3 => ?_))
      · refine Xp rfl (LD rfl ?_)
        refine Xp rfl (GP 31 rfl (fun hg3_8 => ?_) (fun hg3_8 => ?_))
        · refine Xp rfl (LD rfl ?_)
          refine Xp rfl (GP 36 rfl (fun hg3_13 => ?_) (fun hg3_13 => ?_))
          · refine Xp rfl (LD rfl ?_)
            refine Xp rfl (HD (decide (nu ≤ 1099511627776)) (decide_eq_decide.2 (by unfold okTN; omega)))
          · refine Xp rfl (HD (false) ((decide_eq_false (by unfold okTN; omega)).symm))
        · refine Xp rfl (HD (false) ((decide_eq_false (by unfold okTN; omega)).symm))
      · refine Xp rfl (HD (false) ((decide_eq_false (by unfold okTN; omega)).symm))
    · refine Xp rfl (LD rfl ?_)
      refine Xp rfl (CD rfl (fun h1 => ?_) (fun h1 => ?_))
      · obtain rfl : kd = 1 := h1
        rw [right_1, hwl]
        refine Xp rfl (GB 45 rfl (fun hg5_1 => ?_) (fun hg5_1 => ?_))
        · have htn : okTN tl nu := of_decide_eq_true (by rw [← hw]; exact hg5_1)
          refine Xp rfl (LD rfl ?_)
          refine Xp rfl (R1 rfl rfl (⟨by first | exact congrArg Value.bool (decide_eq_decide.2 ⟨fun h => ⟨htn, by omega⟩, fun h => by omega⟩) | exact congrArg Value.bool (decide_eq_false (fun h => htn h.1)).symm, rfl⟩))
        · have htn : ¬ okTN tl nu := of_decide_eq_false (by rw [← hw]; exact hg5_1)
          refine Xp rfl (R1 rfl rfl (⟨by first | exact congrArg Value.bool (decide_eq_decide.2 ⟨fun h => ⟨htn, by omega⟩, fun h => by omega⟩) | exact congrArg Value.bool (decide_eq_false (fun h => htn h.1)).symm, rfl⟩))
      · refine Xp rfl (LD rfl ?_)
        refine Xp rfl (LP (fun (x : Nat × Bool) r9 => (54, iv (x.1 : Int)) :: (3, .bool x.2) :: r9) (fun x R9 => R9) (fun x => x.1 ≤ xs.length ∧ x.2 = okK tl nu ws x.1) (fun x => xs.length - x.1) ((0, w)) [1, 2, 52, 53] rfl (⟨Nat.zero_le _, by rw [okK_zero]; exact hw⟩) fun x ⟨hk, hok⟩ => ?_)
        refine Xp rfl (CD rfl (fun h2 => ?_) (fun h2 => ?_))
        · refine Xpf 5 rfl ?_
          obtain ⟨x0, hx⟩ : ∃ x0, xs[x.1]? = some x0 := ⟨_, List.getElem?_eq_getElem (by omega)⟩
          refine FA (fun w9 F9 S9 s => (s.ws (show Sel _ (wsA a xs) _ from sE0)).2 x0 (List.mem_of_getElem? hx) |>.2.len) fun hf9 => ?_
          have hxo := hf9; clear hf9
          refine FA (fun w9 F9 S9 s => rowsC_at (s.ws (show Sel _ (wsA a xs) _ from sE0)).1 hx (Nat.zero_lt_succ 1)) fun hf9 => ?_
          obtain ⟨q, hq⟩ := hf9
          subst hq
          have hxv := wrV_at hx
          rw [← hws] at hxv
          refine Xp rfl (EL xs x.1 x0 rfl rfl (fun w9 F9 S9 s => (s.ws (show Sel _ (wsA (some q) xs) _ from sE0)).1) (fun p57 => ?_) hx (fun _ _ => rfl))
          refine AL fun b5 => ?_
          refine Xp rfl (SAw rfl rfl ?_ rfl (one_of rfl))
          refine Xpf 2 rfl ?_
          refine JN (fun (w2 : Bool) r9 => (3, .bool w2) :: r9) (fun w2 R9 => R9) (fun w2 => w2 = okK tl nu ws (x.1 + 1)) [1, 2, 52, 53, 54] [blk b1 [iv kd, iv tl, iv nu, .slice (some q) xs.length c] 43, wsA (some q) xs] rfl ?_ fun w2 hw2 => ?_
          · refine DR [] [0, 1, 2, 3, 4, 5, 6, 7, 8, 9, 10, 11, 12, 13, 14, 15, 16, 17, 18, 19, 20, 21, 22, 23, 24, 25, 26, 27, 28, 29, 30, 31, 32, 33] ?_
            refine Xp rfl (GB 60 rfl (fun hg9_1 => ?_) (fun hg9_1 => ?_))
            · have hok1 : okK tl nu ws x.1 = true := hok.symm.trans hg9_1
              refine Xp rfl (WD rfl ?_)
              refine Xp rfl (GP 65 rfl (fun hg9_6 => ?_) (fun hg9_6 => ?_))
              · refine Xp rfl (WD rfl ?_)
                refine Xp rfl (GP 70 rfl (fun hg9_11 => ?_) (fun hg9_11 => ?_))
                · refine Xp rfl (WD rfl ?_)
                  refine Xp rfl (GP 76 rfl (fun hg9_17 => ?_) (fun hg9_17 => ?_))
                  · have hx64 : x0.l.length = 64 := by omega
                    have hbk : 0 ≤ x0.b ∧ x0.b ≤ 63 := by omega
                    refine Xp rfl (GP 79 rfl (fun hg9_20 => ?_) (fun hg9_20 => ?_))
                    · have hnx : okK tl nu ws (x.1 + 1) = true := okK_yes hok1 (fun z hz => by rw [hxv] at hz; cases hz; exact ⟨hbk, hx64, fun y9 h0 _ => absurd h0 (by omega)⟩)
                      refine Xp rfl (HD (true) (hnx.symm))
                    · obtain ⟨i0, hi0⟩ : ∃ i0, i0 = x.1 - 1 := ⟨_, rfl⟩
                      obtain ⟨y, hy⟩ : ∃ y, xs[i0]? = some y := ⟨_, List.getElem?_eq_getElem (by omega)⟩
                      have hyv := wrV_at hy
                      rw [← hws, hi0] at hyv
                      have hnx : okK tl nu ws (x.1 + 1) = decide (y.b < x0.b) := by
                          by_cases hlt : y.b < x0.b
                          · rw [decide_eq_true hlt]; exact okK_yes hok1 (fun z hz => by rw [hxv] at hz; cases hz; exact ⟨hbk, hx64, fun y9 _ hy9 => by rw [hyv] at hy9; cases hy9; exact hlt⟩)
                          · rw [decide_eq_false hlt]; exact okK_bad (fun h => hlt ((h _ hxv).2.2 _ (by omega) hyv))
                      refine Xp rfl (WD rfl ?_)
                      refine Xp rfl (VP (fun w9 => R.idx rfl rfl (by omega) (by omega) q rfl) ?_)
                      refine VP (fun w9 => R.fldA rfl) ?_
                      refine VW (fun w9 F9 S9 s => R.ld rfl (v := iv y.b) (by rw [show ((x.1 : Int) - 1).toNat = i0 by omega]; exact (rowsC_ld (s := 2) (fun _ _ => rfl) (s.ws (show Sel _ (wsA (some q) xs) _ from sE0)).1 hy).load (j := 0) rfl)) ?_
                      refine Xp rfl (WD rfl ?_)
                      refine Xp rfl (HD (decide (y.b < x0.b)) (hnx.symm))
                  · have hnx : okK tl nu ws (x.1 + 1) = false := okK_bad (fun h => by have h9 := (h _ hxv).2.1; simp only [wrV] at h9; omega)
                    refine Xp rfl (HD (false) (hnx.symm))
                · have hnx : okK tl nu ws (x.1 + 1) = false := okK_bad (fun h => by have h9 := (h _ hxv).1; simp only [wrV] at h9; omega)
                  refine Xp rfl (HD (false) (hnx.symm))
              · have hnx : okK tl nu ws (x.1 + 1) = false := okK_bad (fun h => by have h9 := (h _ hxv).1; simp only [wrV] at h9; omega)
                refine Xp rfl (HD (false) (hnx.symm))
            · have hnx : okK tl nu ws (x.1 + 1) = false := okK_no (hok.symm.trans hg9_1)
              refine Xp rfl (HD (false) (hnx.symm))
          · refine Xp rfl (HD ((x.1 + 1, w2)) (⟨by show xs.length - (x.1 + 1) < xs.length - x.1; omega, by show x.1 + 1 ≤ _; omega, hw2⟩))
        · obtain ⟨k, w3⟩ := x
          obtain rfl : k = ws.length := by simp only at hk h2; omega
          dsimp only at hok
          refine Xp rfl (GB 94 rfl (fun hg11_1 => ?_) (fun hg11_1 => ?_))
          · obtain ⟨htn, hokw⟩ := okK_all.1 (hok.symm.trans hg11_1)
            refine Xp rfl (LD rfl ?_)
            refine Xp rfl (GP 99 rfl (fun hg11_6 => ?_) (fun hg11_6 => ?_))
            · obtain rfl : kd = 3 := hg11_6
              refine Xp rfl (LD rfl ?_)
              refine Xp rfl (R1 rfl rfl (⟨congrArg Value.bool (by rw [right_3, okWsB_yes hokw |>.symm, Bool.and_true]; exact decide_eq_decide.2 ⟨fun h => ⟨htn, h⟩, fun h => h.2⟩), rfl⟩))
            · refine Xp rfl (R1 rfl rfl (⟨congrArg Value.bool (right_x _ _ _ h1 h0 hg11_6).symm, rfl⟩))
          · have hnn : ¬ (okTN tl nu ∧ okWs ws) := fun h => by have := hok.symm.trans hg11_1; rw [okK_all.2 h] at this; cases this
            refine Xp rfl (R1 rfl rfl (⟨congrArg Value.bool (by symm; unfold rightB; rw [decide_eq_false_iff_not]; unfold okR; rintro (h | h | ⟨_, h3, _, h4⟩); omega; omega; exact hnn ⟨h3, h4⟩), rfl⟩))

end Go.Proofs.Ytcedgodfmohleaa
/-
  The document: a record.
-/
set_option linter.unusedVariables false
set_option linter.unusedSimpArgs false
set_option maxRecDepth 4000
namespace Go.Proofs.Ytcedgodfmohleaa
open Go Brv Brv.Pack Brv.Frame Brv.Rec
structure GeD where
  i : Nat
  a : Option Addr
  c : Nat
  xs : List WrX
  ll : List UInt8
  e : Int
structure GeE where
  a : Option Addr
  c : Nat
  xs : List WrX
  ll : List UInt8
  e : Int
theorem Imp.wrAddB {H H1 H2 : List Asn} {xs : List WrX} (x : WrX) (k : Sel H (bs x.a x.n x.l) H1) (h : Sel H1 (sh fun w => ∀ y ∈ xs, wrOk w y) H2) (hc : x.n ≤ x.c) : Imp H (sh (fun w => ∀ y ∈ xs ++ [x], wrOk w y) :: H2) :=
  (Imp.both (p := fun w => Bs w x.a x.n x.l) k h).trans (Imp.weak .here fun w ⟨h1, h2⟩ y hy => (List.mem_append.1 hy).elim (h2 y) fun hy => by rw [List.mem_singleton.1 hy]; exact ⟨hc, h1⟩)
theorem refP_nextK {n0 i : Nat} {A : List UInt8} {B : Int} {ws : List (Int × List UInt8)} {ll : List UInt8} (hP : refP n0 A B = (ws ++ (refP (n0 - i) ll 0).1, (refP (n0 - i) ll 0).2)) (hi : i < n0) (hl : ¬ (numF ll 0 2).2.1.length < 64) :
    refP n0 A B = ((ws ++ [(((numF ll 0 2).1 : Int), (numF ll 0 2).2.1.take 64)]) ++ (refP (n0 - (i + 1)) ((numF ll 0 2).2.1.drop 64) (numF ll 0 2).2.2).1, (refP (n0 - (i + 1)) ((numF ll 0 2).2.1.drop 64) (numF ll 0 2).2.2).2) := by
  rw [hP, show n0 - i = (n0 - (i + 1)) + 1 by omega]
  have hq : refP (n0 - (i + 1) + 1) ll 0 = ((((numF ll 0 2).1 : Int), (numF ll 0 2).2.1.take 64) :: (refP (n0 - (i + 1)) ((numF ll 0 2).2.1.drop 64) (numF ll 0 2).2.2).1, (refP (n0 - (i + 1)) ((numF ll 0 2).2.1.drop 64) (numF ll 0 2).2.2).2) := by
    simp only [refP]; rw [if_neg (by simp), if_neg hl]
  rw [hq, List.append_assoc]; rfl
theorem refG_n {l : List UInt8} {kd tl nu : Int} {xr : List UInt8} {er : Int} (hd : hdN l = ((kd, tl, nu), xr, er)) (h : kd ≠ 3) : refG l = endR (kd, tl, nu) [] xr er := by
  unfold refG; rw [hd, if_neg h]
theorem dget7K (a : Option Addr) (n c : Nat) (l : List UInt8) (hs : n ≤ 2621400) : SpecS Try.prog 26 [.slice a n c] [bs a n l] (fun v H' => ∃ y : RwX, (y.xs.length ≤ y.c ∧ y.xs.map wrV = (gR l).2.1) ∧ v = .tuple #[.agg #[iv (gR l).1.1, iv (gR l).1.2.1, iv (gR l).1.2.2, .slice y.a y.xs.length y.c], .bool (decide ((gR l).2.2 = 0))] ∧ H' = [wsA y.a y.xs]) := by
  refine EN Try.func26 rfl rfl fun o => ?_
  refine FB (show Sel _ (bs a n l) _ from sE0) fun hln => ?_
  refine Xp rfl (AL fun b2 => ?_)
  refine Xp rfl (VL (fun w9 F9 S9 s => R.bytesStr rfl (s.bs (show Sel _ (bs a n l) _ from sE0)).cells (s.bs (show Sel _ (bs a n l) _ from sE0)).len) ?_)
  refine BU (l := [.string (str l), iv 0]) rfl rfl ?_
  refine BX rfl fun b12 => ?_
  refine Xp rfl (DL0 rfl go45 (dscanNK 1 b12 _ _) (N1 ?_))
  obtain ⟨X1, hX1⟩ : ∃ z, z = numF l 0 1 := ⟨_, rfl⟩
  rw [show numF l 0 ((1 : Nat) : Int) = X1 from hX1.symm]
  have qX1 : X1.2.1.length ≤ l.length := by rw [hX1]; exact Nat.le_trans (numF_length _ _ _) (Nat.le_refl _)
  refine BU rfl rfl ?_
  refine AS rfl fun b5 => ?_
  refine Xp rfl (LD rfl ?_)
  refine Xpf 3 rfl ?_
  refine JN (fun (h : HdX) r9 => r9) (fun h R9 => blk b5 [iv h.kd, iv h.tl, iv h.nu, .slice none 0 0] 43 :: blk b12 [.string (str h.xr), iv h.er] 94 :: R9) (fun h => hdN l = ((h.kd, h.tl, h.nu), h.xr, h.er) ∧ h.xr.length ≤ l.length) [2, 3, 4, 5] [blk b2 [iv 0, iv 0, iv 0, .slice none 0 0] 43] rfl ?_ fun h ⟨hd, qx⟩ => ?_
  · refine CD rfl (fun h0 => ?_) (fun h0 => ?_)
    · refine Xp rfl (DL0 rfl go45 (dscanNK 4 b12 _ _) (N1 ?_))
      obtain ⟨X2, hX2⟩ : ∃ z, z = numF X1.2.1 X1.2.2 4 := ⟨_, rfl⟩
      rw [show numF X1.2.1 X1.2.2 ((4 : Nat) : Int) = X2 from hX2.symm]
      have qX2 : X2.2.1.length ≤ l.length := by rw [hX2]; exact Nat.le_trans (numF_length _ _ _) qX1
      refine Xp rfl (ST rfl rfl ?_)
      refine Xp rfl (DL0 rfl go45 (dscanNK 8 b12 _ _) (N1 ?_))
      obtain ⟨X3, hX3⟩ : ∃ z, z = numF X2.2.1 X2.2.2 8 := ⟨_, rfl⟩
      rw [show numF X2.2.1 X2.2.2 ((8 : Nat) : Int) = X3 from hX3.symm]
      have qX3 : X3.2.1.length ≤ l.length := by rw [hX3]; exact Nat.le_trans (numF_length _ _ _) qX2
      refine Xp rfl (ST rfl rfl ?_)
      refine Xp rfl (HD (⟨(X1.1 : Int), (X2.1 : Int), (X3.1 : Int), X3.2.1, X3.2.2⟩) (⟨by rw [hdN_ne (by rw [← hX1]; exact h0), ← hX1, ← hX2, ← hX3], qX3⟩))
    · refine Xp rfl (HD (⟨(X1.1 : Int), 0, 0, X1.2.1, X1.2.2⟩) (⟨by rw [hdN_eq (by rw [← hX1]; exact h0), ← hX1], qX1⟩))
  · refine Xp rfl (LD rfl ?_)
    refine Xpf 3 rfl ?_
    refine JN (fun (x : GeE) r9 => r9) (fun x R9 => blk b5 [iv h.kd, iv h.tl, iv h.nu, .slice x.a x.xs.length x.c] 43 :: wsA x.a x.xs :: blk b12 [.string (str x.ll), iv x.e] 94 :: R9) (fun x => refG l = endR (h.kd, h.tl, h.nu) (x.xs.map wrV) x.ll x.e ∧ x.xs.length ≤ x.c ∧ x.xs.length ≤ 65535) [2, 3, 4, 5] [blk b2 [iv 0, iv 0, iv 0, .slice none 0 0] 43] rfl ?_ fun x ⟨hg, hxc, hxn⟩ => ?_
    · refine CD rfl (fun h1 => ?_) (fun h1 => ?_)
      · refine Xp rfl (DL0 rfl go45 (dscanNK 2 b12 _ _) (N1 ?_))
        obtain ⟨X4, hX4⟩ : ∃ z, z = numF h.xr h.er 2 := ⟨_, rfl⟩
        rw [show numF h.xr h.er ((2 : Nat) : Int) = X4 from hX4.symm]
        have hN := num2_lt h.xr h.er
        rw [← hX4] at hN
        have q4 : X4.2.1.length ≤ h.xr.length := by rw [hX4]; exact numF_length _ _ _
        have hk3 : (hdN l).1.1 = 3 := by rw [hd]; exact h1
        have hn0 : X4.1 = (numF (hdN l).2.1 (hdN l).2.2 2).1 := by rw [hd]; exact congrArg Prod.fst hX4
        have hdd : hdN l = ((h.kd, h.tl, h.nu), h.xr, h.er) := hd
        refine Xpf 9 rfl ?_
        refine IM (Imp.ownNil 45 2) ?_
        refine IM (Imp.pure (p := fun w => ∀ y ∈ ([] : List WrX), wrOk w y) (fun w y hy => by cases hy)) ?_
        refine LP (fun (x : GeD) r9 => (7, iv (x.i : Int)) :: r9) (fun x R9 => own 45 2 x.a x.xs.length x.c (rowsC wrC x.xs) :: sh (fun w => ∀ y ∈ x.xs, wrOk w y) :: blk b12 [.string (str x.ll), iv x.e] 94 :: blk b5 [iv h.kd, iv h.tl, iv h.nu, .slice x.a x.xs.length x.c] 43 :: R9) (fun x => (x.i ≤ X4.1 ∧ x.xs.length = x.i) ∧ x.ll.length ≤ l.length ∧ refP X4.1 (numF (hdN l).2.1 (hdN l).2.2 2).2.1 (numF (hdN l).2.1 (hdN l).2.2 2).2.2 = (x.xs.map wrV ++ (refP (X4.1 - x.i) x.ll x.e).1, (refP (X4.1 - x.i) x.ll x.e).2)) (fun x => X4.1 - x.i) (⟨0, none, 0, [], X4.2.1, X4.2.2⟩) [2, 3, 4, 5, 6] rfl (⟨⟨Nat.zero_le _, rfl⟩, by show X4.2.1.length ≤ _; omega, by rw [hd]; show refP X4.1 (numF h.xr h.er 2).2.1 (numF h.xr h.er 2).2.2 = _; rw [← hX4]; rfl⟩) fun x ⟨⟨hi, hxi⟩, hll, hp⟩ => ?_
        refine Xp rfl (GP 33 rfl (fun hg9_3 => ?_) (fun hg9_3 => ?_))
        · refine Xp rfl (LD rfl ?_)
          refine Xp rfl (CD rfl (fun h2 => ?_) (fun h2 => ?_))
          · have he0 : x.e = 0 := h2
            rw [he0] at hp ⊢
            refine Xp rfl (DL0 rfl go45 (dscanNK 2 b12 _ _) (N1 ?_))
            obtain ⟨X, hX⟩ : ∃ z, z = numF x.ll 0 2 := ⟨_, rfl⟩
            rw [show numF x.ll 0 ((2 : Nat) : Int) = X from hX.symm]
            have qX : X.2.1.length ≤ x.ll.length := by rw [hX]; exact numF_length _ _ _
            refine Xp rfl (LD rfl ?_)
            refine VL (fun w9 F9 S9 s => R.lenStr rfl) ?_
            refine BE 48 rfl (congrArg (Value.int .i64) (congrArg Nat.cast (str_size X.2.1))) ?_
            refine Xp rfl (CD rfl (fun h3 => ?_) (fun h3 => ?_))
            · refine Xp rfl (ST rfl rfl ?_)
              refine Xp rfl ?_
              refine FO (show Sel _ (own 45 2 x.a x.xs.length x.c (rowsC wrC x.xs)) _ from sE0) fun hxo => ?_
              refine IM (Imp.wsIn (show Sel _ (own 45 2 x.a x.xs.length x.c (rowsC wrC x.xs)) _ from sE0) (show Sel _ (sh (fun w => ∀ y ∈ x.xs, wrOk w y)) _ from sE0)) ?_
              exact HD (⟨x.a, x.c, x.xs, X.2.1, 20⟩) (⟨by have hq := refG_short hk3 hn0 hp (by omega) (by rw [← hX]; omega); rw [hd, ← hX] at hq; exact hq, hxo.2, by show x.xs.length ≤ _; omega⟩)
            · refine Xp rfl (DR [8, 10, 11, 13] [0, 1, 2, 3, 4, 5, 6, 7, 8, 9, 10, 11, 12, 13] ?_)
              refine Xp rfl (WD rfl ?_)
              refine Xp rfl (WD rfl ?_)
              refine VP (fun w9 => R.slStrH rfl rfl (by decide) (by omega)) ?_
              refine SW' (CS.strBytes (l := X.2.1.take 64) rfl) ?_
              rintro _ _ ⟨a61, c61, rfl, h61, rfl⟩
              refine ⟨⟨OR, ⟨OB rfl, trivial⟩⟩, ?_⟩
              refine VP (fun w9 => R.buildN (l := [iv (X.1 : Int), .slice a61 (X.2.1.take 64).length c61]) rfl rfl) ?_
              refine SW' (CS.bsa (cs := [iv (X.1 : Int), .slice a61 (X.2.1.take 64).length c61]) rfl rfl) ?_
              rintro _ _ ⟨b63, rfl, rfl⟩
              refine ⟨⟨OR, ⟨OB rfl, trivial⟩⟩, ?_⟩
              refine SW' (CS.app rfl rfl (show Sel _ (own 45 2 x.a x.xs.length x.c (rowsC wrC x.xs)) _ from sE0) (fun w9 F9 S9 s => s.blkC (show Sel _ (blk b63 _ _) _ from sE0)) rfl (one_of rfl) (by unfold maxLen; omega) (by omega)) ?_
              rintro _ _ ⟨a64, c64, rfl, rfl⟩
              refine ⟨⟨OR, ⟨OR, trivial⟩⟩, ?_⟩
              refine Xp rfl (SW' (CS.st rfl rfl sE0 sE3 rfl) ?_)
              rintro _ _ rfl
              refine ⟨⟨OR, ⟨OR, trivial⟩⟩, ?_⟩
              refine Xp rfl ?_
              refine IM (Imp.wrAddB (⟨(X.1 : Int), a61, (X.2.1.take 64).length, c61, X.2.1.take 64⟩ : WrX) (show Sel _ (bs a61 _ _) _ from sE0) (show Sel _ (sh (fun w => ∀ y ∈ x.xs, wrOk w y)) _ from sE0) h61) ?_
              rw [show rowsC wrC x.xs ++ [iv (X.1 : Int), .slice a61 (X.2.1.take 64).length c61] = rowsC wrC (x.xs ++ [(⟨(X.1 : Int), a61, (X.2.1.take 64).length, c61, X.2.1.take 64⟩ : WrX)]) by rw [rowsC_app, rowsC_one]; rfl, show x.xs.length + 1 = (x.xs ++ [(⟨(X.1 : Int), a61, (X.2.1.take 64).length, c61, X.2.1.take 64⟩ : WrX)]).length by rw [List.length_append]; rfl]
              refine Xp rfl (LD rfl ?_)
              refine VL (fun w9 F9 S9 s => R.slStrL rfl rfl (by decide) (by omega)) ?_
              refine Xp rfl (ST rfl rfl ?_)
              refine Xp rfl ?_
              exact HD (⟨x.i + 1, a64, c64, x.xs ++ [(⟨(X.1 : Int), a61, (X.2.1.take 64).length, c61, X.2.1.take 64⟩ : WrX)], X.2.1.drop 64, X.2.2⟩) (⟨by show X4.1 - (x.i + 1) < X4.1 - x.i; omega, ⟨by show x.i + 1 ≤ _; omega, by show (x.xs ++ [_]).length = x.i + 1; rw [List.length_append, hxi]; rfl⟩, by show (X.2.1.drop 64).length ≤ _; rw [List.length_drop]; omega, by dsimp only; rw [List.map_append, hX]; exact refP_nextK hp (by omega) (by rw [← hX]; omega)⟩)
          · refine Xp rfl ?_
            refine FO (show Sel _ (own 45 2 x.a x.xs.length x.c (rowsC wrC x.xs)) _ from sE0) fun hxo => ?_
            refine IM (Imp.wsIn (show Sel _ (own 45 2 x.a x.xs.length x.c (rowsC wrC x.xs)) _ from sE0) (show Sel _ (sh (fun w => ∀ y ∈ x.xs, wrOk w y)) _ from sE0)) ?_
            exact HD (⟨x.a, x.c, x.xs, x.ll, x.e⟩) (⟨by have hq := refG_end hk3 hn0 hp (.inr h2); rw [hd] at hq; exact hq, hxo.2, by show x.xs.length ≤ _; omega⟩)
        · refine Xp rfl ?_
          refine FO (show Sel _ (own 45 2 x.a x.xs.length x.c (rowsC wrC x.xs)) _ from sE0) fun hxo => ?_
          refine IM (Imp.wsIn (show Sel _ (own 45 2 x.a x.xs.length x.c (rowsC wrC x.xs)) _ from sE0) (show Sel _ (sh (fun w => ∀ y ∈ x.xs, wrOk w y)) _ from sE0)) ?_
          exact HD (⟨x.a, x.c, x.xs, x.ll, x.e⟩) (⟨by have hq := refG_end hk3 hn0 hp (.inl (by omega)); rw [hd] at hq; exact hq, hxo.2, by show x.xs.length ≤ _; omega⟩)
      · refine Xp rfl ?_
        refine IM (Imp.wsNil) ?_
        exact HD (⟨none, 0, [], h.xr, h.er⟩) (⟨refG_n hd h1, Nat.le_refl _, Nat.zero_le _⟩)
    · rw [refG_eq] at hg
      refine Xp rfl (LD rfl ?_)
      refine Xp rfl (GP 79 rfl (fun hg16_5 => ?_) (fun hg16_5 => ?_))
      · have hgn : getR l = none := by rw [hg]; exact endR_no (fun hn => hg16_5 hn.1)
        refine Xp rfl (BU rfl rfl ?_)
        refine SA rfl rfl ?_
        refine Xpf 3 rfl ?_
        rw [gR_none hgn]
        refine IM (Imp.wsNil) ?_
        exact R2c rfl rfl rfl (⟨⟨none, 0, []⟩, ⟨Nat.le_refl _, rfl⟩, rfl, rfl⟩)
      · refine Xp rfl (LD rfl ?_)
        refine VL (fun w9 F9 S9 s => R.neStr (b := []) rfl rfl) ?_
        refine Xp rfl (GP 86 rfl (fun hg16_12 => ?_) (fun hg16_12 => ?_))
        · have hgn : getR l = none := by rw [hg]; exact endR_no (fun hn => hg16_12 (List.eq_nil_of_length_eq_zero hn.2.1))
          refine Xp rfl (BU rfl rfl ?_)
          refine SA rfl rfl ?_
          refine Xpf 3 rfl ?_
          rw [gR_none hgn]
          refine IM (Imp.wsNil) ?_
          exact R2c rfl rfl rfl (⟨⟨none, 0, []⟩, ⟨Nat.le_refl _, rfl⟩, rfl, rfl⟩)
        · refine LA rfl ?_
          refine DL0 rfl go49 (dright7K _ _ _ _ _ _) (N0 ?_)
          refine Xp rfl (CB rfl (fun h4 => ?_) (fun h4 => ?_))
          · have hgn : getR l = none := by rw [hg]; exact endR_no (fun hn => by rw [rightB_iff.2 hn.2.2] at h4; cases h4)
            refine Xp rfl (BU rfl rfl ?_)
            refine SA rfl rfl ?_
            refine Xpf 3 rfl ?_
            rw [gR_none hgn]
            refine IM (Imp.wsNil) ?_
            exact R2c rfl rfl rfl (⟨⟨none, 0, []⟩, ⟨Nat.le_refl _, rfl⟩, rfl, rfl⟩)
          · have hgs : getR l = some ((h.kd, h.tl, h.nu), x.xs.map wrV) := by rw [hg]; exact endR_yes ⟨by omega, by rw [Classical.not_not.1 hg16_12]; rfl, rightB_iff.1 (by simpa using h4)⟩
            refine Xp rfl (LA rfl ?_)
            refine SA rfl rfl ?_
            refine Xpf 3 rfl ?_
            rw [gR_some hgs]
            exact R2c rfl rfl rfl (⟨⟨x.a, x.c, x.xs⟩, ⟨hxc, rfl⟩, rfl, rfl⟩)

end Go.Proofs.Ytcedgodfmohleaa
/-
  The document: Walk.
-/
set_option linter.unusedVariables false
set_option linter.unusedSimpArgs false
set_option maxRecDepth 4000
namespace Go.Proofs.Ytcedgodfmohleaa
open Go Brv Brv.Pack Brv.Frame Brv.Rec
structure RwS where
  at' : Nat
  f : Nat
  least : Int
  a : Option Addr
  c : Nat
  ys : List EnX
theorem walk_if {l : List UInt8} {M : Nat} {hi : Int} {sg f P : Nat} {least : Int} (hP : P / M = sg) : walkP l M hi sg (f + 1) P least = if (standsV l M P).2 = true ∧ least ≤ (standsV l M P).1.epoch ∧ (standsV l M P).1.epoch ≤ hi then (standsV l M P).1 :: (if (standsV l M P).1.h.1 = 2 then [] else walkP l M hi sg f (P + (standsV l M P).1.n.toNat) (standsV l M P).1.epoch) else [] := by
  rw [walkP]; simp only [hP, true_and]
theorem walk_bad {l : List UInt8} {M : Nat} {hi : Int} {sg f P : Nat} {least : Int} (h : (standsV l M P).2 = true → ¬ (least ≤ (standsV l M P).1.epoch ∧ (standsV l M P).1.epoch ≤ hi)) : walkP l M hi sg f P least = [] := by
  cases f with
  | zero => rfl
  | succ f => rw [walkP, if_neg (fun h2 => h h2.2.1 h2.2.2)]
theorem walk_out {l : List UInt8} {M : Nat} {hi : Int} {sg f P : Nat} {least : Int} (h : P / M ≠ sg) : walkP l M hi sg f P least = [] := by
  cases f with
  | zero => rfl
  | succ f => rw [walkP, if_neg (fun h2 => h h2.1)]
theorem stands_iff {l : List UInt8} {M P : Nat} : (standsV l M P).2 = true ↔ goodS l M P := by
  unfold standsV; split
  · rename_i h; exact ⟨fun _ => h, fun _ => rfl⟩
  · rename_i h; exact ⟨fun h2 => (by cases h2), fun h2 => absurd h2 h⟩
theorem dwalkK (a : Option Addr) (n c : Nat) (l : List UInt8) (lsn lo hi : Int) (hs : n ≤ c ∧ n ≤ 4194240) : SpecS Try.prog 6 [.slice a n c, iv lsn, .agg #[iv lo, iv hi]] [bs a n l] (fun v H' => ∃ y : EnS, (y.ys.length ≤ y.c ∧ y.ys.map entV = (walkE l lsn lo hi)) ∧ v = .slice y.a y.ys.length y.c ∧ H' = [ensA y.a y.ys]) := by
  refine EN Try.func6 rfl rfl fun o => ?_
  refine FB (show Sel _ (bs a n l) _ from sE0) fun hln => ?_
  obtain ⟨es, hes⟩ : ∃ es, es = (walkE l lsn lo hi) := ⟨_, rfl⟩
  rw [← hes]
  refine Xp rfl (BX rfl fun b5 => ?_)
  refine Xp rfl (GP 23 rfl (fun hg1_3 => ?_) (fun hg1_3 => ?_))
  · have he0 : es = [] := by rw [hes]; unfold walkE; rw [if_neg (by omega)]
    refine Xpf 17 rfl ?_
    refine IM (Imp.ensNil) ?_
    refine Xp rfl (R1 rfl rfl (⟨⟨none, 0, []⟩, ⟨Nat.le_refl _, he0.symm⟩, rfl, rfl⟩))
  · refine Xp rfl (GP 29 rfl (fun hg1_9 => ?_) (fun hg1_9 => ?_))
    · have he0 : es = [] := by rw [hes]; unfold walkE; rw [if_neg (by omega)]
      refine Xpf 11 rfl ?_
      refine IM (Imp.ensNil) ?_
      refine Xp rfl (R1 rfl rfl (⟨⟨none, 0, []⟩, ⟨Nat.le_refl _, he0.symm⟩, rfl, rfl⟩))
    · refine Xp rfl (GP 33 rfl (fun hg1_13 => ?_) (fun hg1_13 => ?_))
      · have he0 : es = [] := by rw [hes]; unfold walkE; rw [if_neg (by omega)]
        refine Xpf 7 rfl ?_
        refine IM (Imp.ensNil) ?_
        refine Xp rfl (R1 rfl rfl (⟨⟨none, 0, []⟩, ⟨Nat.le_refl _, he0.symm⟩, rfl, rfl⟩))
      · refine Xp rfl (CD rfl (fun h0 => ?_) (fun h0 => ?_))
        · have he0 : es = [] := by rw [hes]; unfold walkE; rw [if_neg (by omega)]
          refine Xpf 1 rfl ?_
          refine IM (Imp.ensNil) ?_
          refine Xp rfl (R1 rfl rfl (⟨⟨none, 0, []⟩, ⟨Nat.le_refl _, he0.symm⟩, rfl, rfl⟩))
        · obtain ⟨ln, rfl⟩ := Int.eq_ofNat_of_zero_le (show 0 ≤ lsn by omega)
          obtain ⟨M, hM⟩ : ∃ M, M = n / 64 := ⟨_, rfl⟩
          have hnM : n = 64 * M := by omega
          have hdm := Nat.div_add_mod ln M
          have hml := Nat.mod_lt ln (show M > 0 by omega)
          obtain ⟨sg, hsg⟩ : ∃ sg, sg = ln / M := ⟨_, rfl⟩
          have hmI : (ln : Int) % (M : Int) = ((ln % M : Nat) : Int) := (Int.natCast_emod ln M).symm
          have hew : es = walkP l M hi sg M ln lo := by rw [hes]; unfold walkE; rw [if_pos (by omega), ← hln, ← hM, Int.toNat_natCast, hsg]
          rw [← hsg] at hdm
          have hdc := Nat.mul_comm M sg
          refine Xpf 7 rfl ?_
          refine BE 39 rfl (show _ = iv (M : Int) from congrArg (Value.int .i64) (by omega)) ?_
          refine Xp rfl (VL (fun w9 F9 S9 s => R.idxA rfl rfl (by decide) (by decide) _ rfl) ?_)
          refine LD rfl ?_
          refine Xpf 9 rfl ?_
          refine BE 44 rfl (show _ = iv ((ln % M : Nat) : Int) from congrArg (Value.int .i64) hmI) ?_
          refine Xpf 4 rfl ?_
          refine IM (Imp.ownNil 62 7) ?_
          refine IM (Imp.pure (p := fun w => ∀ q ∈ ([] : List EnX), entOk w q) (fun w y hy => by cases hy)) ?_
          refine LP (fun (x : RwS) r9 => (10, iv (x.at' : Int)) :: (9, iv x.least) :: (8, .slice x.a x.ys.length x.c) :: r9) (fun x R9 => own 62 7 x.a x.ys.length x.c (rowsC entC x.ys) :: sh (fun w => ∀ q ∈ x.ys, entOk w q) :: R9) (fun x => es = x.ys.map entV ++ walkP l M hi sg x.f (M * sg + x.at') x.least ∧ x.ys.length ≤ x.at' ∧ x.at' ≤ M ∧ M ≤ x.at' + x.f) (fun x => M + 1 - x.at') (⟨ln % M, M, lo, none, 0, []⟩) [0, 1, 5, 7] rfl (⟨by show es = [] ++ walkP l M hi sg M (M * sg + ln % M) lo; rw [hdm]; exact hew, Nat.zero_le _, by show ln % M ≤ M; omega, by show M ≤ ln % M + M; omega⟩) fun x ⟨hd, hyl, ham, hf⟩ => ?_
          refine Xp rfl (CD rfl (fun h1 => ?_) (fun h1 => ?_))
          · obtain ⟨P, hP⟩ : ∃ P, P = M * sg + x.at' := ⟨_, rfl⟩
            have hPm : P % M = x.at' := by rw [hP, Nat.mul_add_mod, Nat.mod_eq_of_lt (by omega)]
            have hPd : P / M = sg := by rw [hP, Nat.mul_add_div (by omega), Nat.div_eq_of_lt (by omega)]; rfl
            rw [← hP] at hd
            have hgs : goodS l M P = goodS l M P := rfl
            conv at hgs => rhs; unfold goodS
            rw [hPm] at hgs
            obtain ⟨f, hff⟩ : ∃ f, x.f = f + 1 := ⟨x.f - 1, by omega⟩
            refine Xpf 13 rfl ?_
            refine BE 11 rfl (show _ = iv (P : Int) from congrArg (Value.int .i64) (by omega)) ?_
            refine Xp rfl (SB (64 * x.at') (64) rfl rfl rfl fun a62 => ?_)
            rw [show (l.drop (64 * x.at')).take 64 = sct l x.at' from rfl]
            refine DF2 rfl go24 (dfgetK _ _ _ (sct l x.at')) fun a63 c63 h63 => N1 ?_
            obtain ⟨F, hF⟩ : ∃ F, F = getF (sct l x.at') := ⟨_, rfl⟩
            rw [← hF] at h63 ⊢
            rw [← hF] at hgs
            refine Xp rfl (AS rfl fun b12 => ?_)
            refine Xp rfl (SBl (64 * x.at') rfl rfl fun a71 => ?_)
            refine DL0 rfl go25 (dgatherK (P : Int) a71 (n - 64 * x.at') (c - 64 * x.at') (l.drop (64 * x.at')) (M - x.at')) (N0 ?_)
            obtain ⟨G, hG⟩ : ∃ G, G = gathP l M P x.at' := ⟨_, rfl⟩
            rw [show gathN (P : Int) (sct (l.drop (64 * x.at'))) (M - x.at') 0 0 0 [] = G from hG.symm]
            rw [← hG] at hgs
            have hGn : (G.2.2.2 = 0 → ∃ j : Nat, G.2.2.1 = j ∧ 0 < j ∧ j ≤ 0 + (M - x.at')) ∧ G.2.1.length ≤ 0 + 40 * (M - x.at') := by rw [hG]; exact gathN_n
            have hGl := hGn.2
            refine Xp rfl (GP 79 rfl (fun hg11_2 => ?_) (fun hg11_2 => ?_))
            · have hfin : es = x.ys.map entV := by rw [hd, walk_bad (fun hst => absurd (stands_iff.1 hst) (fun h => by rw [hgs] at h; exact hg11_2 h.1)), List.append_nil]
              refine Xpf 20 rfl ?_
              refine FO (show Sel _ (own 62 7 x.a x.ys.length x.c (rowsC entC x.ys)) _ from sE0) fun hyo => ?_
              refine IM (Imp.ensIn (show Sel _ (own 62 7 x.a x.ys.length x.c (rowsC entC x.ys)) _ from sE0) (show Sel _ (sh (fun w => ∀ q ∈ x.ys, entOk w q)) _ from sE0)) ?_
              refine Xp rfl (R1 rfl rfl (⟨⟨x.a, x.c, x.ys⟩, ⟨hyo.2, hfin.symm⟩, rfl, rfl⟩))
            · refine Xp rfl (GP 83 rfl (fun hg11_6 => ?_) (fun hg11_6 => ?_))
              · have hfin : es = x.ys.map entV := by rw [hd, walk_bad (fun hst => absurd (stands_iff.1 hst) (fun h => by rw [hgs] at h; exact hg11_6 h.2.1)), List.append_nil]
                refine Xpf 16 rfl ?_
                refine FO (show Sel _ (own 62 7 x.a x.ys.length x.c (rowsC entC x.ys)) _ from sE0) fun hyo => ?_
                refine IM (Imp.ensIn (show Sel _ (own 62 7 x.a x.ys.length x.c (rowsC entC x.ys)) _ from sE0) (show Sel _ (sh (fun w => ∀ q ∈ x.ys, entOk w q)) _ from sE0)) ?_
                refine Xp rfl (R1 rfl rfl (⟨⟨x.a, x.c, x.ys⟩, ⟨hyo.2, hfin.symm⟩, rfl, rfl⟩))
              · obtain ⟨j, hj, hj1, hj2⟩ := hGn.1 (by omega)
                have hep : (standsV l M P).2 = true → (standsV l M P).1.epoch = F.1.2.1 := fun h => by rw [standsV_yes (stands_iff.1 h)]; unfold entS; rw [hPm, ← hF]
                refine Xp rfl (LD rfl ?_)
                refine Xp rfl (GP 89 rfl (fun hg11_12 => ?_) (fun hg11_12 => ?_))
                · have hfin : es = x.ys.map entV := by rw [hd, walk_bad (fun hst => fun h2 => by rw [hep hst] at h2; omega), List.append_nil]
                  refine Xpf 10 rfl ?_
                  refine FO (show Sel _ (own 62 7 x.a x.ys.length x.c (rowsC entC x.ys)) _ from sE0) fun hyo => ?_
                  refine IM (Imp.ensIn (show Sel _ (own 62 7 x.a x.ys.length x.c (rowsC entC x.ys)) _ from sE0) (show Sel _ (sh (fun w => ∀ q ∈ x.ys, entOk w q)) _ from sE0)) ?_
                  refine Xp rfl (R1 rfl rfl (⟨⟨x.a, x.c, x.ys⟩, ⟨hyo.2, hfin.symm⟩, rfl, rfl⟩))
                · refine Xp rfl (LD rfl ?_)
                  refine VL (fun w9 F9 S9 s => R.idxA rfl rfl (by decide) (by decide) _ rfl) ?_
                  refine LD rfl ?_
                  refine Xp rfl (CD rfl (fun h2 => ?_) (fun h2 => ?_))
                  · have hfin : es = x.ys.map entV := by rw [hd, walk_bad (fun hst => fun h2 => by rw [hep hst] at h2; omega), List.append_nil]
                    refine Xpf 1 rfl ?_
                    refine FO (show Sel _ (own 62 7 x.a x.ys.length x.c (rowsC entC x.ys)) _ from sE0) fun hyo => ?_
                    refine IM (Imp.ensIn (show Sel _ (own 62 7 x.a x.ys.length x.c (rowsC entC x.ys)) _ from sE0) (show Sel _ (sh (fun w => ∀ q ∈ x.ys, entOk w q)) _ from sE0)) ?_
                    refine Xp rfl (R1 rfl rfl (⟨⟨x.a, x.c, x.ys⟩, ⟨hyo.2, hfin.symm⟩, rfl, rfl⟩))
                  · refine Xp rfl (SBy rfl fun a99 c99 h99 => ?_)
                    refine DF1 rfl go26 (dget7K _ _ _ G.2.1) fun y100 h100 => N1 ?_
                    obtain ⟨R, hR⟩ : ∃ R, R = gR G.2.1 := ⟨_, rfl⟩
                    rw [← hR] at h100 ⊢
                    rw [← hR] at hgs
                    refine Xp rfl (AS rfl fun b18 => ?_)
                    refine Xp rfl (GB 105 rfl (fun hg14_2 => ?_) (fun hg14_2 => ?_))
                    · have hfin : es = x.ys.map entV := by rw [hd, walk_bad (fun hst => absurd (stands_iff.1 hst) (fun h => by rw [hgs] at h; exact (by rw [decide_eq_true h.2.2.1] at hg14_2; cases hg14_2))), List.append_nil]
                      refine Xpf 24 rfl ?_
                      refine FO (show Sel _ (own 62 7 x.a x.ys.length x.c (rowsC entC x.ys)) _ from sE0) fun hyo => ?_
                      refine IM (Imp.ensIn (show Sel _ (own 62 7 x.a x.ys.length x.c (rowsC entC x.ys)) _ from sE0) (show Sel _ (sh (fun w => ∀ q ∈ x.ys, entOk w q)) _ from sE0)) ?_
                      refine Xp rfl (R1 rfl rfl (⟨⟨x.a, x.c, x.ys⟩, ⟨hyo.2, hfin.symm⟩, rfl, rfl⟩))
                    · have hRe : R.2.2 = 0 := by simpa using hg14_2
                      refine Xp rfl (LD rfl ?_)
                      refine Xp rfl (GB 113 rfl (fun hg14_10 => ?_) (fun hg14_10 => ?_))
                      · have hfin : es = x.ys.map entV := by rw [hd, walk_bad (fun hst => absurd (stands_iff.1 hst) (fun h => by rw [hgs] at h; exact (by have h4 := h.2.2.2.1; simp [h4] at hg14_10))), List.append_nil]
                        refine Xpf 16 rfl ?_
                        refine FO (show Sel _ (own 62 7 x.a x.ys.length x.c (rowsC entC x.ys)) _ from sE0) fun hyo => ?_
                        refine IM (Imp.ensIn (show Sel _ (own 62 7 x.a x.ys.length x.c (rowsC entC x.ys)) _ from sE0) (show Sel _ (sh (fun w => ∀ q ∈ x.ys, entOk w q)) _ from sE0)) ?_
                        refine Xp rfl (R1 rfl rfl (⟨⟨x.a, x.c, x.ys⟩, ⟨hyo.2, hfin.symm⟩, rfl, rfl⟩))
                      · have hki : R.1.1 = 1 ↔ x.at' = 0 := by have h4 := hg14_10; simp at h4; exact h4
                        refine Xp rfl (LD rfl ?_)
                        refine Xp rfl (GP 117 rfl (fun hg14_14 => ?_) (fun hg14_14 => ?_))
                        · refine Xp rfl (CD rfl (fun h3 => ?_) (fun h3 => ?_))
                          · have hfin : es = x.ys.map entV := by rw [hd, walk_bad (fun hst => absurd (stands_iff.1 hst) (fun h => by rw [hgs] at h; exact (by have := h.2.2.2.2 hg14_14; omega))), List.append_nil]
                            refine Xpf 1 rfl ?_
                            refine FO (show Sel _ (own 62 7 x.a x.ys.length x.c (rowsC entC x.ys)) _ from sE0) fun hyo => ?_
                            refine IM (Imp.ensIn (show Sel _ (own 62 7 x.a x.ys.length x.c (rowsC entC x.ys)) _ from sE0) (show Sel _ (sh (fun w => ∀ q ∈ x.ys, entOk w q)) _ from sE0)) ?_
                            refine Xp rfl (R1 rfl rfl (⟨⟨x.a, x.c, x.ys⟩, ⟨hyo.2, hfin.symm⟩, rfl, rfl⟩))
                          · refine Xpf 3 rfl ?_
                            have hgd : goodS l M P := by rw [hgs]; exact ⟨by omega, by omega, hRe, hki, fun h => by omega⟩
                            have hV := standsV_yes hgd
                            have hen : entS l M P = ⟨P, F.1.2.1, G.2.2.1, R.1, R.2.1⟩ := by unfold entS; rw [hPm, ← hF, ← hG, ← hR]
                            have hd2 := hd
                            rw [hff, walk_if hPd, hV, hen, if_pos ⟨rfl, by show x.least ≤ F.1.2.1; omega, by show F.1.2.1 ≤ hi; omega⟩] at hd2
                            dsimp only at hd2
                            rw [show G.2.2.1.toNat = j by omega] at hd2
                            have hX : entV (⟨(P : Int), F.1.2.1, G.2.2.1, R.1.1, R.1.2.1, R.1.2.2, y100.a, y100.c, y100.xs⟩ : EnX) = (⟨P, F.1.2.1, G.2.2.1, R.1, R.2.1⟩ : EntR) := by show EntR.mk _ _ _ _ _ = _; rw [h100.2]
                            replace hd2 : es = x.ys.map entV ++ (entV (⟨(P : Int), F.1.2.1, G.2.2.1, R.1.1, R.1.2.1, R.1.2.2, y100.a, y100.c, y100.xs⟩ : EnX) :: if R.1.1 = 2 then [] else walkP l M hi sg f (P + j) F.1.2.1) := by rw [hX]; exact hd2
                            refine Xp rfl (LD rfl ?_)
                            refine Xp rfl (LA rfl ?_)
                            refine BU (l := [iv (P : Int), iv F.1.2.1, iv G.2.2.1, iv R.1.1, iv R.1.2.1, iv R.1.2.2, .slice y100.a y100.xs.length y100.c]) rfl rfl ?_
                            refine BSA rfl fun b134 => ?_
                            refine AP rfl rfl (fun w9 F9 S9 s => s.blkC (show Sel _ (blk b134 _ _) _ from sE0)) fun a135 c135 => ?_
                            refine Xpf 1 rfl ?_
                            refine IM (Imp.enAdd (⟨(P : Int), F.1.2.1, G.2.2.1, R.1.1, R.1.2.1, R.1.2.2, y100.a, y100.c, y100.xs⟩ : EnX) (show Sel _ (wsA y100.a y100.xs) _ from sE0) (show Sel _ (sh (fun w => ∀ q ∈ x.ys, entOk w q)) _ from sE0) h100.1) ?_
                            rw [show rowsC entC x.ys ++ [iv (P : Int), iv F.1.2.1, iv G.2.2.1, iv R.1.1, iv R.1.2.1, iv R.1.2.2, .slice y100.a y100.xs.length y100.c] = rowsC entC (x.ys ++ [(⟨(P : Int), F.1.2.1, G.2.2.1, R.1.1, R.1.2.1, R.1.2.2, y100.a, y100.c, y100.xs⟩ : EnX)]) by rw [rowsC_app, rowsC_one]; rfl, show x.ys.length + 1 = (x.ys ++ [(⟨(P : Int), F.1.2.1, G.2.2.1, R.1.1, R.1.2.1, R.1.2.2, y100.a, y100.c, y100.xs⟩ : EnX)]).length by rw [List.length_append]; rfl]
                            refine Xp rfl (LD rfl ?_)
                            refine Xp rfl (CD rfl (fun h4 => ?_) (fun h4 => ?_))
                            · refine Xpf 1 rfl ?_
                              rw [if_pos h4] at hd2
                              refine FO (show Sel _ (own 62 7 a135 (x.ys ++ [(⟨(P : Int), F.1.2.1, G.2.2.1, R.1.1, R.1.2.1, R.1.2.2, y100.a, y100.c, y100.xs⟩ : EnX)]).length c135 (rowsC entC (x.ys ++ [(⟨(P : Int), F.1.2.1, G.2.2.1, R.1.1, R.1.2.1, R.1.2.2, y100.a, y100.c, y100.xs⟩ : EnX)]))) _ from sE0) fun hyo => ?_
                              refine IM (Imp.ensIn (show Sel _ (own 62 7 a135 (x.ys ++ [(⟨(P : Int), F.1.2.1, G.2.2.1, R.1.1, R.1.2.1, R.1.2.2, y100.a, y100.c, y100.xs⟩ : EnX)]).length c135 (rowsC entC (x.ys ++ [(⟨(P : Int), F.1.2.1, G.2.2.1, R.1.1, R.1.2.1, R.1.2.2, y100.a, y100.c, y100.xs⟩ : EnX)]))) _ from sE0) (show Sel _ (sh (fun w => ∀ q ∈ x.ys ++ [(⟨(P : Int), F.1.2.1, G.2.2.1, R.1.1, R.1.2.1, R.1.2.2, y100.a, y100.c, y100.xs⟩ : EnX)], entOk w q)) _ from sE0)) ?_
                              refine Xp rfl (R1 rfl rfl (⟨⟨a135, c135, x.ys ++ [(⟨(P : Int), F.1.2.1, G.2.2.1, R.1.1, R.1.2.1, R.1.2.2, y100.a, y100.c, y100.xs⟩ : EnX)]⟩, ⟨hyo.2, by dsimp only; rw [hd2, List.map_append]; rfl⟩, rfl, rfl⟩))
                            · refine Xpf 8 rfl ?_
                              refine BE 10 rfl (show _ = iv ((x.at' + j : Nat) : Int) from congrArg (Value.int .i64) (by omega)) ?_
                              refine Xp rfl (LD rfl ?_)
                              refine Xp rfl ?_
                              exact HD (⟨x.at' + j, f, F.1.2.1, a135, c135, x.ys ++ [(⟨(P : Int), F.1.2.1, G.2.2.1, R.1.1, R.1.2.1, R.1.2.2, y100.a, y100.c, y100.xs⟩ : EnX)]⟩) (⟨by show M + 1 - (x.at' + j) < M + 1 - x.at'; omega, by show es = (x.ys ++ [_]).map entV ++ walkP l M hi sg f (M * sg + (x.at' + j)) F.1.2.1; rw [hd2, if_neg h4, List.map_append, List.append_assoc, ← Nat.add_assoc, ← hP]; rfl, by show (x.ys ++ [_]).length ≤ x.at' + j; rw [List.length_append]; show x.ys.length + 1 ≤ _; omega, by show x.at' + j ≤ M; omega, by show M ≤ x.at' + j + f; omega⟩)
                        · refine Xpf 14 rfl ?_
                          have hgd : goodS l M P := by rw [hgs]; exact ⟨by omega, by omega, hRe, hki, fun h => by omega⟩
                          have hV := standsV_yes hgd
                          have hen : entS l M P = ⟨P, F.1.2.1, G.2.2.1, R.1, R.2.1⟩ := by unfold entS; rw [hPm, ← hF, ← hG, ← hR]
                          have hd2 := hd
                          rw [hff, walk_if hPd, hV, hen, if_pos ⟨rfl, by show x.least ≤ F.1.2.1; omega, by show F.1.2.1 ≤ hi; omega⟩] at hd2
                          dsimp only at hd2
                          rw [show G.2.2.1.toNat = j by omega] at hd2
                          have hX : entV (⟨(P : Int), F.1.2.1, G.2.2.1, R.1.1, R.1.2.1, R.1.2.2, y100.a, y100.c, y100.xs⟩ : EnX) = (⟨P, F.1.2.1, G.2.2.1, R.1, R.2.1⟩ : EntR) := by show EntR.mk _ _ _ _ _ = _; rw [h100.2]
                          replace hd2 : es = x.ys.map entV ++ (entV (⟨(P : Int), F.1.2.1, G.2.2.1, R.1.1, R.1.2.1, R.1.2.2, y100.a, y100.c, y100.xs⟩ : EnX) :: if R.1.1 = 2 then [] else walkP l M hi sg f (P + j) F.1.2.1) := by rw [hX]; exact hd2
                          refine Xp rfl (LD rfl ?_)
                          refine Xp rfl (LA rfl ?_)
                          refine BU (l := [iv (P : Int), iv F.1.2.1, iv G.2.2.1, iv R.1.1, iv R.1.2.1, iv R.1.2.2, .slice y100.a y100.xs.length y100.c]) rfl rfl ?_
                          refine BSA rfl fun b134 => ?_
                          refine AP rfl rfl (fun w9 F9 S9 s => s.blkC (show Sel _ (blk b134 _ _) _ from sE0)) fun a135 c135 => ?_
                          refine Xpf 1 rfl ?_
                          refine IM (Imp.enAdd (⟨(P : Int), F.1.2.1, G.2.2.1, R.1.1, R.1.2.1, R.1.2.2, y100.a, y100.c, y100.xs⟩ : EnX) (show Sel _ (wsA y100.a y100.xs) _ from sE0) (show Sel _ (sh (fun w => ∀ q ∈ x.ys, entOk w q)) _ from sE0) h100.1) ?_
                          rw [show rowsC entC x.ys ++ [iv (P : Int), iv F.1.2.1, iv G.2.2.1, iv R.1.1, iv R.1.2.1, iv R.1.2.2, .slice y100.a y100.xs.length y100.c] = rowsC entC (x.ys ++ [(⟨(P : Int), F.1.2.1, G.2.2.1, R.1.1, R.1.2.1, R.1.2.2, y100.a, y100.c, y100.xs⟩ : EnX)]) by rw [rowsC_app, rowsC_one]; rfl, show x.ys.length + 1 = (x.ys ++ [(⟨(P : Int), F.1.2.1, G.2.2.1, R.1.1, R.1.2.1, R.1.2.2, y100.a, y100.c, y100.xs⟩ : EnX)]).length by rw [List.length_append]; rfl]
                          refine Xp rfl (LD rfl ?_)
                          refine Xp rfl (CD rfl (fun h4 => ?_) (fun h4 => ?_))
                          · refine Xpf 1 rfl ?_
                            rw [if_pos h4] at hd2
                            refine FO (show Sel _ (own 62 7 a135 (x.ys ++ [(⟨(P : Int), F.1.2.1, G.2.2.1, R.1.1, R.1.2.1, R.1.2.2, y100.a, y100.c, y100.xs⟩ : EnX)]).length c135 (rowsC entC (x.ys ++ [(⟨(P : Int), F.1.2.1, G.2.2.1, R.1.1, R.1.2.1, R.1.2.2, y100.a, y100.c, y100.xs⟩ : EnX)]))) _ from sE0) fun hyo => ?_
                            refine IM (Imp.ensIn (show Sel _ (own 62 7 a135 (x.ys ++ [(⟨(P : Int), F.1.2.1, G.2.2.1, R.1.1, R.1.2.1, R.1.2.2, y100.a, y100.c, y100.xs⟩ : EnX)]).length c135 (rowsC entC (x.ys ++ [(⟨(P : Int), F.1.2.1, G.2.2.1, R.1.1, R.1.2.1, R.1.2.2, y100.a, y100.c, y100.xs⟩ : EnX)]))) _ from sE0) (show Sel _ (sh (fun w => ∀ q ∈ x.ys ++ [(⟨(P : Int), F.1.2.1, G.2.2.1, R.1.1, R.1.2.1, R.1.2.2, y100.a, y100.c, y100.xs⟩ : EnX)], entOk w q)) _ from sE0)) ?_
                            refine Xp rfl (R1 rfl rfl (⟨⟨a135, c135, x.ys ++ [(⟨(P : Int), F.1.2.1, G.2.2.1, R.1.1, R.1.2.1, R.1.2.2, y100.a, y100.c, y100.xs⟩ : EnX)]⟩, ⟨hyo.2, by dsimp only; rw [hd2, List.map_append]; rfl⟩, rfl, rfl⟩))
                          · refine Xpf 8 rfl ?_
                            refine BE 10 rfl (show _ = iv ((x.at' + j : Nat) : Int) from congrArg (Value.int .i64) (by omega)) ?_
                            refine Xp rfl (LD rfl ?_)
                            refine Xp rfl ?_
                            exact HD (⟨x.at' + j, f, F.1.2.1, a135, c135, x.ys ++ [(⟨(P : Int), F.1.2.1, G.2.2.1, R.1.1, R.1.2.1, R.1.2.2, y100.a, y100.c, y100.xs⟩ : EnX)]⟩) (⟨by show M + 1 - (x.at' + j) < M + 1 - x.at'; omega, by show es = (x.ys ++ [_]).map entV ++ walkP l M hi sg f (M * sg + (x.at' + j)) F.1.2.1; rw [hd2, if_neg h4, List.map_append, List.append_assoc, ← Nat.add_assoc, ← hP]; rfl, by show (x.ys ++ [_]).length ≤ x.at' + j; rw [List.length_append]; show x.ys.length + 1 ≤ _; omega, by show x.at' + j ≤ M; omega, by show M ≤ x.at' + j + f; omega⟩)
          · have hfin : es = x.ys.map entV := by rw [hd, walk_out (by rw [show x.at' = M by omega, show M * sg + M = M * (sg + 1) from rfl, Nat.mul_div_cancel_left _ (by omega)]; omega), List.append_nil]
            refine Xpf 3 rfl ?_
            refine FO (show Sel _ (own 62 7 x.a x.ys.length x.c (rowsC entC x.ys)) _ from sE0) fun hyo => ?_
            refine IM (Imp.ensIn (show Sel _ (own 62 7 x.a x.ys.length x.c (rowsC entC x.ys)) _ from sE0) (show Sel _ (sh (fun w => ∀ q ∈ x.ys, entOk w q)) _ from sE0)) ?_
            refine Xp rfl (R1 rfl rfl (⟨⟨x.a, x.c, x.ys⟩, ⟨hyo.2, hfin.symm⟩, rfl, rfl⟩))

end Go.Proofs.Ytcedgodfmohleaa
/-
  Package ring: Open.
-/
set_option linter.unusedVariables false
set_option linter.unusedSimpArgs false
set_option maxRecDepth 4000
namespace Go.Proofs.Ytcedgodfmohleaa
open Go Brv Brv.Image Brv.Dev Brv.Pack Brv.Frame Brv.Rec
theorem rwalkI (b : B4) (a : Option Addr) (n c : Nat) (l : List UInt8) (lsn lo hi : Int) (hc : n ≤ c) (hN : n ≤ 4194240) : IterS Try.prog 42 [pt b.p, pt b.q, pt b.r, pt b.s] [fz b.p [iv ((n / 64 : Nat) : Int)] 3, fz b.q [.slice a n c] 22, fz b.r [iv lsn] 3, fz b.s [iv lo, iv hi] 23, bs a n l] (walkE l lsn lo hi).length (wkE (walkE l lsn lo hi)) := fun y J Jx hY => rwalk1K y b a n c l lsn lo hi hc hN J Jx hY
theorem ropenK (l d : Nat) (s : Shp) (e : Int) (v : DevV) (lsn ep : Int) (hs : s.ok) : SpecS Try.prog 18 [pt l, iv lsn, iv ep] [blk l [pt d, iv s.fr, iv s.sg, iv s.sz, iv e] 77, dvA d v s.N] (fun r H' => ∃ y : EnS, (y.ys.length ≤ y.c ∧ y.ys.map entV = (openL s v e lsn ep).1) ∧ r = .tuple #[.slice y.a y.ys.length y.c, iv (openL s v e lsn ep).2.2] ∧ H' = [ensA y.a y.ys, blk l [pt d, iv s.fr, iv s.sg, iv s.sz, iv (openL s v e lsn ep).2.1] 77, dvA d v s.N]) := by
  refine EN Try.func18 rfl rfl fun o => ?_
  have hok := hs
  unfold Shp.ok at hs
  refine FA (fun w9 F9 S9 s => (s.dv (show Sel _ (dvA d v _) _ from sE0)).1) fun hf9 => ?_
  have hwf := hf9; clear hf9
  obtain ⟨Z, hZ⟩ : ∃ Z : Nat, s.sz = Z := Int.eq_ofNat_of_zero_le (by omega)
  refine Xp rfl (CE rfl (rfl) ?_)
  refine Xp rfl (GB 22 rfl (fun hg3_3 => ?_) (fun hg3_3 => ?_))
  · have hol : openL s v e lsn ep = ([], e, 2) := if_neg (fun h => by rw [decide_eq_true h.1] at hg3_3; cases hg3_3)
    rw [hol]
    refine IM (Imp.ensNil) ?_
    refine Xpf 14 rfl ?_
    exact R2 rfl rfl rfl (⟨⟨none, 0, []⟩, ⟨Nat.le_refl _, rfl⟩, rfl, rfl⟩)
  · have hls : 0 ≤ lsn ∧ lsn ≤ 2305843009213693952 := by simpa using hg3_3
    refine Xp rfl (CB rfl (fun h1 => ?_) (fun h1 => ?_))
    · have hol : openL s v e lsn ep = ([], e, 2) := if_neg (fun h => by rw [decide_eq_true h.2] at h1; cases h1)
      rw [hol]
      refine IM (Imp.ensNil) ?_
      refine Xpf 6 rfl ?_
      exact R2 rfl rfl rfl (⟨⟨none, 0, []⟩, ⟨Nat.le_refl _, rfl⟩, rfl, rfl⟩)
    · have hep : 0 ≤ ep ∧ ep ≤ 4294967295 := by simpa using h1
      obtain ⟨OL, hOL⟩ : ∃ z, z = openL s v e lsn ep := ⟨_, rfl⟩
      rw [← hOL]
      replace hOL : OL = openN s v ep e s.sg.toNat lsn 0 [] := hOL.trans (if_pos ⟨hls, hep⟩)
      refine Xp rfl (AL fun b8 => ?_)
      refine Xp rfl (AL fun b9 => ?_)
      refine AL fun b10 => ?_
      refine ST rfl rfl ?_
      refine ST rfl rfl ?_
      refine Xp rfl (LD rfl ?_)
      refine Xpf 4 rfl ?_
      refine IM (Imp.ownNil 62 7) ?_
      refine IM (Imp.pure (p := fun w => ∀ q ∈ ([] : List EnX), entOk w q) (fun w y hy => by cases hy)) ?_
      refine IM (Imp.markNone) ?_
      refine LPM (fun (x : OpX) r9 => (32, iv (x.j : Int)) :: r9) (fun x R9 => blk b8 [.slice x.a x.ys.length x.c] 25 :: own 62 7 x.a x.ys.length x.c (rowsC entC x.ys) :: sh (fun w => ∀ q ∈ x.ys, entOk w q) :: blk b9 [iv x.en] 3 :: blk b10 [iv x.least] 3 :: dfP x.ds :: R9) (fun x => OL = openN s v ep e (s.sg.toNat - x.j) x.en x.least (x.ys.map entV) ∧ x.j ≤ s.sg.toNat ∧ (0 ≤ x.en ∧ x.en ≤ 2305843009213693952 + 200 * (x.j : Int)) ∧ x.ys.length ≤ 64 * x.j) (fun x => s.sg.toNat - x.j) (fun x => x.ds) (⟨0, lsn, 0, none, 0, [], []⟩) [0, 2, 8, 9, 10, 31] rfl (⟨hOL, Nat.zero_le _, ⟨by show 0 ≤ lsn; omega, by show lsn ≤ 2305843009213693952 + 200 * 0; omega⟩, Nat.zero_le _⟩) fun x ⟨hol, hj, hen, hyl⟩ => ?_
      refine Xp rfl (CD rfl (fun h2 => ?_) (fun h2 => ?_))
      · refine Xpf 5 rfl ?_
        have hat := Shp.at hok hen.1
        obtain ⟨B, hB⟩ : ∃ z, z = readV v s.N (s.fr + x.en / s.sz % s.sg * s.sz) s.sz := ⟨_, rfl⟩
        obtain ⟨m, hm⟩ : ∃ m, s.sg.toNat - x.j = m + 1 := ⟨s.sg.toNat - x.j - 1, by omega⟩
        rw [hm, openN, ← hB] at hol
        refine DR [7] [0, 1, 2, 3, 4, 5, 6, 7, 8, 9, 10, 11, 12] ?_
        refine Xp rfl (WD rfl ?_)
        refine Xp rfl (WD rfl ?_)
        refine Xp rfl (SW' (CS.call rfl go19 (rsegK l d s e v (x.en / s.sz) ⟨hok, hat.1.1⟩) sE1) ?_)
        rintro _ _ ⟨_, ⟨a42, c42, h42, rfl, rfl⟩, rfl⟩
        refine ⟨⟨OR, ⟨OR, trivial⟩⟩, N3 ?_⟩
        rw [← hB] at h42 ⊢
        refine Xp rfl (CD rfl (fun h3 => ?_) (fun h3 => ?_))
        · rw [if_pos h3] at hol
          rw [hol]
          refine IM (Imp.ensNil) ?_
          refine IM (Imp.markOut (show Sel _ (dfP x.ds) _ from sE0)) ?_
          refine Xpf 7 rfl ?_
          exact R2M rfl rfl rfl (⟨⟨none, 0, []⟩, ⟨Nat.le_refl _, rfl⟩, rfl, rfl⟩) (Dfrs.many .nil)
        · rw [if_neg h3] at hol
          have hBl : B.1.length = 64 * Z := by rw [hB, readV_ok hwf (by rw [← hB]; omega)]; omega
          obtain ⟨es, hes⟩ : ∃ z, z = walkE B.1 x.en x.least ep := ⟨_, rfl⟩
          rw [← hes] at hol
          have hel : es.length ≤ Z := by rw [hes]; exact Nat.le_trans walkE_len (by omega)
          have hem : ∀ q ∈ es, (0 ≤ q.lsn ∧ q.lsn < x.en + Z) ∧ 0 < q.n ∧ q.lsn + q.n ≤ x.en + Z := by
              intro q hq
              rw [hes] at hq
              obtain ⟨k, h1, _, _, _, h2, _⟩ := walkE_mem hq
              rw [hBl, show 64 * Z / 64 = Z by omega] at h2
              omega
          refine IM (Imp.ownBs (show Sel _ (own 5 1 a42 _ c42 _) _ from sE0)) ?_
          refine Xp rfl (AL fun b13 => ?_)
          refine ST rfl rfl ?_
          refine Xp rfl (LD rfl ?_)
          refine LD rfl ?_
          refine Xp rfl (BU (l := [iv x.least, iv ep]) rfl rfl ?_)
          refine DL1 rfl go20 (rwalkK a42 _ c42 x.en x.least ep) fun b53 => N4 ?_
          refine Xpf 3 rfl ?_
          have hit : IterS Try.prog 42 [pt b53.p, pt b53.q, pt b53.r, pt b53.s] [fz b53.p [iv ((B.1.length / 64 : Nat) : Int)] 3, fz b53.q [.slice a42 B.1.length c42] 22, fz b53.r [iv x.en] 3, fz b53.s [iv x.least, iv ep] 23, bs a42 B.1.length B.1] es.length (wkE es) := by rw [hes]; exact rwalkI b53 a42 B.1.length c42 B.1 x.en x.least ep h42 (by omega)
          refine RG (X := EnS) (Y := Unit) (fun k y R9 => blk b8 [.slice y.a y.ys.length y.c] 25 :: own 62 7 y.a y.ys.length y.c (rowsC entC y.ys) :: sh (fun w => ∀ q ∈ y.ys, entOk w q) :: blk b9 [iv (endE (es.take k) x.en)] 3 :: blk b10 [iv (leastE (es.take k) x.least)] 3 :: blk b13 [.bool (turnedE (es.take k))] 4 :: R9) (fun k y => y.ys.map entV = x.ys.map entV ++ es.take k) (fun c k _ R9 => R9) (fun c k _ => False) (⟨x.a, x.c, x.ys⟩) rfl go42 (hit) (by simp) ?_ ?_ ?_
          · rintro l9 k y vs p hk hI ⟨e1, y1, he1, ⟨hyc, hyw⟩, rfl, rfl⟩
            have hm1 := hem e1 (List.mem_of_getElem? he1)
            have hl1 : y.ys.length ≤ x.ys.length + 64 := by have := congrArg List.length hI; simp at this; omega
            have hX : entV (⟨e1.lsn, e1.epoch, e1.n, e1.h.1, e1.h.2.1, e1.h.2.2, y1.a, y1.c, y1.xs⟩ : EnX) = e1 := by show EntR.mk _ _ _ _ _ = e1; rw [hyw]
            refine ⟨rfl, fun o8 => ?_⟩
            refine Xp rfl (AS rfl fun b14 => ?_)
            refine Xp rfl (RA fun o9 => ?_)
            refine Xp rfl (DR [2, 3, 6, 7] [0, 1, 4, 5, 2, 3, 6, 7] ?_)
            refine Xp rfl (WD rfl ?_)
            refine VW (fun w9 F9 S9 s => R.ldBN rfl (s.cel sE2) (by rfl)) ?_
            refine Xp rfl (WD rfl ?_)
            refine SW' (CS.bsa (cs := [iv e1.lsn, iv e1.epoch, iv e1.n, iv e1.h.1, iv e1.h.2.1, iv e1.h.2.2, .slice y1.a y1.xs.length y1.c]) rfl rfl) ?_
            rintro _ _ ⟨b57, rfl, rfl⟩
            refine ⟨⟨OB rfl, ⟨OR, ⟨OB rfl, trivial⟩⟩⟩, ?_⟩
            refine SW' (CS.app rfl rfl (show Sel _ (own 62 7 y.a y.ys.length y.c (rowsC entC y.ys)) _ from sE0) (fun w9 F9 S9 s => s.blkC (show Sel _ (blk b57 _ _) _ from sE0)) rfl (one_of rfl) (by unfold maxLen; omega) (by omega)) ?_
            rintro _ _ ⟨a58, c58, rfl, rfl⟩
            refine ⟨⟨OB rfl, ⟨OR, ⟨OR, trivial⟩⟩⟩, ?_⟩
            refine SW' (CS.st rfl rfl sE0 sE3 rfl) ?_
            rintro _ _ rfl
            refine ⟨⟨OB rfl, ⟨OR, ⟨OR, trivial⟩⟩⟩, ?_⟩
            refine SW' (CS.st rfl rfl sE0 sE3 rfl) ?_
            rintro _ _ rfl
            refine ⟨⟨OR, ⟨OR, ⟨OR, trivial⟩⟩⟩, ?_⟩
            refine Xp rfl (DR [9, 10] [0, 1, 2, 3, 4, 5, 6, 7, 8, 9, 10] ?_)
            refine Xp rfl (WD rfl ?_)
            refine Xp rfl (WD rfl ?_)
            refine Xp rfl (WD rfl ?_)
            refine Xp rfl (SW' (CS.st rfl rfl sE0 sE3 rfl) ?_)
            rintro _ _ rfl
            refine ⟨⟨OB rfl, ⟨OR, ⟨OR, trivial⟩⟩⟩, ?_⟩
            refine SW' (CS.st rfl rfl sE0 sE3 rfl) ?_
            rintro _ _ rfl
            refine ⟨⟨OR, ⟨OR, ⟨OR, trivial⟩⟩⟩, ?_⟩
            refine Xp rfl ?_
            refine IM (Imp.enAdd (⟨e1.lsn, e1.epoch, e1.n, e1.h.1, e1.h.2.1, e1.h.2.2, y1.a, y1.c, y1.xs⟩ : EnX) (show Sel _ (sh (WsP y1.a y1.xs)) _ from sE0) (show Sel _ (sh (fun w => ∀ q ∈ y.ys, entOk w q)) _ from sE0) hyc) ?_
            rw [show rowsC entC y.ys ++ [iv e1.lsn, iv e1.epoch, iv e1.n, iv e1.h.1, iv e1.h.2.1, iv e1.h.2.2, .slice y1.a y1.xs.length y1.c] = rowsC entC (y.ys ++ [(⟨e1.lsn, e1.epoch, e1.n, e1.h.1, e1.h.2.1, e1.h.2.2, y1.a, y1.c, y1.xs⟩ : EnX)]) by rw [rowsC_app, rowsC_one]; rfl, show y.ys.length + 1 = (y.ys ++ [(⟨e1.lsn, e1.epoch, e1.n, e1.h.1, e1.h.2.1, e1.h.2.2, y1.a, y1.c, y1.xs⟩ : EnX)]).length by rw [List.length_append]; rfl]
            rw [show blk b9 [iv (e1.lsn + e1.n)] 3 = blk b9 [iv (endE (es.take (k + 1)) x.en)] 3 by rw [take_snoc he1, endE_snoc], show blk b10 [iv e1.epoch] 3 = blk b10 [iv (leastE (es.take (k + 1)) x.least)] 3 by rw [take_snoc he1, leastE_snoc], show blk b13 [.bool (decide (e1.h.1 = 2))] 4 = blk b13 [.bool (turnedE (es.take (k + 1)))] 4 by rw [take_snoc he1, turnedE_snoc]]
            refine Xp rfl (RN (⟨a58, c58, y.ys ++ [(⟨e1.lsn, e1.epoch, e1.n, e1.h.1, e1.h.2.1, e1.h.2.2, y1.a, y1.c, y1.xs⟩ : EnX)]⟩) (by show (y.ys ++ [_]).map entV = _; rw [List.map_append, hI, take_snoc he1, List.append_assoc]; show _ ++ (_ ++ [entV (⟨e1.lsn, e1.epoch, e1.n, e1.h.1, e1.h.2.1, e1.h.2.2, y1.a, y1.c, y1.xs⟩ : EnX)]) = _; rw [hX]))
          · rintro d9 y hI
            rw [List.take_length] at hI ⊢
            have hl9 : y.ys.length ≤ x.ys.length + 64 := by have := congrArg List.length hI; simp at this; omega
            refine IM (Imp.markIn (show Sel _ (dfr d9) _ from sE0) (show Sel _ (dfP x.ds) _ from sE0)) ?_
            refine Xp rfl (LD rfl ?_)
            refine Xp rfl (CB rfl (fun h4 => ?_) (fun h4 => ?_))
            · have htn : turnedE es = false := by simpa using h4
              rw [htn, if_neg (by decide)] at hol
              refine Xp rfl (LD rfl ?_)
              refine Xp rfl (ST rfl rfl ?_)
              refine Xp rfl (LD rfl ?_)
              refine Xpf 4 rfl ?_
              refine FO (show Sel _ (own 62 7 y.a y.ys.length y.c (rowsC entC y.ys)) _ from sE0) fun hyo => ?_
              refine IM (Imp.ensIn (show Sel _ (own 62 7 y.a y.ys.length y.c (rowsC entC y.ys)) _ from sE0) (show Sel _ (sh (fun w => ∀ q ∈ y.ys, entOk w q)) _ from sE0)) ?_
              refine IM (Imp.markOut (show Sel _ (dfP (d9 :: x.ds)) _ from sE0)) ?_
              rw [hol]
              exact R2M rfl rfl rfl (⟨⟨y.a, y.c, y.ys⟩, ⟨hyo.2, hI⟩, rfl, rfl⟩) (Dfrs.many (ds := d9 :: x.ds) .nil)
            · have htn : turnedE es = true := by simpa using h4
              rw [htn, if_pos rfl, show m = s.sg.toNat - (x.j + 1) by omega] at hol
              obtain ⟨es2, xl, hxl⟩ := turned_last htn
              have hxm := hem xl (by rw [hxl]; simp)
              have hll : lastL es = xl.lsn := by rw [hxl, lastL_snoc]
              rw [← hll] at hxm
              have hat2 := Shp.at hok hxm.1.1
              have hmul : (lastL es / s.sz + 1) * s.sz = lastL es / s.sz * s.sz + s.sz := by rw [Int.add_mul, Int.one_mul]
              have hy0 : 0 < y.ys.length := by have := congrArg List.length hI; rw [hxl] at this; simp at this; omega
              refine FA (fun w9 F9 S9 s => s.ownG (show Sel _ (own 62 7 y.a y.ys.length y.c (rowsC entC y.ys)) _ from sE0) hy0) fun hf9 => ?_
              obtain ⟨g, hg⟩ := hf9
              obtain ⟨z, hz⟩ : ∃ z, y.ys[y.ys.length - 1]? = some z := ⟨_, List.getElem?_eq_getElem (by omega)⟩
              have hzl : z.lsn = lastL es := by
                  have h8 : (y.ys.map entV)[y.ys.length - 1]? = some (entV z) := by rw [List.getElem?_map, hz]; rfl
                  have h9 : (y.ys.map entV).getLast? = some (entV z) := by rw [List.getLast?_eq_getElem?, List.length_map]; exact h8
                  rw [hI, hxl, ← List.append_assoc, List.getLast?_concat] at h9
                  rw [hll, Option.some.inj h9]; rfl
              refine Xp rfl (DR [18] [0, 1, 2, 3, 4, 5, 6, 7, 8, 9, 10, 11, 12, 13, 14, 15, 16, 17, 18] ?_)
              refine Xp rfl (WD rfl ?_)
              refine WD rfl ?_
              refine Xp rfl (VP (fun w9 => R.idx rfl rfl (by omega) (by omega) ⟨g, 0, none⟩ hg) ?_)
              refine VP (fun w9 => R.fldA rfl) ?_
              refine VW (fun w9 F9 S9 s => R.ld rfl (v := iv (lastL es)) (by rw [show ((y.ys.length : Int) - 1).toNat = y.ys.length - 1 by omega, ← hzl]; have hcc := s.ownC (show Sel _ (own 62 7 y.a y.ys.length y.c (rowsC entC y.ys)) _ from sE0); rw [hg] at hcc; exact (rowsC_ld (s := 7) (fun _ _ => rfl) hcc hz).load (j := 0) rfl)) ?_
              refine Xp rfl (WD rfl ?_)
              refine Xp rfl (WD rfl ?_)
              refine Xp rfl (SW' (CS.st rfl rfl sE0 sE3 rfl) ?_)
              rintro _ _ rfl
              refine ⟨⟨OR, ⟨OR, ⟨OR, ⟨OR, ⟨OR, trivial⟩⟩⟩⟩⟩, ?_⟩
              refine Xp rfl ?_
              exact HDM (⟨x.j + 1, (lastL es / s.sz + 1) * s.sz, leastE es x.least, y.a, y.c, y.ys, d9 :: x.ds⟩) (⟨by show s.sg.toNat - (x.j + 1) < s.sg.toNat - x.j; omega, by show OL = openN s v ep e (s.sg.toNat - (x.j + 1)) _ _ (y.ys.map entV); rw [hI]; exact hol, by show x.j + 1 ≤ _; omega, ⟨by show 0 ≤ (lastL es / s.sz + 1) * s.sz; omega, by show (lastL es / s.sz + 1) * s.sz ≤ 2305843009213693952 + 200 * ((x.j + 1 : Nat) : Int); omega⟩, by show y.ys.length ≤ 64 * (x.j + 1); omega⟩)
          · rintro d9 k c _ hk ⟨⟩
      · rw [show s.sg.toNat - x.j = 0 by omega] at hol
        replace hol : OL = (x.ys.map entV, x.en, 0) := hol
        refine Xp rfl (LD rfl ?_)
        refine Xp rfl (ST rfl rfl ?_)
        refine Xp rfl (LD rfl ?_)
        refine Xpf 4 rfl ?_
        refine FO (show Sel _ (own 62 7 x.a x.ys.length x.c (rowsC entC x.ys)) _ from sE0) fun hyo => ?_
        refine IM (Imp.ensIn (show Sel _ (own 62 7 x.a x.ys.length x.c (rowsC entC x.ys)) _ from sE0) (show Sel _ (sh (fun w => ∀ q ∈ x.ys, entOk w q)) _ from sE0)) ?_
        refine IM (Imp.markOut (show Sel _ (dfP x.ds) _ from sE0)) ?_
        rw [hol]
        exact R2M rfl rfl rfl (⟨⟨x.a, x.c, x.ys⟩, ⟨hyo.2, rfl⟩, rfl, rfl⟩) (Dfrs.many .nil)

end Go.Proofs.Ytcedgodfmohleaa
/-
  The law: what is walked.
-/
set_option linter.unusedVariables false
set_option linter.unusedSimpArgs false
set_option maxRecDepth 4000
namespace Go.Proofs.Ytcedgodfmohleaa
open Go Brv Brv.Pack Brv.Frame Brv.Rec
def wdJ (bo bt : Nat) (es : List EntR) (stop : Int) (k : Nat) : Asn := pk fun y : EnS => [blk bo [.slice y.a y.ys.length y.c] 25, own 62 7 y.a y.ys.length y.c (rowsC entC y.ys), sh (fun w => ∀ q ∈ y.ys, entOk w q), fz bt [iv stop] 3, sh fun _ => y.ys.map entV = es.take k ∧ ¬ (1 ≤ stop ∧ stop ≤ (k : Int))]
def wdX (bo bt : Nat) (es : List EntR) (stop : Int) (k : Nat) : Asn := pk fun y : EnS => [blk bo [.slice y.a y.ys.length y.c] 25, own 62 7 y.a y.ys.length y.c (rowsC entC y.ys), sh (fun w => ∀ q ∈ y.ys, entOk w q), fz bt [iv stop] 3, sh fun _ => y.ys.map entV = es.take k ∧ (1 ≤ stop ∧ stop = (k : Int))]
/-- So many entries, or all. -/
def stopE (es : List EntR) (stop : Int) : List EntR := if stop ≤ 0 then es else es.take stop.toNat
def wdF (bo bt : Nat) (es : List EntR) (stop : Int) : Asn := pk fun y : EnS => [blk bo [.slice y.a y.ys.length y.c] 25, own 62 7 y.a y.ys.length y.c (rowsC entC y.ys), sh (fun w => ∀ q ∈ y.ys, entOk w q), fz bt [iv stop] 3, sh fun _ => y.ys.map entV = stopE es stop]
theorem stop_all {es : List EntR} {stop : Int} (h : ¬ (1 ≤ stop ∧ stop ≤ (es.length : Int))) : es.take es.length = stopE es stop := by
  unfold stopE; split
  · exact List.take_length
  · rw [List.take_length, List.take_of_length_le (by omega)]
theorem stop_at {es : List EntR} {stop : Int} {k : Nat} (h : 1 ≤ stop ∧ stop = (k : Int)) : es.take k = stopE es stop := by
  unfold stopE; rw [if_neg (by omega), show stop.toNat = k by omega]
theorem wd_end {bo bt : Nat} {es : List EntR} {stop : Int} {K HI : List Asn} (hq : K = wdJ bo bt es stop es.length :: HI ∨ ∃ k, k ≤ es.length ∧ K = wdX bo bt es stop k :: HI) (R : List Asn) : Imp (K ++ R) (wdF bo bt es stop :: (HI ++ R)) := by
  rcases hq with rfl | ⟨k, _, rfl⟩
  · refine Imp.same .here fun F S w h => ?_
    obtain ⟨y, F1, S1, F2, S2, a, b, hA, F3, S3, F4, S4, c, d, hB, F5, S5, F6, S6, e, f, hC, F7, S7, F8, S8, g, i, hD, F9, S9, F0, S0, j, m, hE, hZ⟩ := h
    exact ⟨y, F1, S1, F2, S2, a, b, hA, F3, S3, F4, S4, c, d, hB, F5, S5, F6, S6, e, f, hC, F7, S7, F8, S8, g, i, hD, F9, S9, F0, S0, j, m, fun M w' he hM => (hE M w' he hM).1.trans (stop_all (hE M w' he hM).2), hZ⟩
  · refine Imp.same .here fun F S w h => ?_
    obtain ⟨y, F1, S1, F2, S2, a, b, hA, F3, S3, F4, S4, c, d, hB, F5, S5, F6, S6, e, f, hC, F7, S7, F8, S8, g, i, hD, F9, S9, F0, S0, j, m, hE, hZ⟩ := h
    exact ⟨y, F1, S1, F2, S2, a, b, hA, F3, S3, F4, S4, c, d, hB, F5, S5, F6, S6, e, f, hC, F7, S7, F8, S8, g, i, hD, F9, S9, F0, S0, j, m, fun M w' he hM => (hE M w' he hM).1.trans (stop_at (hE M w' he hM).2), hZ⟩
theorem walked1K (bo bt : Nat) (es : List EntR) (stop : Int) (k : Nat) (e : EntR) (y1 : RwX) (he : es[k]? = some e) (hw : y1.xs.length ≤ y1.c ∧ y1.xs.map wrV = e.ws) (hk : k ≤ 1000000000) (h0 : 0 ≤ stop) : SpecS Try.prog 27 [.agg #[iv e.lsn, iv e.epoch, iv e.n, iv e.h.1, iv e.h.2.1, iv e.h.2.2, .slice y1.a y1.xs.length y1.c], pt bo, pt bt] [sh (WsP y1.a y1.xs), wdJ bo bt es stop k] (fun v H' => ∃ b, v = .bool b ∧ H' = [if b then wdJ bo bt es stop (k + 1) else wdX bo bt es stop (k + 1)]) := by
  refine EN Try.func27 rfl rfl fun o => ?_
  refine OP (show Sel _ (wdJ bo bt es stop k) _ from sE0) fun y => N5 ?_
  refine FS (φ := y.ys.map entV = es.take k ∧ ¬ (1 ≤ stop ∧ stop ≤ (k : Int))) sE0 fun hq => ?_
  have hlen : y.ys.length = k := by have := congrArg List.length hq.1; have h2 := (List.getElem?_eq_some_iff.1 he).1; simp at this; omega
  have hX : entV (⟨e.lsn, e.epoch, e.n, e.h.1, e.h.2.1, e.h.2.2, y1.a, y1.c, y1.xs⟩ : EnX) = e := by show EntR.mk _ _ _ _ _ = e; rw [hw.2]
  have htk : (y.ys ++ [(⟨e.lsn, e.epoch, e.n, e.h.1, e.h.2.1, e.h.2.2, y1.a, y1.c, y1.xs⟩ : EnX)]).map entV = es.take (k + 1) := by rw [List.map_append, hq.1, take_snoc he]; show _ ++ [entV (⟨e.lsn, e.epoch, e.n, e.h.1, e.h.2.1, e.h.2.2, y1.a, y1.c, y1.xs⟩ : EnX)] = _; rw [hX]
  refine Xp rfl (BX rfl fun b3 => ?_)
  refine Xp rfl (LD rfl ?_)
  refine LA rfl ?_
  refine BSA rfl fun b7 => ?_
  refine AP rfl rfl (fun w9 F9 S9 s => s.blkC (show Sel _ (blk b7 _ _) _ from sE0)) fun a8 c8 => ?_
  refine ST rfl rfl ?_
  refine IM (Imp.enAdd (⟨e.lsn, e.epoch, e.n, e.h.1, e.h.2.1, e.h.2.2, y1.a, y1.c, y1.xs⟩ : EnX) (show Sel _ (sh (WsP y1.a y1.xs)) _ from sE0) (show Sel _ (sh (fun w => ∀ q ∈ y.ys, entOk w q)) _ from sE0) hw.1) ?_
  rw [show rowsC entC y.ys ++ [iv e.lsn, iv e.epoch, iv e.n, iv e.h.1, iv e.h.2.1, iv e.h.2.2, .slice y1.a y1.xs.length y1.c] = rowsC entC (y.ys ++ [(⟨e.lsn, e.epoch, e.n, e.h.1, e.h.2.1, e.h.2.2, y1.a, y1.c, y1.xs⟩ : EnX)]) by rw [rowsC_app, rowsC_one]; rfl, show y.ys.length + 1 = (y.ys ++ [(⟨e.lsn, e.epoch, e.n, e.h.1, e.h.2.1, e.h.2.2, y1.a, y1.c, y1.xs⟩ : EnX)]).length by rw [List.length_append]; rfl]
  refine Xp rfl (LD rfl ?_)
  refine Xp rfl (LD rfl ?_)
  refine Xp rfl ?_
  by_cases hst : (((y.ys ++ [(⟨e.lsn, e.epoch, e.n, e.h.1, e.h.2.1, e.h.2.2, y1.a, y1.c, y1.xs⟩ : EnX)]).length : Nat) : Int) = stop
  · rw [decide_eq_false (fun h => h hst)]
    refine IM (Imp.add (sh_any (show (y.ys ++ [(⟨e.lsn, e.epoch, e.n, e.h.1, e.h.2.1, e.h.2.2, y1.a, y1.c, y1.xs⟩ : EnX)]).map entV = es.take (k + 1) ∧ 1 ≤ stop ∧ stop = ((k + 1 : Nat) : Int) from ⟨htk, by rw [List.length_append] at hst; simp at hst; omega, by rw [List.length_append] at hst; simp at hst; omega⟩))) ?_
    refine IM (show Imp _ (wdX bo bt es stop (k + 1) :: _) from Imp.pkIn (⟨a8, c8, (y.ys ++ [(⟨e.lsn, e.epoch, e.n, e.h.1, e.h.2.1, e.h.2.2, y1.a, y1.c, y1.xs⟩ : EnX)])⟩ : EnS) sE1) ?_
    exact R1 rfl rfl ⟨false, rfl, rfl⟩
  · rw [decide_eq_true hst]
    refine IM (Imp.add (sh_any (show (y.ys ++ [(⟨e.lsn, e.epoch, e.n, e.h.1, e.h.2.1, e.h.2.2, y1.a, y1.c, y1.xs⟩ : EnX)]).map entV = es.take (k + 1) ∧ ¬ (1 ≤ stop ∧ stop ≤ ((k + 1 : Nat) : Int)) from ⟨htk, by rw [List.length_append] at hst; simp at hst; have := hq.2; omega⟩))) ?_
    refine IM (show Imp _ (wdJ bo bt es stop (k + 1) :: _) from Imp.pkIn (⟨a8, c8, (y.ys ++ [(⟨e.lsn, e.epoch, e.n, e.h.1, e.h.2.1, e.h.2.2, y1.a, y1.c, y1.xs⟩ : EnX)])⟩ : EnS) sE1) ?_
    exact R1 rfl rfl ⟨true, rfl, rfl⟩

theorem walkedK (a : Option Addr) (n c : Nat) (l : List UInt8) (lsn lo hi stop : Int) (hs : n ≤ c ∧ n ≤ 1000000 ∧ 0 ≤ stop) : SpecS Try.prog 8 [.slice a n c, iv lsn, .agg #[iv lo, iv hi], iv stop] [bs a n l] (fun v H' => ∃ y : EnS, (y.ys.length ≤ y.c ∧ y.ys.map entV = stopE (walkE l lsn lo hi) stop) ∧ v = .slice y.a y.ys.length y.c ∧ H' = [ensA y.a y.ys]) := by
  refine EN Try.func8 rfl rfl fun o => ?_
  obtain ⟨es, hes⟩ : ∃ z, z = (walkE l lsn lo hi) := ⟨_, rfl⟩
  rw [← hes]
  refine FB (show Sel _ (bs a n l) _ from sE0) fun hln => ?_
  have hel : es.length ≤ n := by rw [hes]; exact Nat.le_trans walkE_len (by omega)
  refine Xp rfl (BX rfl fun b6 => ?_)
  refine B1 rfl fun b7 => ?_
  refine Xp rfl (AL fun b9 => ?_)
  refine Xp rfl (LA rfl ?_)
  refine DL1 rfl go20 (rwalkK a n c lsn lo hi) fun b13 => N4 ?_
  refine Xp rfl (SP (CS.imp (Imp.trans (Imp.fz (show Sel _ (blk b7 [iv stop] 3) _ from sE0)) (Imp.trans (Imp.ownNil 62 7) (Imp.trans (Imp.pure (p := fun w => ∀ q ∈ ([] : List EnX), entOk w q) (fun w y hy => by cases hy)) (Imp.trans (Imp.add (sh_any (show ([] : List EnX).map entV = es.take 0 ∧ ¬ (1 ≤ stop ∧ stop ≤ ((0 : Nat) : Int)) from ⟨rfl, by omega⟩))) (show Imp _ (wdJ b9 b7 es stop 0 :: _) from Imp.pkIn (⟨none, 0, []⟩ : EnS) sE1))))) (CS.callV rfl rfl rfl go42 ((show IterS Try.prog 42 _ [fz b13.p [iv ((n / 64 : Nat) : Int)] 3, fz b13.q [.slice a n c] 22, fz b13.r [iv lsn] 3, fz b13.s [iv lo, iv hi] 23, bs a n l] es.length (wkE es) by rw [hes]; exact rwalkI b13 a n c l lsn lo hi hs.1 (by omega)) (.func (.func 27) #[] #[pt b9, pt b7]) (wdJ b9 b7 es stop) (wdX b9 b7 es stop) fun k vs p hk ⟨e, y1, he, hw, h1, h2⟩ => by subst h1 h2; exact YSpec.ofFn go27 rfl (walked1K b9 b7 es stop k e y1 he hw (by omega) hs.2.2)) sE1)) ?_)
  rintro _ _ ⟨_, hq, rfl⟩
  refine IM (wd_end hq _) ?_
  refine OP (show Sel _ (wdF b9 b7 es stop) _ from sE0) fun y => N5 ?_
  refine FS (φ := y.ys.map entV = stopE es stop) sE0 fun hys => ?_
  refine FO (show Sel _ (own 62 7 y.a y.ys.length y.c (rowsC entC y.ys)) _ from sE0) fun hyo => ?_
  refine Xp rfl (LD rfl ?_)
  refine Xpf 3 rfl ?_
  refine IM (Imp.ensIn (show Sel _ (own 62 7 y.a y.ys.length y.c (rowsC entC y.ys)) _ from sE0) (show Sel _ (sh (fun w => ∀ q ∈ y.ys, entOk w q)) _ from sE0)) ?_
  exact R1 rfl rfl (⟨y, ⟨hyo.2, hys⟩, rfl, rfl⟩)

end Go.Proofs.Ytcedgodfmohleaa
/-
  The law: New.
-/
set_option linter.unusedVariables false
set_option linter.unusedSimpArgs false
set_option maxRecDepth 4000
namespace Go.Proofs.Ytcedgodfmohleaa
open Go Brv Brv.Image Brv.Dev Brv.Pack Brv.Frame Brv.Rec
theorem rnewK (d : Nat) (v : DevV) (s : Shp) (hs : s.ok ∧ s.fr + s.sg * s.sz ≤ (s.N : Int)) : SpecS Try.prog 10 [pt d, iv s.fr, iv s.sg, iv s.sz] [dvA d v s.N] (fun r H' => ∃ l, r = .tuple #[pt l, iv 0] ∧ H' = [blk l [pt d, iv s.fr, iv s.sg, iv s.sz, iv 0] 77, dvA d v s.N]) := by
  refine EN Try.func10 rfl rfl fun o => ?_
  obtain ⟨hok, hfit⟩ := hs
  unfold Shp.ok at hok
  refine FA (fun w9 F9 S9 s => (s.dv (show Sel _ (dvA d v _) _ from sE0))) fun hf9 => ?_
  have hwf := hf9; clear hf9
  have h4 := Int.mul_le_mul (show s.sg ≤ 64 by omega) (show s.sz ≤ 64 by omega) (by omega) (by omega)
  have h5 := Int.mul_nonneg (show 0 ≤ s.sg by omega) (show 0 ≤ s.sz by omega)
  have hln := hwf.1.len
  refine Xp rfl (CE rfl (rfl) ?_)
  refine Xp rfl (GE 16 rfl (decide_eq_false (by omega)) ?_)
  refine Xp rfl (GE 21 rfl (by rw [decide_eq_true (show 3 ≤ s.sg ∧ s.sg ≤ 64 from hok.2.1)]; rfl) ?_)
  refine Xp rfl (CE rfl (by rw [decide_eq_true (show 4 ≤ s.sz ∧ s.sz ≤ 64 from hok.2.2)]; rfl) ?_)
  refine Xp rfl ?_
  refine OP4 (show Sel _ (dvA d v s.N) _ from sE0) fun sa sc wa wc => N4 ?_
  refine DL0 rfl go29 (dsizeB _ _ _ _ _) (N1 ?_)
  refine IM (show Imp _ (dvA d v s.N :: _) from Imp.pkIn4 sa sc wa wc sE1) ?_
  refine Xp rfl (CE rfl (decide_eq_false (by omega)) ?_)
  refine Xp rfl (BU (l := [pt d, iv s.fr, iv s.sg, iv s.sz, iv 0]) rfl rfl ?_)
  refine BX rfl fun b40 => ?_
  refine Xp rfl (R2 rfl rfl rfl (⟨_, rfl, rfl⟩))

theorem first1K (b : Nat) (k : Nat) (cs : List Value) (p : World → Prop) (hk : k ≤ 1000000) : SpecS Try.prog 21 [.agg cs.toArray, pt b] [sh p, blk b [iv (k : Int)] 3] (fun v H' => ∃ q, v = .bool q ∧ H' = [if q then blk b [iv ((k + 1 : Nat) : Int)] 3 else sh (fun _ => False)]) := by
  refine EN Try.func21 rfl rfl fun o => ?_
  refine Xp rfl (BX rfl fun b2 => ?_)
  refine Xp rfl (LD rfl ?_)
  refine Xp rfl (ST rfl rfl ?_)
  refine Xp rfl (R1 rfl rfl (⟨true, rfl, rfl⟩))

theorem fin_end {b : Nat} {N : Nat} {K HI : List Asn} (hq : K = blk b [iv (N : Int)] 3 :: HI ∨ ∃ k, k ≤ N ∧ K = sh (fun _ => False) :: HI) (R : List Asn) : Imp (K ++ R) (blk b [iv (N : Int)] 3 :: (HI ++ R)) := by
  rcases hq with rfl | ⟨k, _, rfl⟩
  · exact Imp.refl _
  · exact fun F S w s => (s.sh (p := fun _ => False) .here).elim
end Go.Proofs.Ytcedgodfmohleaa
/-
  The law: what must be answered first, as plain values.
-/
set_option linter.unusedVariables false
set_option linter.unusedSimpArgs false
set_option maxRecDepth 4000
namespace Go.Proofs.Ytcedgodfmohleaa
open Go Brv Brv.Image Brv.Dev Brv.Pack Brv.Frame Brv.Rec
def s0 : Shp := ⟨40, 2, 3, 8⟩
theorem s0_ok : s0.ok := by unfold Shp.ok; decide
def rB (kd tl nu : Int) : List UInt8 := recB kd tl nu []
theorem ok_h {tl nu : Int} (h : okTN tl nu) : okR 1 tl nu [] := .inl ⟨rfl, h, rfl⟩
theorem ok_s : okR 2 0 0 [] := .inr (.inl ⟨rfl, ⟨rfl, rfl⟩, rfl⟩)
theorem ok_c : okR 3 1 1 [] := .inr (.inr ⟨rfl, by unfold okTN; omega, by decide, fun i x h => by cases h⟩)
theorem ok11 : okTN 1 1 := by unfold okTN; omega
theorem ok12 : okTN 1 2 := by unfold okTN; omega
def u1 : DevV := (writeV (newV 40) 40 2 (spreadN 0 1 (rB 1 1 1) 1)).1
def u2 : DevV := (writeV u1 40 3 (spreadN 1 1 (rB 3 1 1) 1)).1
def u3 : DevV := (flushV u2).1
def u4 : DevV := (writeV u3 40 4 (spreadN 2 1 (rB 2 0 0) 1)).1
def u5 : DevV := (writeV u4 40 10 (spreadN 8 1 (rB 1 1 2) 1)).1
theorem n1 : (writeV (newV 40) 40 2 (spreadN 0 1 (rB 1 1 1) 1)).2 = 0 := by decide +kernel
theorem n2 : (writeV u1 40 3 (spreadN 1 1 (rB 3 1 1) 1)).2 = 0 := by decide +kernel
theorem n3 : (flushV u2).2 = 0 := by decide +kernel
theorem n4 : (writeV u3 40 4 (spreadN 2 1 (rB 2 0 0) 1)).2 = 0 := by decide +kernel
theorem n5 : (writeV u4 40 10 (spreadN 8 1 (rB 1 1 2) 1)).2 = 0 := by decide +kernel
theorem c1 : u1.calls = 1 ∧ u1.wt.length = 1 := by decide +kernel
theorem c2 : u2.calls = 2 := by decide +kernel
theorem c3 : u3.calls = 3 ∧ u3.wt.length = 0 := by decide +kernel
theorem sec1 : secN (rB 1 1 1) = 1 ∧ secN (rB 3 1 1) = 1 ∧ secN (rB 2 0 0) = 1 ∧ secN (rB 1 1 2) = 1 := by decide +kernel
theorem wr_of {v : DevV} {lsn ep kd tl nu q : Int} (hok : okR kd tl nu []) (hs : secN (rB kd tl nu) = 1) (hq : secAt s0 lsn = q) : wrL s0 v lsn ep kd tl nu [] = ((writeV v 40 q (spreadN lsn ep (rB kd tl nu) 1)).1, lsn + 1, (writeV v 40 q (spreadN lsn ep (rB kd tl nu) 1)).2) := by
  unfold wrL
  rw [putR_yes hok, show recB kd tl nu [] = rB kd tl nu from rfl, hs, hq]
  rfl
theorem w1 : wrL s0 (newV 40) 0 1 1 1 1 [] = (u1, 1, 0) := by rw [wr_of (ok_h ok11) sec1.1 (q := 2) (by decide), n1]; rfl
theorem w2 : wrL s0 u1 1 1 3 1 1 [] = (u2, 2, 0) := by rw [wr_of ok_c sec1.2.1 (q := 3) (by decide), n2]; rfl
theorem w4 : wrL s0 u3 2 1 2 0 0 [] = (u4, 3, 0) := by rw [wr_of ok_s sec1.2.2.1 (q := 4) (by decide), n4]; rfl
theorem w5 : wrL s0 u4 8 1 1 1 2 [] = (u5, 9, 0) := by rw [wr_of (ok_h ok12) sec1.2.2.2 (q := 10) (by decide), n5]; rfl
theorem start1 : startL s0 (newV 40) 0 0 1 1 1 = (u1, 1, 0) := by
  unfold startL
  rw [if_pos ⟨⟨by decide, by decide⟩, ok_h ok11⟩, show (0 : Int) * s0.sz = 0 from rfl, w1]
  rfl
theorem secR1 : secR 3 1 1 [] = 1 := by rw [secR_yes ok_c, show recB 3 1 1 [] = rB 3 1 1 from rfl, sec1.2.1]; rfl
theorem room1 : roomL s0 1 3 1 1 [] 0 = 0 := by
  unfold roomL
  rw [if_pos ⟨⟨rfl, ok_c⟩, by decide⟩, secR1, if_neg (by decide), if_pos (by decide)]
theorem add1 : addL s0 u1 1 3 1 1 [] 1 0 = ((u2, 2), 1, 0) := by
  have ha : addT s0 u1 1 3 1 1 [] 1 0 = (u1, 1, 0) := by unfold addT; rw [secR1, if_pos (by decide)]
  unfold addL
  rw [room1, if_neg (by decide), if_neg (by decide), ha, if_neg (by decide), w2, if_neg (by decide)]
theorem flush1 : flushV u2 = (u3, 0) := Prod.ext rfl n3
theorem turn1 : turnT s0 u3 2 1 0 1 2 = ((u5, 9), 0) := by
  have hn : nextL s0 2 0 = (1, 0) := by decide
  have ht : turnL s0 u3 2 1 1 1 1 2 [] = (u5, 9, 0) := by unfold turnL; rw [w4, if_pos rfl, show (1 : Int) * s0.sz = 8 from rfl, w5]
  unfold turnT
  rw [if_pos ⟨⟨by decide, ok_h ok12⟩, by decide⟩, if_neg (by decide), hn, if_neg (by decide), ht, if_pos rfl]
def Lb : List UInt8 := (readV u3 40 2 8).1
theorem read1 : readV u3 40 2 8 = (Lb, 0) := Prod.ext rfl (by decide +kernel)
theorem Lb_len : Lb.length = 512 := by decide +kernel
def e0 : EntR := ⟨0, 1, 1, (1, 1, 1), []⟩
def e1 : EntR := ⟨1, 1, 1, (3, 1, 1), []⟩
theorem g00 : getF (sct Lb 0) = ((0, 1, 0, 1, rB 1 1 1), 0) := by decide +kernel
theorem g01 : gathP Lb 8 0 0 = (1, rB 1 1 1, 1, 0) := by decide +kernel
theorem g10 : getF (sct Lb 1) = ((1, 1, 0, 1, rB 3 1 1), 0) := by decide +kernel
theorem g11 : gathP Lb 8 1 1 = (1, rB 3 1 1, 1, 0) := by decide +kernel
theorem g20 : (getF (sct Lb 2)).2 ≠ 0 := by decide +kernel
theorem st0 : standsV Lb 8 0 = (e0, true) := by
  have hr : gR (rB 1 1 1) = ((1, 1, 1), [], 0) := gR_some (getR_recB (ok_h ok11))
  have hg : goodS Lb 8 0 := by
    unfold goodS
    rw [show 0 % 8 = 0 from rfl, show ((0 : Nat) : Int) = 0 from rfl, g00, g01, hr]
    exact ⟨rfl, rfl, rfl, ⟨fun _ => rfl, fun _ => rfl⟩, fun h => by cases h⟩
  rw [standsV_yes hg]
  unfold entS
  rw [show 0 % 8 = 0 from rfl, show ((0 : Nat) : Int) = 0 from rfl, g00, g01, hr]
  rfl
theorem st1 : standsV Lb 8 1 = (e1, true) := by
  have hr : gR (rB 3 1 1) = ((3, 1, 1), [], 0) := gR_some (getR_recB ok_c)
  have hg : goodS Lb 8 1 := by
    unfold goodS
    rw [show 1 % 8 = 1 from rfl, show ((1 : Nat) : Int) = 1 from rfl, g10, g11, hr]
    exact ⟨rfl, rfl, rfl, ⟨fun h => (by cases h), fun h => (by cases h)⟩, fun _ => by decide⟩
  rw [standsV_yes hg]
  unfold entS
  rw [show 1 % 8 = 1 from rfl, show ((1 : Nat) : Int) = 1 from rfl, g10, g11, hr]
  rfl
theorem st2 : (standsV Lb 8 2).2 = false := by
  rw [standsV_no (fun h => g20 h.1)]
theorem walk1 (hi : Int) (hh : 1 ≤ hi) : walkE Lb 0 0 hi = [e0, e1] := by
  unfold walkE
  rw [if_pos (by rw [Lb_len]; decide), Lb_len]
  show walkP Lb 8 hi 0 8 0 0 = _
  rw [walkP, st0, if_pos ⟨rfl, rfl, by decide, hh⟩]
  dsimp only
  rw [if_neg (by decide), show 0 + e0.n.toNat = 1 from rfl, walkP, st1, if_pos ⟨rfl, rfl, by decide, hh⟩]
  dsimp only
  rw [if_neg (by decide), show 1 + e1.n.toNat = 2 from rfl, walkP, if_neg (fun h => by rw [st2] at h; cases h.2.1)]
theorem open1 : openL s0 u3 2 0 1 = ([e0, e1], 2, 0) := by
  unfold openL
  rw [if_pos ⟨by decide, by decide⟩]
  show openN s0 u3 1 2 3 0 0 [] = _
  have hr : readV u3 s0.N (s0.fr + 0 / s0.sz % s0.sg * s0.sz) s0.sz = (Lb, 0) := read1
  rw [openN, hr, if_neg (by decide), walk1 1 (by decide), show turnedE [e0, e1] = false from rfl, if_neg (by decide)]
  rfl
end Go.Proofs.Ytcedgodfmohleaa
/-
  The law: what must be answered first.
-/
set_option linter.unusedVariables false
set_option linter.unusedSimpArgs false
set_option maxRecDepth 4000
namespace Go.Proofs.Ytcedgodfmohleaa
open Go Brv Brv.Image Brv.Dev Brv.Pack Brv.Frame Brv.Rec
theorem first_ok : SpecS Try.prog 5 [] [] (fun v H' => v = .bool true ∧ H' = []) := by
  refine EN Try.func5 rfl rfl fun o => ?_
  refine Xp rfl (CL1 rfl go9 (dnewK 40 (by decide)) fun d15 => N1 ?_)
  refine Xp rfl (CL1 rfl go10 (rnewK d15 (newV 40) s0 ⟨s0_ok, by decide⟩) fun l20 => N2 ?_)
  refine Xp rfl (GE 25 rfl (rfl) ?_)
  refine Xp rfl (CE rfl (decide_eq_false (by omega)) ?_)
  refine Xp rfl (CL0 rfl go11 (rstartK l20 d15 s0 0 (newV 40) 0 1 1 1 ⟨s0_ok, ⟨by decide, by decide⟩, by decide⟩) (N2 ?_))
  rw [start1]
  dsimp only
  have hc1 := c1
  have hc2 := c2
  have hc3 := c3
  refine Xp rfl (BU (l := [iv 3, iv 1, iv 1, .slice none 0 0]) rfl rfl ?_)
  refine AS rfl fun b6 => ?_
  refine Xp rfl (LA rfl ?_)
  refine IM (Imp.wsNil) ?_
  refine CL0 rfl go13 (raddK l20 d15 s0 1 u1 3 1 1 1 0 none 0 [] ⟨⟨s0_ok, by decide, by decide⟩, by decide, by omega, by omega⟩) (N2 ?_)
  rw [show addL s0 u1 1 3 1 1 (([] : List WrX).map wrV) 1 0 = ((u2, 2), 1, 0) from add1]
  dsimp only
  refine Xp rfl (CL0 rfl go12 (dflushK d15 u2 s0.N (by omega)) (N1 ?_))
  rw [flush1]
  dsimp only
  refine Xp rfl (CF1 rfl go18 (ropenK l20 d15 s0 2 u3 0 1 s0_ok) fun y42 h42 => N3 ?_)
  rw [open1] at h42 ⊢
  dsimp only at h42 ⊢
  have hyl : y42.ys.length = 2 := by have := congrArg List.length h42.2; simpa using this
  refine Xp rfl (AL fun b11 => ?_)
  refine ST rfl rfl ?_
  refine Xp rfl (CF2 rfl go19 (rsegK l20 d15 s0 2 u3 0 ⟨s0_ok, by decide⟩) fun a47 c47 h47 => N3 ?_)
  rw [show readV u3 s0.N (s0.fr + 0 % s0.sg * s0.sz) s0.sz = (Lb, 0) from read1] at h47 ⊢
  dsimp only at h47 ⊢
  refine IM (Imp.ownBs (show Sel _ (own 5 1 a47 _ c47 _) _ from sE0)) ?_
  have hLb := Lb_len
  refine Xp rfl (BU (l := [iv 0, iv 9]) rfl rfl ?_)
  refine DL1 rfl go20 (rwalkK a47 Lb.length c47 0 0 9) fun b52 => N4 ?_
  refine Xp rfl (SP (CS.callV rfl rfl rfl go42 ((show IterS Try.prog 42 _ [fz b52.p [iv ((Lb.length / 64 : Nat) : Int)] 3, fz b52.q [.slice a47 Lb.length c47] 22, fz b52.r [iv 0] 3, fz b52.s [iv 0, iv 9] 23, bs a47 Lb.length Lb] [e0, e1].length (wkE [e0, e1]) by rw [← walk1 9 (by decide)]; exact rwalkI b52 a47 Lb.length c47 Lb 0 0 9 h47 (by omega)) (.func (.func 21) #[] #[pt b11]) (fun k => blk b11 [iv (k : Int)] 3) (fun _ => sh (fun _ => False)) fun k vs p hk ⟨e, y1, he, hw, h1, h2⟩ => by subst h1 h2; exact YSpec.ofFn go21 rfl (first1K b11 k _ _ (Nat.le_trans (Nat.le_of_lt hk) (by decide)))) sE1) ?_)
  rintro _ _ ⟨_, hq, rfl⟩
  refine IM (fin_end hq _) ?_
  obtain ⟨z, hz⟩ : ∃ z, y42.ys[1]? = some z := ⟨_, List.getElem?_eq_getElem (by omega)⟩
  have hze : entV z = e1 := by have h8 := entV_at hz; rw [h42.2] at h8; exact (Option.some.inj h8).symm
  have hzl : z.lsn = 1 := congrArg EntR.lsn hze
  have hzn : z.nu = 1 := congrArg (fun x => x.h.2.2) hze
  refine FA (fun w9 F9 S9 s => rowsC_at (s.ens (show Sel _ (ensA y42.a y42.ys) _ from sE0)).1 hz (Nat.zero_lt_succ 6)) fun hf9 => ?_
  obtain ⟨q, hq2⟩ := hf9
  refine Xp rfl (GT 57 rfl (decide_eq_true (by rfl)) ?_)
  refine Xp rfl (GT 61 rfl (decide_eq_true (by rfl)) ?_)
  refine Xp rfl (GT 65 rfl (decide_eq_true (by rfl)) ?_)
  refine Xp rfl (GT 69 rfl (decide_eq_true (by rfl)) ?_)
  refine Xp rfl (GT 74 rfl (decide_eq_true (by omega)) ?_)
  refine Xp rfl (VL (fun w9 F9 S9 s => R.idx rfl rfl (by decide) (by omega) q hq2) ?_)
  refine VL (fun w9 F9 S9 s => R.fldA rfl) ?_
  refine VL (fun w9 F9 S9 s => R.ld rfl (v := iv z.lsn) (by have hcc := (s.ens (show Sel _ (ensA y42.a y42.ys) _ from sE0)).1; rw [hq2] at hcc; exact (rowsC_ld (s := 7) (fun _ _ => rfl) hcc hz).load (j := 0) rfl)) ?_
  refine Xp rfl (GT 81 rfl (decide_eq_true (by omega)) ?_)
  refine Xp rfl (VL (fun w9 F9 S9 s => R.idx rfl rfl (by decide) (by omega) q hq2) ?_)
  refine VL (fun w9 F9 S9 s => R.fldA rfl) ?_
  refine VL (fun w9 F9 S9 s => R.fldA rfl) ?_
  refine VL (fun w9 F9 S9 s => R.ld rfl (v := iv z.nu) (by have hcc := (s.ens (show Sel _ (ensA y42.a y42.ys) _ from sE0)).1; rw [hq2] at hcc; rw [add_add]; exact (rowsC_ld (s := 7) (fun _ _ => rfl) hcc hz).load (j := 5) rfl)) ?_
  refine Xp rfl (GT 89 rfl (decide_eq_true (by omega)) ?_)
  refine Xp rfl (CL0 rfl go17 (rendK l20 d15 s0 2) (N1 ?_))
  refine Xp rfl (GT 94 rfl (decide_eq_true (by rfl)) ?_)
  refine LD rfl ?_
  refine Xp rfl (GT 98 rfl (decide_eq_true (by rfl)) ?_)
  refine Xp rfl (CL0 rfl go22 (rturn2K l20 d15 s0 2 u3 1 0 1 2 ⟨⟨s0_ok, by decide, by decide⟩, by omega, by omega⟩) (N2 ?_))
  rw [turn1]
  dsimp only
  refine Xp rfl (GT 103 rfl (decide_eq_true (by rfl)) ?_)
  refine Xp rfl (CL0 rfl go23 (rfreshK l20 d15 s0 9 ⟨s0_ok, by decide, by decide⟩) (N1 ?_))
  refine Xp rfl (GT 107 rfl (decide_eq_true (by decide)) ?_)
  refine Xp rfl (CL0 rfl go17 (rendK l20 d15 s0 9) (N1 ?_))
  refine Xp rfl (R1 rfl rfl (⟨rfl, rfl⟩))

end Go.Proofs.Ytcedgodfmohleaa
/-
  The law RingWalks, walked.
-/
set_option linter.unusedVariables false
set_option linter.unusedSimpArgs false
set_option maxRecDepth 4000
namespace Go.Proofs.Ytcedgodfmohleaa
open Go Brv Brv.Pack Brv.Frame Brv.Rec
theorem endR_okR {h h' : Int × Int × Int} {ws ws' : List (Int × List UInt8)} {q : List UInt8} {e : Int} (k : endR h ws q e = some (h', ws')) : okR h'.1 h'.2.1 h'.2.2 ws' := by
  unfold endR at k
  split at k
  · rename_i hc; cases k; exact hc.2.2
  · cases k
theorem getR_okR {l : List UInt8} {h : Int × Int × Int} {ws : List (Int × List UInt8)} (k : getR l = some (h, ws)) : okR h.1 h.2.1 h.2.2 ws := by
  unfold getR at k
  split at k
  · split at k
    · cases k
    · exact endR_okR k
  · exact endR_okR k
theorem okR_len {kd tl nu : Int} {ws : List (Int × List UInt8)} (h : okR kd tl nu ws) : ws.length ≤ 64 := by
  rcases h with ⟨_, _, h⟩ | ⟨_, _, h⟩ | ⟨_, _, _, h⟩
  · omega
  · omega
  · exact okWs_len h
theorem walkE_ws {l : List UInt8} {lsn lo hi : Int} {e : EntR} (h : e ∈ walkE l lsn lo hi) : e.ws.length ≤ 64 := by
  obtain ⟨k, _, h1, h2, _⟩ := walkE_mem h
  have hg := stands_iff.1 h2
  rw [h1, standsV_yes hg]
  show (gR _).2.1.length ≤ 64
  have h3 := hg.2.2.1
  cases hq : getR (gathP l (l.length / 64) k (k % (l.length / 64))).2.1 with
  | none => rw [gR_none hq] at h3; cases h3
  | some p => obtain ⟨hh, ws⟩ := p; rw [gR_some hq]; exact okR_len (getR_okR hq)
theorem ens_take {w : World} {a : Option Addr} {ys : List EnX} (k : Nat) (h : Cells w a (rowsC entC ys)) : Cells w a (rowsC entC (ys.take k)) := fun j v hj => h j v (by
  rw [show rowsC entC ys = rowsC entC (ys.take k) ++ rowsC entC (ys.drop k) by rw [← rowsC_app, List.take_append_drop], List.getElem?_append_left (List.getElem?_eq_some_iff.1 hj).1]; exact hj)
theorem xs_le {ys : List EnX} {es : List EntR} (h : ys.map entV = es) (he : ∀ e ∈ es, e.ws.length ≤ 64) : ∀ y ∈ ys, y.xs.length ≤ 1000000000 := fun y hy => by
  have h1 := he (entV y) (by rw [← h]; exact List.mem_map_of_mem hy)
  have h2 : (y.xs.map wrV).length ≤ 64 := h1
  rw [List.length_map] at h2
  omega
theorem stop_zero (es : List EntR) : stopE es 0 = es := rfl
theorem stop_one (es : List EntR) : stopE es 1 = es.take 1 := rfl
theorem ringWalks_ok (a : Option Addr) (n c : Nat) (l : List UInt8) (lsn lo hi : Int) (hs : n ≤ c) : SpecS Try.prog 3 [.slice a n c, iv lsn, .agg #[iv lo, iv hi]] [bs a n l] (fun v H' => v = .bool true ∧ H' = []) := by
  refine EN Try.func3 rfl rfl fun o => ?_
  refine FB (show Sel _ (bs a n l) _ from sE0) fun hln => ?_
  obtain ⟨es, hes⟩ : ∃ z, z = (walkE l lsn lo hi) := ⟨_, rfl⟩
  have hws : ∀ e ∈ es, e.ws.length ≤ 64 := fun e he => by rw [hes] at he; exact walkE_ws he
  refine Xp rfl (BX rfl fun b5 => ?_)
  refine Xp rfl (CL0 rfl go5 (first_ok) (N0 ?_))
  refine Xp rfl (CE rfl (rfl) ?_)
  refine Xp rfl (CD rfl (fun h1 => ?_) (fun h1 => ?_))
  · refine Xp rfl (R1 rfl rfl (⟨rfl, rfl⟩))
  · refine Xp rfl (LA rfl ?_)
    refine DF1 rfl go6 (dwalkK a n c l lsn lo hi) fun y16 h16 => N1 ?_
    rw [← hes] at h16
    have hel : es.length ≤ n := by rw [hes]; exact Nat.le_trans walkE_len (by omega)
    have hl16 : y16.ys.length = es.length := by rw [← h16.2, List.length_map]
    refine Xpf 4 rfl ?_
    refine IM (show Imp _ (ensA y16.a (y16.ys.take 1) :: _) from Imp.weak (show Sel _ (ensA y16.a y16.ys) _ from sE0) (fun w h => ⟨ens_take 1 h.1, fun q hq => h.2 q (List.mem_of_mem_take hq)⟩)) ?_
    refine DR [3, 5, 10, 16] [0, 1, 2, 4, 3, 5, 6, 7, 8, 9, 11, 12, 13, 14, 15, 10, 16, 17, 18] ?_
    refine Xp rfl (VW (fun w9 F9 S9 s => R.ldBN rfl (s.cel sE2) (by rfl)) ?_)
    refine Xp rfl (SW' (CS.call rfl go8 (walkedK a n c l lsn lo hi 0 ⟨hs, by omega, by omega⟩) sE1) ?_)
    rintro _ _ ⟨_, ⟨y20, h20, rfl, rfl⟩, rfl⟩
    refine ⟨⟨OR, trivial⟩, N1 ?_⟩
    rw [← hes, stop_zero] at h20
    have hl20 : y20.ys.length = es.length := by rw [← h20.2, List.length_map]
    refine SW' (CS.call rfl go7 (dsameEK y20.a y20.c y20.ys y16.a y16.c y16.ys ⟨by omega, by omega, xs_le h20.2 hws, xs_le h16.2 hws⟩) sE1) ?_
    rintro _ _ ⟨_, ⟨rfl, rfl⟩, rfl⟩
    refine ⟨⟨OR, trivial⟩, N0 ?_⟩
    refine Xp rfl (GT 23 rfl (decide_eq_true (by rw [h20.2, h16.2])) ?_)
    refine Xp rfl (VW (fun w9 F9 S9 s => R.ldBN rfl (s.cel sE2) (by rfl)) ?_)
    refine Xp rfl (VP (fun w9 => R.min rfl rfl (min (y16.ys.length : Int) 1) (min_if _ _)) ?_)
    refine VP (fun w9 => R.slH rfl rfl (by omega) (by have := h16.1; omega)) ?_
    refine BE 32 rfl (show _ = Value.slice y16.a (y16.ys.take 1).length y16.c by rw [subA_zero, List.length_take]; congr 1; omega) ?_
    refine SW' (CS.call rfl go8 (walkedK a n c l lsn lo hi 1 ⟨hs, by omega, by omega⟩) sE1) ?_
    rintro _ _ ⟨_, ⟨y27, h27, rfl, rfl⟩, rfl⟩
    refine ⟨⟨OR, ⟨OR, trivial⟩⟩, N1 ?_⟩
    rw [← hes, stop_one] at h27
    have hl27 : y27.ys.length ≤ es.length := by have := congrArg List.length h27.2; rw [List.length_map, List.length_take] at this; omega
    refine SW' (CS.call rfl go7 (dsameEK y27.a y27.c y27.ys y16.a y16.c (y16.ys.take 1) ⟨by omega, by rw [List.length_take]; omega, xs_le h27.2 (fun e he => hws e (List.mem_of_mem_take he)), fun q hq => xs_le h16.2 hws q (List.mem_of_mem_take hq)⟩) sE1) ?_
    rintro _ _ ⟨_, ⟨rfl, rfl⟩, rfl⟩
    refine ⟨⟨OR, ⟨OR, trivial⟩⟩, N0 ?_⟩
    refine Xp rfl (R1 rfl rfl (⟨congrArg Value.bool (decide_eq_true (by rw [h27.2, List.map_take, h16.2])), rfl⟩))

end Go.Proofs.Ytcedgodfmohleaa
/-
  Arrays of two numbers, read.
-/
set_option linter.unusedVariables false
set_option linter.unusedSimpArgs false
set_option maxRecDepth 4000
namespace Go.Proofs.Ytcedgodfmohleaa
open Go Brv
theorem law_meets {P : Program} {f : FuncId} {vs : List Value} {a : Option Addr} {m : Nat} {l : List UInt8} {w : World} (c : SpecS P f vs [bs a m l] (fun v H' => v = .bool true ∧ H' = [])) (hb : Bs w a m l) : Meets P f vs w (fun v w' => v = .bool true ∧ Ext [] w w') :=
  (c.lend hb).mono fun v w' ⟨_, _, _, ⟨h1, _⟩, _, fr⟩ => ⟨h1, fr.ext⟩
theorem arrI2_of {P : Program} {w : World} {f T e : Nat} [TyInt P e .i64] (ht : P.underlying T = some (.array 2 e)) (hs : P.cellsOf e = 1) {cs : Array Value} (hz : cs.size = 2) (h : Rd P w f T cs.toList) : ∃ a b : Int, cs = #[.int .i64 a, .int .i64 b] := by
  obtain ⟨l⟩ := cs
  obtain ⟨x, y, rfl⟩ : ∃ x y, l = [x, y] := by
    match l, hz with
    | [x, y], _ => exact ⟨x, y, rfl⟩
  obtain ⟨f0, h0⟩ := Rd.arr ht hs h 0 (by decide)
  obtain ⟨f1, h1⟩ := Rd.arr ht hs h 1 (by decide)
  obtain ⟨a, ha, _⟩ := Rd.int (k := .i64) h0
  obtain ⟨b, hb, _⟩ := Rd.int (k := .i64) h1
  simp at ha hb
  exact ⟨a, b, by rw [ha, hb]⟩
end Go.Proofs.Ytcedgodfmohleaa
