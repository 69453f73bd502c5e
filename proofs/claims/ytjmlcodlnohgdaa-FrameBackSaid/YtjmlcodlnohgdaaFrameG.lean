/-
  The sectors of bytes, gathered.
-/
import Derived.Test.YtjmlcodlnohgdaaFrame6
set_option linter.unusedVariables false
namespace Go.Proofs.Ytjmlcodlnohgdaa
open Go Brv Brv.Crc Brv.Pack Brv.Frame
theorem gcut_ok (lsn : Int) (b2 b3 x : Nat) (a : Option Addr) (n c : Nat) (l : List UInt8) (N : Nat) (n0 : Int) (w : World) (hlsn : 0 ≤ lsn ∧ lsn ≤ 4611686018427387903) (hB2 : Blk w b2 #[.slice a n c] 28 (0, 0)) (hB3 : Blk w b3 #[.pointer (some ⟨x, 0, none⟩)] 114 (0, 0)) (hX : Blk w x #[.int .i64 n0] 3 (0, 0)) (hn0 : 0 ≤ n0 ∧ n0 ≤ 1000000) (hb : Bs w a n l) (hc : n ≤ c) (hn : n ≤ 1000000) (hne2 : b2 ≠ x) (hne3 : b3 ≠ x) (hax : ∀ p, a = some p → p.block ≠ x ∧ p.block < w.heap.size) (hN : (l.length + 63) / 64 = N) :
    Meets Try.prog 69 [.int .i64 lsn, .func (.func 109) #[] #[.pointer (some ⟨b2, 0, none⟩), .pointer (some ⟨b3, 0, none⟩)]] w (fun v w' => ∃ a' c', v = .tuple #[.slice a' (gathN lsn (secL l) N 0 0 0 []).2.1.length c', .int .i64 (gathN lsn (secL l) N 0 0 0 []).2.2.1, .int .i64 (gathN lsn (secL l) N 0 0 0 []).2.2.2] ∧ Ext [x] w w' ∧ Bs w' a' (gathN lsn (secL l) N 0 0 0 []).2.1.length (gathN lsn (secL l) N 0 0 0 []).2.1 ∧ (gathN lsn (secL l) N 0 0 0 []).2.1.length ≤ c' ∧ Blk w' x #[.int .i64 (n0 + (((gathN lsn (secL l) N 0 0 0 []).1 : Nat) : Int))] 3 (0, 0)) := by
  subst hN
  have hl := hb.len
  refine gather_ok lsn 109 [.pointer (some ⟨b2, 0, none⟩), .pointer (some ⟨b3, 0, none⟩)] _ (secL l) (ctr x n0) (cutF a b2 b3) [x] w hlsn go109 (fun w' e => cut_iter b2 b3 x a n c l n0 w' (hB2.ext0 e) (hB3.ext0 e) (hX.ext0 e) (hb.ext0 e) hc hn hn0 hne2 hne3 (fun p hp => (hax p hp).1)) (fun k W W' h hc => ctr_still x n0 k W W' h hc) (fun k W W' M' h he hm => Blk.ext h he (fun hx => hm _ hx (by simp))) ?_ (by omega) (fun k => by rw [secL_length]; omega)
  intro y hy
  rcases hy with hy | hy
  · unfold cutF at hy
    rcases List.mem_cons.1 hy with rfl | hy
    · exact hB2.lt
    rcases List.mem_cons.1 hy with rfl | hy
    · exact hB3.lt
    cases a with
    | none => simp at hy
    | some p => rw [List.mem_singleton] at hy; subst hy; exact (hax p rfl).2
  · rw [List.mem_singleton] at hy; subst hy; exact hX.lt

end Go.Proofs.Ytjmlcodlnohgdaa
