/- All frames from the beginning of bytes on: one word on lists, and that the program and the document come to it; alike are the same lists. Conditions: bytes, not longer than memory bears. -/
import Derived.Test.YtcgbcnalofecgaaQ24
import Derived.Test.YtcgbcnalofecgaaQ27
import Derived.Test.YtcgbcnalofecgaaFrame
namespace Go.Proofs.Ytcgbcnalofecgaa.Frame
open Go.RowKit Go.Proofs.Ytcgbcnalofecgaa.Q Go.Proofs.Ytcgbcnalofecgaa.Sum Go.Proofs.YtcgbcnalofecgaaW.PrintWords Go.Proofs.YtcgbcnalofecgaaW.PrintLast Go.Proofs.YtcgbcnalofecgaaW.PrintMore

def sc (t : Tab) : Nat → List Int → List (List Int) × Nat
  | 0, _ => ([], 0)
  | d + 1, left => match hd t left with
    | some b => (b :: (sc t d (left.drop (8 + b.length))).1, 8 + b.length + (sc t d (left.drop (8 + b.length))).2)
    | none => ([], 0)
theorem hd_len (t : Tab) {left b : List Int} (hl : Bytes left) (h : hd t left = some b) : 8 + b.length ≤ left.length := by
  obtain ⟨_, r, rfl⟩ := hd_some t hl h
  rw [List.length_append, fr_len]
  omega
theorem Scan_loop (t : Tab) {l : List Int} (hb : Bytes l) (hlen : l.length ≤ 100000) : ∀ (d a : Nat) (acc : List (List Int)) (k : Nat), a ≤ l.length → l.length - a < d → l.length + 60020 + d < k → acc.length + (l.length - a) ≤ 100000 →
    frame_Scan.l0 k l acc a t = some (acc ++ (sc t d (l.drop a)).1, ((a + (sc t d (l.drop a)).2 : Nat) : Int)) := by
  intro d
  induction d with
  | zero => intro a acc k _ h; omega
  | succ d ih =>
    intro a acc k ha hd' hk hacc
    obtain ⟨k, rfl⟩ : ∃ m, k = m + 1 := ⟨k - 1, by omega⟩
    have hG := Get_is t hb (by omega) (a := (a : Int)) (by omega) (by omega) (k := k) (by omega)
    rw [show ((a : Nat) : Int).toNat = a by omega] at hG
    rw [frame_Scan.l0, hG, Option.bind_some]
    unfold sc
    cases hq : hd t (l.drop a) with
    | none =>
      dsimp only
      rw [if_neg (by omega), List.append_nil, Nat.add_zero]
    | some b =>
      have hl2 := hd_len t (hb.drop a) hq
      rw [List.length_drop] at hl2
      dsimp only
      rw [if_pos rfl, if_pos (by omega), show (a : Int) + 8 + (b.length : Int) = ((a + (8 + b.length) : Nat) : Int) by omega, ih (a + (8 + b.length)) (acc ++ [b]) k (by omega) (by omega) (by omega) (by rw [List.length_append, List.length_singleton]; omega), List.drop_drop]
      simp only [List.append_assoc, List.singleton_append, Nat.add_assoc]
theorem Scan_is (t : Tab) {l : List Int} (hb : Bytes l) (hlen : l.length ≤ 100000) {k d : Nat} (hd' : l.length < d) (hk : l.length + 60020 + d < k) : frame_Scan.f k l t = some ((sc t d l).1, (((sc t d l).2 : Nat) : Int)) := by
  have := Scan_loop t hb hlen d 0 [] k (by omega) (by omega) hk (by simp; omega)
  rw [List.drop_zero, List.nil_append, Nat.zero_add] at this
  exact this
theorem same_loop (L : List (List Int)) (hL : L.length ≤ 100000) : ∀ (d i k : Nat), i + d = L.length → d < k → punnetref07_Same.l0 k L L i = some true := by
  intro d
  induction d with
  | zero =>
    intro i k hi hk
    obtain ⟨k, rfl⟩ : ∃ m, k = m + 1 := ⟨k - 1, by omega⟩
    rw [punnetref07_Same.l0, if_neg (by omega)]
  | succ d ih =>
    intro i k hi hk
    obtain ⟨k, rfl⟩ : ∃ m, k = m + 1 := ⟨k - 1, by omega⟩
    rw [punnetref07_Same.l0, if_pos (by omega), if_pos (by omega), if_pos (by omega), if_pos rfl, show wrap64 ((i : Int) + 1) = ((i + 1 : Nat) : Int) by unfold wrap64; omega]
    exact ih (i + 1) k (by omega) (by omega)
theorem same_is (L : List (List Int)) (hL : L.length ≤ 100000) {k : Nat} (hk : L.length < k) : punnetref07_Same.f k L L = some true := by
  unfold punnetref07_Same.f
  rw [if_pos rfl]
  exact same_loop L hL L.length 0 k (by omega) hk
theorem sc_len (t : Tab) : ∀ (d : Nat) (left : List Int), Bytes left → (sc t d left).1.length ≤ left.length := by
  intro d
  induction d with
  | zero => intro left _; simp [sc]
  | succ d ih =>
    intro left h
    unfold sc
    cases hq : hd t left with
    | none => simp
    | some b =>
      have := hd_len t h hq
      have h2 := ih (left.drop (8 + b.length)) (h.drop _)
      rw [List.length_drop] at h2
      dsimp only
      rw [List.length_cons]
      omega
end Go.Proofs.Ytcgbcnalofecgaa.Frame
