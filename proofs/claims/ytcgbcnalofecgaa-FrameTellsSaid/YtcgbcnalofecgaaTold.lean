/- A frame of which some bits within 32 in a row are turned, of the sum's or of the bytes', is told. Conditions: as typed. -/
import Derived.Test.YtcgbcnalofecgaaFrame
import Derived.Test.YtcgbcnalofecgaaMade
namespace Go.Proofs.Ytcgbcnalofecgaa.Told
open Go.RowKit Go.Proofs.Ytcgbcnalofecgaa.Q Go.Proofs.Ytcgbcnalofecgaa.Sum Go.Proofs.Ytcgbcnalofecgaa.Made Go.Proofs.Ytcgbcnalofecgaa.Frame Go.Proofs.YtcgbcnalofecgaaW.PrintWords Go.Proofs.YtcgbcnalofecgaaW.PrintLast Go.Proofs.YtcgbcnalofecgaaW.PrintMore
open Crc (num)

theorem xor_add {k a : Nat} (h : a < 2 ^ k) (b : Nat) : a ^^^ 2 ^ k * b = 2 ^ k * b + a := by
  rw [Nat.two_pow_add_eq_or_of_lt h b]
  apply Nat.eq_of_testBit_eq; intro i
  rw [Nat.testBit_or, Nat.testBit_xor, Nat.testBit_two_pow_mul]
  by_cases hi : i < k
  · have : ¬ i ≥ k := by omega
    simp [this]
  · have ha : a.testBit i = false := Nat.testBit_lt_two_pow (Nat.lt_of_lt_of_le h (Nat.pow_le_pow_right (n := 2) (by decide) (by omega : k ≤ i)))
    simp [ha]
theorem split {k a b c d : Nat} (ha : a < 2 ^ k) (hc : c < 2 ^ k) (h : a ^^^ 2 ^ k * b = c ^^^ 2 ^ k * d) : a = c ∧ b = d := by
  rw [xor_add ha, xor_add hc] at h
  have hm := congrArg (· % 2 ^ k) h
  simp only [Nat.mul_add_mod, Nat.mod_eq_of_lt ha, Nat.mod_eq_of_lt hc] at hm
  subst hm
  have h2 : 2 ^ k * b = 2 ^ k * d := by omega
  exact ⟨rfl, Nat.eq_of_mul_eq_mul_left (Nat.two_pow_pos k) h2⟩
theorem num_lt {l : List Nat} (h : ∀ b ∈ l, b < 256) : num l < 2 ^ (8 * l.length) := by
  induction l with
  | nil => simp [num]
  | cons b l ih =>
    have h1 := ih (fun c hc => h c (by simp [hc]))
    have h2 := h b (by simp)
    simp only [num, List.length_cons]
    rw [show 8 * (l.length + 1) = 8 * l.length + 8 by omega, Nat.pow_add]
    omega
theorem num_append {l m : List Nat} (h : ∀ b ∈ l, b < 256) : num (l ++ m) = num l ^^^ 2 ^ (8 * l.length) * num m := by
  rw [xor_add (num_lt h)]
  induction l with
  | nil => simp [num]
  | cons b l ih =>
    have h1 := ih (fun c hc => h c (by simp [hc]))
    simp only [List.cons_append, num, List.length_cons, h1]
    rw [show 8 * (l.length + 1) = 8 * l.length + 8 by omega, Nat.pow_add, Nat.mul_right_comm]
    omega
theorem num_inj : ∀ (l m : List Nat), l.length = m.length → (∀ b ∈ l, b < 256) → (∀ b ∈ m, b < 256) → num l = num m → l = m
  | [], [], _, _, _, _ => rfl
  | [], _ :: _, h, _, _, _ => by simp at h
  | _ :: _, [], h, _, _, _ => by simp at h
  | b :: l, c :: m, h, hl, hm, e => by
    have hb := hl b (by simp)
    have hc := hm c (by simp)
    simp only [num] at e
    have := num_inj l m (by simpa using h) (fun x hx => hl x (by simp [hx])) (fun x hx => hm x (by simp [hx])) (by omega)
    subst this
    congr 1
    omega
theorem nats_append (l m : List Int) : nats (l ++ m) = nats l ++ nats m := by simp [nats]
theorem nats_inj {l m : List Int} (hl : Bytes l) (hm : Bytes m) (h : nats l = nats m) : l = m := by
  have h1 := congrArg (List.map fun n : Nat => (n : Int)) h
  have e : ∀ x : List Int, Bytes x → (nats x).map (fun n : Nat => (n : Int)) = x := by
    intro x hx
    unfold nats
    rw [List.map_map]
    conv => rhs; rw [← List.map_id x]
    apply List.map_congr_left
    intro y hy
    have := hx y hy
    simp only [Function.comp_apply, id]
    omega
  rwa [e l hl, e m hm] at h1
theorem bytes_inj {l m : List Int} (hl : Bytes l) (hm : Bytes m) (hlen : l.length = m.length) (h : num (nats l) = num (nats m)) : l = m :=
  nats_inj hl hm (num_inj _ _ (by rw [nats_len, nats_len, hlen]) (nats_lt hl) (nats_lt hm) h)
/-- Two texts that differ behind a place alone. -/
theorem behind {A B m n : List Int} (hA : Bytes A) (hB : Bytes B) (hlen : A.length = B.length) (f w : Nat) (h : num (nats (A ++ m)) = num (nats (B ++ n)) ^^^ 2 ^ (8 * B.length + f) * w) :
    A = B ∧ num (nats m) = num (nats n) ^^^ 2 ^ f * w := by
  rw [nats_append, nats_append, num_append (nats_lt hA), num_append (nats_lt hB), nats_len, nats_len, hlen, Nat.pow_add, Nat.mul_assoc, Nat.xor_assoc, ← Crc.shift_xor] at h
  have la := num_lt (nats_lt hA)
  have lb := num_lt (nats_lt hB)
  rw [nats_len, hlen] at la
  rw [nats_len] at lb
  obtain ⟨h1, h2⟩ := split la lb h
  exact ⟨bytes_inj hA hB hlen h1, h2⟩
theorem behind4 {a b : Int} {m n : List Int} (f w : Nat) (h : num (nats (le4 a ++ m)) = num (nats (le4 b ++ n)) ^^^ 2 ^ (32 + f) * w) : le4 a = le4 b ∧ num (nats m) = num (nats n) ^^^ 2 ^ f * w := by
  refine behind (le4_bytes a) (le4_bytes b) (by rw [le4_len, le4_len]) f w ?_
  rw [le4_len]
  exact h
theorem le4_inj {a b : Int} (ha : 0 ≤ a ∧ a < 4294967296) (hb : 0 ≤ b ∧ b < 4294967296) (h : le4 a = le4 b) : a = b := by
  have h1 := val4_le4 ha.1 ha.2 []
  have h2 := val4_le4 hb.1 hb.2 []
  rw [h] at h1
  omega
def base_ok (base room : Nat) : Prop := base + room ≤ 64
theorem told {b x : List Int} (hb : Bytes b) (hlen : b.length ≤ 60000) (base room tn : Nat) (same : Bool) (h : Turned (fr madeTab b) x base room tn 32 same)
    (hr : base + room ≤ 8 * (8 + b.length)) (hp : 64 ≤ base ∨ (32 ≤ base ∧ base + room ≤ 64)) : hd madeTab x = if same then some b else none := by
  have hfb := fr_bytes madeTab hb
  have hfl := fr_len madeTab b
  have hw : Crc.part tn 32 room < 4294967296 := part_lt tn 32 room
  have hwr : Crc.part tn 32 room < 2 ^ room := by
    unfold Crc.part
    exact Nat.lt_of_lt_of_le (Nat.mod_lt _ (Nat.two_pow_pos _)) (Nat.pow_le_pow_right (by decide) (by omega))
  have hnum := h.num
  have hsame := h.same
  have hxb := h.bytes
  have hxl := h.len
  clear h
  generalize Crc.part tn 32 room = w at hw hwr hnum hsame
  by_cases hw0 : w = 0
  · subst hw0
    rw [hsame, decide_eq_true rfl, if_pos rfl]
    rw [Nat.mul_zero, Nat.xor_zero] at hnum
    have hx := bytes_inj hxb hfb hxl hnum
    have := hd_fr madeTab (b := b) [] hlen
    rwa [List.append_nil, ← hx] at this
  · rw [hsame, decide_eq_false hw0, if_neg (by simp)]
    cases hq : hd madeTab x with
    | none => rfl
    | some b' =>
      exfalso
      apply hw0
      obtain ⟨hl', r, hx⟩ := hd_some madeTab hxb hq
      have hb'r : Bytes (fr madeTab b' ++ r) := by rw [← hx]; exact hxb
      have hb' : Bytes b' := fun y hy => hb'r y (List.mem_append_left _ (List.mem_append_right _ (List.mem_append_right _ hy)))
      have hlr : (fr madeTab b' ++ r).length = 8 + b.length := by rw [← hx, hxl, hfl]
      rw [List.length_append, fr_len] at hlr
      have hs := su_lt madeTab (le4 b.length ++ b)
      have hs' := su_lt madeTab (le4 b'.length ++ b')
      obtain ⟨f, rfl⟩ : ∃ f, base = 32 + f := ⟨base - 32, by omega⟩
      have e1 : fr madeTab b' ++ r = le4 b'.length ++ (le4 (su madeTab (le4 b'.length ++ b')) ++ (b' ++ r)) := by simp [fr]
      rw [hx, e1] at hnum
      obtain ⟨q1, q2⟩ := behind4 f w hnum
      have hbl : (b'.length : Int) = b.length := le4_inj (by omega) (by omega) q1
      have hr0 : r = [] := List.eq_nil_of_length_eq_zero (by omega)
      subst hr0
      rw [List.append_nil] at q2
      have hll : b'.length = b.length := by omega
      by_cases h64 : 64 ≤ 32 + f
      · obtain ⟨g, rfl⟩ : ∃ g, f = 32 + g := ⟨f - 32, by omega⟩
        obtain ⟨q3, q4⟩ := behind4 g w q2
        have hss := le4_inj hs' hs q3
        rw [hll] at hss
        refine (su_eq_iff ((le4_bytes b.length).append hb) ((le4_bytes b.length).append hb') (by simp [hll]) (32 + g) w hw ?_ ?_).1 hss
        · rw [List.length_append, le4_len]; omega
        · rw [nats_append, nats_append, num_append (nats_lt (le4_bytes _)), num_append (nats_lt (le4_bytes _)), q4, nats_len, le4_len, Crc.shift_xor, ← Nat.xor_assoc, ← Nat.mul_assoc, ← Nat.pow_add]
      · have h64' : base_ok (32 + f) room := by
          rcases hp with hp | hp
          · exact absurd hp h64
          · exact hp.2
        have hfw : 2 ^ f * w < 2 ^ 32 := by
          have h1 : 2 ^ f * w < 2 ^ f * 2 ^ room := Nat.mul_lt_mul_of_pos_left hwr (Nat.two_pow_pos f)
          rw [← Nat.pow_add] at h1
          unfold base_ok at h64'
          exact Nat.lt_of_lt_of_le h1 (Nat.pow_le_pow_right (by decide) (by omega))
        rw [nats_append, nats_append, num_append (nats_lt (le4_bytes _)), num_append (nats_lt (le4_bytes _)), nats_len, nats_len, le4_len, le4_len] at q2
        have q5 : num (nats (le4 (su madeTab (le4 b'.length ++ b')))) ^^^ 2 ^ (8 * 4) * num (nats b') = (num (nats (le4 (su madeTab (le4 b.length ++ b)))) ^^^ 2 ^ f * w) ^^^ 2 ^ (8 * 4) * num (nats b) := by
          rw [q2, Nat.xor_assoc, Nat.xor_assoc, Nat.xor_comm (2 ^ (8 * 4) * num (nats b))]
        have la := num_lt (nats_lt (le4_bytes (su madeTab (le4 b'.length ++ b'))))
        have lb := num_lt (nats_lt (le4_bytes (su madeTab (le4 b.length ++ b))))
        rw [nats_len, le4_len] at la lb
        obtain ⟨_, q6⟩ := split la (Nat.xor_lt_two_pow lb hfw) q5
        have hbb := bytes_inj hb' hb hll q6
        rw [hbb] at q2
        have q7 := congrArg (num (nats (le4 (su madeTab (le4 b.length ++ b)))) ^^^ 2 ^ (8 * 4) * num (nats b) ^^^ ·) q2
        simp only [← Nat.xor_assoc, Nat.xor_self, Nat.zero_xor] at q7
        rcases Nat.mul_eq_zero.1 q7.symm with q8 | q8
        · exact absurd q8 (by have := Nat.two_pow_pos f; omega)
        · exact q8
end Go.Proofs.Ytcgbcnalofecgaa.Told
