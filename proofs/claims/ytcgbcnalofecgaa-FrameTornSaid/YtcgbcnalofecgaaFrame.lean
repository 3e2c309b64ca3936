/- Frames: what the program's frame is, and what stands at the head of bytes: one word on lists. Conditions: bytes lie within their kind, texts aren't longer than memory bears. -/
import Derived.Test.YtcgbcnalofecgaaQ22
import Derived.Test.YtcgbcnalofecgaaQ17
import Derived.Test.YtcgbcnalofecgaaSum
namespace Go.Proofs.Ytcgbcnalofecgaa.Frame
open Go.RowKit Go.Proofs.Ytcgbcnalofecgaa.Q Go.Proofs.Ytcgbcnalofecgaa.Sum Go.Proofs.YtcgbcnalofecgaaW.PrintWords Go.Proofs.YtcgbcnalofecgaaW.PrintLast Go.Proofs.YtcgbcnalofecgaaW.PrintMore

def le4 (n : Int) : List Int := [n % 256, n / 256 % 256, n / 65536 % 256, n / 16777216 % 256]
theorem le4_len (n : Int) : (le4 n).length = 4 := rfl
theorem le4_bytes (n : Int) : Bytes (le4 n) := by
  intro x hx
  simp only [le4, List.mem_cons, List.not_mem_nil, or_false] at hx
  omega
theorem number_is (l : List Int) (n : Int) (h : l.length + 4 < 140737488355328) : frame_number.f l n = some (l ++ le4 n) := by
  unfold frame_number.f
  rw [Option.bind_some, if_pos (by simpa using h)]
  rfl
/-- A frame. -/
def fr (t : Tab) (b : List Int) : List Int := le4 b.length ++ (le4 (su t (le4 b.length ++ b)) ++ b)
theorem fr_len (t : Tab) (b : List Int) : (fr t b).length = 8 + b.length := by simp [fr, le4_len]; omega
theorem fr_bytes (t : Tab) {b : List Int} (h : Bytes b) : Bytes (fr t b) := (le4_bytes _).append ((le4_bytes _).append h)
theorem size_is {n : Int} (h0 : 0 ≤ n) (h1 : n ≤ 60000) : frame_Size.f n = some (8 + n) := by
  unfold frame_Size.f
  rw [if_neg (by omega), if_neg (by omega)]
  congr 1
  unfold wrap64
  omega
theorem Put_is (t : Tab) (l b : List Int) (hb : Bytes b) (hlen : b.length ≤ 60000) (hl : l.length ≤ 140737488000000) {k : Nat} (hk : b.length + 10 < k) : frame_Put.f k l t b = some (l ++ fr t b, 0) := by
  unfold frame_Put.f
  rw [size_is (by omega) (by omega), Option.bind_some, if_neg (by omega), show ((b.length : Int)) % 4294967296 = b.length by omega, number_is _ _ (by simp), Option.bind_some, List.nil_append, if_pos (by rw [le4_len]; omega)]
  rw [Of_is t (le4_bytes _) (by rw [le4_len]; omega) (by rw [le4_len]; omega), Option.bind_some, On_Of t hb (by omega) (by omega), Option.bind_some]
  rw [number_is _ _ (by rw [List.length_append, le4_len]; omega), Option.bind_some, if_pos (by simp only [List.length_append, le4_len]; omega)]
  simp only [fr, List.append_assoc]
theorem Put_long (t : Tab) (l b : List Int) (h : 60000 < b.length) (k : Nat) : frame_Put.f k l t b = some ([], 14) := by
  unfold frame_Put.f
  rw [show frame_Size.f (b.length : Int) = some 0 by unfold frame_Size.f; rw [if_neg (by omega), if_pos (by omega)], Option.bind_some, if_pos rfl]
/-- Four bytes, as a number. -/
def val4 (l : List Int) (a : Int) : Int := rd l a + 256 * rd l (a + 1) + 65536 * rd l (a + 2) + 16777216 * rd l (a + 3)
theorem val4_lt {l : List Int} (h : Bytes l) (a : Int) : 0 ≤ val4 l a ∧ val4 l a < 4294967296 := by
  have := h.rd a; have := h.rd (a + 1); have := h.rd (a + 2); have := h.rd (a + 3)
  unfold val4
  omega
theorem or_add {x y : Int} (i : Nat) (hx : 0 ≤ x ∧ x < 2 ^ i) (hy : 0 ≤ y) (h32 : 2 ^ i * y < 4294967296) (hx32 : x < 4294967296) : bits .or .u32 x (2 ^ i * y) = x + 2 ^ i * y := by
  have hp : (0 : Int) < 2 ^ i := Int.pow_pos (by decide)
  have hm : 0 ≤ 2 ^ i * y := Int.mul_nonneg (by omega) hy
  rw [u32_or x _ hx.1 hx32 hm h32]
  obtain ⟨a, rfl⟩ := Int.eq_ofNat_of_zero_le hx.1
  obtain ⟨b, rfl⟩ := Int.eq_ofNat_of_zero_le hy
  have e : (2 ^ i * (b : Int)) = ((2 ^ i * b : Nat) : Int) := by simp
  have ha : a < 2 ^ i := by
    have := hx.2
    have e2 : (2 : Int) ^ i = ((2 ^ i : Nat) : Int) := by simp
    omega
  rw [e]
  have := Nat.two_pow_add_eq_or_of_lt ha b
  rw [Nat.or_comm] at this
  rw [show ((a : Nat) : Int).toNat = a by omega, show ((2 ^ i * b : Nat) : Int).toNat = 2 ^ i * b by omega, ← this]
  omega
theorem numberAt_is {l : List Int} (h : Bytes l) {a : Int} (h0 : 0 ≤ a) (h1 : a + 3 < l.length) (hlen : l.length ≤ 140737488351232) : frame_numberAt.f l a = some (val4 l a) := by
  have r0 := h.rd a
  have r1 := h.rd (a + 1)
  have r2 := h.rd (a + 2)
  have r3 := h.rd (a + 3)
  have c1 : 0 ≤ a + 1 := by omega
  have c2 : 0 ≤ a + 2 := by omega
  have c3 : 0 ≤ a + 3 := by omega
  have d0 : a < (l.length : Int) := by omega
  have d1 : a + 1 < (l.length : Int) := by omega
  have d2 : a + 2 < (l.length : Int) := by omega
  have q0 : rd l a % 4294967296 = rd l a := by omega
  have q1 : rd l (a + 1) % 4294967296 * 256 % 4294967296 = 2 ^ 8 * rd l (a + 1) := by omega
  have q2 : rd l (a + 2) % 4294967296 * 65536 % 4294967296 = 2 ^ 16 * rd l (a + 2) := by omega
  have q3 : rd l (a + 3) % 4294967296 * 16777216 % 4294967296 = 2 ^ 24 * rd l (a + 3) := by omega
  have o1 := or_add (x := rd l a) (y := rd l (a + 1)) 8 (by omega) (by omega) (by omega) (by omega)
  have o2 := or_add (x := rd l a + 2 ^ 8 * rd l (a + 1)) (y := rd l (a + 2)) 16 (by omega) (by omega) (by omega) (by omega)
  have o3 := or_add (x := rd l a + 2 ^ 8 * rd l (a + 1) + 2 ^ 16 * rd l (a + 2)) (y := rd l (a + 3)) 24 (by omega) (by omega) (by omega) (by omega)
  have w1 : wrap64 (a + 1) = a + 1 := by clear o1 o2 o3 q0 q1 q2 q3; unfold wrap64; omega
  have w2 : wrap64 (a + 2) = a + 2 := by clear o1 o2 o3 q0 q1 q2 q3 w1; unfold wrap64; omega
  have w3 : wrap64 (a + 3) = a + 3 := by clear o1 o2 o3 q0 q1 q2 q3 w1 w2; unfold wrap64; omega
  unfold frame_numberAt.f
  rw [w1, w2, w3, if_pos h0, if_pos d0, if_pos c1, if_pos d1, if_pos c2, if_pos d2, if_pos c3, if_pos h1, q0, q1, q2, q3, o1, o2, o3]
  rfl
def body (left : List Int) : List Int := (left.take (8 + val4 left 0).toNat).drop 8
/-- The bytes of the frame at the head of these, if one is there. -/
def hd (t : Tab) (left : List Int) : Option (List Int) :=
  if 8 ≤ left.length ∧ val4 left 0 ≤ 60000 ∧ 8 + val4 left 0 ≤ left.length ∧ su t (left.take 4 ++ body left) = val4 left 4 then some (body left) else none
theorem body_len {left : List Int} (h0 : 0 ≤ val4 left 0) (h : 8 + val4 left 0 ≤ left.length) : ((body left).length : Int) = val4 left 0 := by
  unfold body
  rw [List.length_drop, List.length_take]
  omega
theorem Get_out (t : Tab) (l : List Int) (a : Int) (h : a < 0 ∨ (l.length : Int) < a) (k : Nat) : frame_Get.f (k + 1) l a t = some ([], 0, 2) := by
  unfold frame_Get.f
  by_cases h0 : a < 0
  · rw [if_pos h0]
    simp only [frame_Get.j0]
    rw [if_pos trivial]
  · rw [if_neg h0, decide_eq_true (by omega)]
    simp only [frame_Get.j0]
    rw [if_pos trivial]
theorem Get_is (t : Tab) {l : List Int} (hb : Bytes l) (hlen : l.length ≤ 140737488000000) {a : Int} (h0 : 0 ≤ a) (h1 : a ≤ l.length) {k : Nat} (hk : l.length + 60020 < k) :
    frame_Get.f k l a t = some (match hd t (l.drop a.toNat) with | some b => (b, a + 8 + b.length, 0) | none => ([], 0, 8)) := by
  obtain ⟨k, rfl⟩ : ∃ m, k = m + 2 := ⟨k - 2, by omega⟩
  have hl : (l.drop a.toNat).length ≤ l.length := by rw [List.length_drop]; omega
  have hld : Bytes (l.drop a.toNat) := hb.drop _
  unfold frame_Get.f
  rw [if_neg (by omega), decide_eq_false (by omega)]
  rw [frame_Get.j0, if_neg (by simp), if_pos h0, if_pos h1]
  generalize l.drop a.toNat = left at hl hld
  unfold hd
  by_cases h8 : (left.length : Int) < 8
  · rw [if_pos h8, if_neg (by omega)]
  · rw [if_neg h8, numberAt_is hld (by omega) (by omega) (by omega), Option.bind_some]
    have hv := val4_lt hld 0
    have hbl := body_len (left := left) hv.1
    by_cases hn : val4 left 0 > 60000
    · rw [if_pos hn, frame_Get.j1, if_pos rfl, if_neg (by omega)]
    · rw [if_neg hn, show wrap64 (val4 left 0) = val4 left 0 by unfold wrap64; omega, show wrap64 ((left.length : Int) - 8) = (left.length : Int) - 8 by unfold wrap64; omega]
      by_cases hr : val4 left 0 > (left.length : Int) - 8
      · rw [decide_eq_true hr, frame_Get.j1, if_pos rfl, if_neg (by omega)]
      · rw [decide_eq_false hr, frame_Get.j1, if_neg (by simp), show wrap64 (val4 left 0) = val4 left 0 by unfold wrap64; omega, show wrap64 (8 + val4 left 0) = 8 + val4 left 0 by unfold wrap64; omega]
        rw [if_pos (by omega), if_pos (by omega), if_pos (by omega)]
        have ht : (left.take 4).length ≤ 4 := by rw [List.length_take]; omega
        have hbb : Bytes (body left) := (hld.take _).drop 8
        have hbl2 : ((body left).length : Int) = val4 left 0 := hbl (by omega)
        have heq : (left.take (8 + val4 left 0).toNat).drop 8 = body left := rfl
        rw [heq, Of_is t (hld.take 4) (by omega) (by omega), Option.bind_some, On_Of t hbb (by omega) (by omega), Option.bind_some, numberAt_is hld (by omega) (by omega) (by omega), Option.bind_some]
        by_cases hs : su t (left.take 4 ++ body left) = val4 left 4
        · rw [if_pos hs, Option.bind_some, if_pos (by simp; omega), if_pos ⟨by omega, by omega, by omega, hs⟩, List.nil_append]
          congr 2
          rw [hbl2, show wrap64 (a + 8) = a + 8 by unfold wrap64; omega, show wrap64 (a + 8 + val4 left 0) = a + 8 + val4 left 0 by unfold wrap64; omega]
        · rw [if_neg hs, if_neg (fun c => hs c.2.2.2)]
theorem le4_val {a b c d : Int} (h0 : 0 ≤ a ∧ a < 256) (h1 : 0 ≤ b ∧ b < 256) (h2 : 0 ≤ c ∧ c < 256) (h3 : 0 ≤ d ∧ d < 256) : le4 (a + 256 * b + 65536 * c + 16777216 * d) = [a, b, c, d] := by
  unfold le4
  rw [show (a + 256 * b + 65536 * c + 16777216 * d) % 256 = a by omega, show (a + 256 * b + 65536 * c + 16777216 * d) / 256 % 256 = b by omega, show (a + 256 * b + 65536 * c + 16777216 * d) / 65536 % 256 = c by omega, show (a + 256 * b + 65536 * c + 16777216 * d) / 16777216 % 256 = d by omega]
theorem val4_le4 {n : Int} (h0 : 0 ≤ n) (h1 : n < 4294967296) (r : List Int) : val4 (le4 n ++ r) 0 = n := by
  show n % 256 + 256 * (n / 256 % 256) + 65536 * (n / 65536 % 256) + 16777216 * (n / 16777216 % 256) = n
  omega
theorem val4_le4' {m n : Int} (h0 : 0 ≤ n) (h1 : n < 4294967296) (r : List Int) : val4 (le4 m ++ (le4 n ++ r)) 4 = n := by
  show n % 256 + 256 * (n / 256 % 256) + 65536 * (n / 65536 % 256) + 16777216 * (n / 16777216 % 256) = n
  omega
theorem body_fr {n s : Int} {b r : List Int} (hn : n = b.length) (h1 : n < 4294967296) : body (le4 n ++ (le4 s ++ (b ++ r))) = b := by
  unfold body
  rw [val4_le4 (by omega) h1, show (8 + n).toNat = 8 + b.length by omega]
  have e : le4 n ++ (le4 s ++ (b ++ r)) = (le4 n ++ le4 s ++ b) ++ r := by simp
  have el : (le4 n ++ le4 s ++ b).length = 8 + b.length := by simp [le4_len]; omega
  rw [e, ← el, List.take_left]
  have e2 : (le4 n ++ le4 s).length = 8 := by simp [le4_len]
  rw [← e2, List.drop_left]
/-- What is framed stands there. -/
theorem hd_fr (t : Tab) {b : List Int} (r : List Int) (hlen : b.length ≤ 60000) : hd t (fr t b ++ r) = some b := by
  have hs := su_lt t (le4 b.length ++ b)
  have e : fr t b ++ r = le4 b.length ++ (le4 (su t (le4 b.length ++ b)) ++ (b ++ r)) := by simp [fr]
  rw [e]
  have hv : val4 (le4 b.length ++ (le4 (su t (le4 b.length ++ b)) ++ (b ++ r))) 0 = b.length := val4_le4 (by omega) (by omega) _
  have hb := body_fr (n := (b.length : Int)) (s := su t (le4 b.length ++ b)) (b := b) (r := r) rfl (by omega)
  unfold hd
  rw [hv, hb, val4_le4' hs.1 hs.2]
  rw [if_pos]
  refine ⟨by simp [le4_len]; omega, by omega, by simp [le4_len]; omega, ?_⟩
  rfl
/-- Bytes at the head of which a frame is found begin with that frame. -/
theorem hd_some (t : Tab) {left b : List Int} (hl : Bytes left) (h : hd t left = some b) : b.length ≤ 60000 ∧ ∃ r, left = fr t b ++ r := by
  unfold hd at h
  split at h
  · rename_i hc
    obtain ⟨h8, hn, hr, hs⟩ := hc
    have hbb := Option.some.inj h
    subst hbb
    have hv := val4_lt hl 0
    have hbl := body_len (left := left) hv.1 hr
    refine ⟨by omega, left.drop (8 + val4 left 0).toNat, ?_⟩
    match left, h8 with
    | a0 :: a1 :: a2 :: a3 :: b0 :: b1 :: b2 :: b3 :: rest, _ =>
      have f0 : le4 (body (a0 :: a1 :: a2 :: a3 :: b0 :: b1 :: b2 :: b3 :: rest)).length = [a0, a1, a2, a3] := by
        rw [hbl]
        exact le4_val (hl.rd 0) (hl.rd (0 + 1)) (hl.rd (0 + 2)) (hl.rd (0 + 3))
      have f1 : le4 (val4 (a0 :: a1 :: a2 :: a3 :: b0 :: b1 :: b2 :: b3 :: rest) 4) = [b0, b1, b2, b3] :=
        le4_val (hl.rd 4) (hl.rd (4 + 1)) (hl.rd (4 + 2)) (hl.rd (4 + 3))
      have hs' : su t ([a0, a1, a2, a3] ++ body (a0 :: a1 :: a2 :: a3 :: b0 :: b1 :: b2 :: b3 :: rest)) = val4 (a0 :: a1 :: a2 :: a3 :: b0 :: b1 :: b2 :: b3 :: rest) 4 := hs
      unfold fr
      rw [f0, hs', f1]
      obtain ⟨m, hm⟩ : ∃ m : Nat, (8 + val4 (a0 :: a1 :: a2 :: a3 :: b0 :: b1 :: b2 :: b3 :: rest) 0).toNat = m + 8 := ⟨(val4 (a0 :: a1 :: a2 :: a3 :: b0 :: b1 :: b2 :: b3 :: rest) 0).toNat, by omega⟩
      unfold body
      rw [hm]
      simp
  · exact absurd h (by simp)
theorem hd_short (t : Tab) {left : List Int} (h : left.length < 8) : hd t left = none := by
  unfold hd
  rw [if_neg (by omega)]
end Go.Proofs.Ytcgbcnalofecgaa.Frame
