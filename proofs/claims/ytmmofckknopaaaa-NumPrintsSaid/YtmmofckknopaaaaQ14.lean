/- A function of the program or a law's row comes to what the Lean function beside it says; no condition beyond those typed. Written by a program of this workplace; Lean checks it. -/
import Derived.Test.YtmmofckknopaaaaQ0
namespace Go.Proofs.Ytmmofckknopaaaa.Q
open Go.RowKit Go.Proofs.YtmmofckknopaaaaW.PrintWords Go.Proofs.YtmmofckknopaaaaW.PrintLast Go.Proofs.YtmmofckknopaaaaW.PrintMore
attribute [local go_sem] max2_int min2_int max_two min_two max_three min_three max_four min_four   -- for this text's walks alone
set_option linter.unusedVariables false
set_option linter.unusedSimpArgs false

/-! ### num_Print: function 19 -/
/-- Digits of a number, as bytes. -/
def dg (n : Nat) : List Int := if n < 10 then [(48 + n : Int)] else dg (n / 10) ++ [(48 + (n % 10 : Nat) : Int)]
termination_by n
theorem dg_small {n : Nat} (h : n < 10) : dg n = [(48 + n : Int)] := by rw [dg, if_pos h]
theorem dg_big {n : Nat} (h : ¬ n < 10) : dg n = dg (n / 10) ++ [(48 + (n % 10 : Nat) : Int)] := by rw [dg, if_neg h]
theorem dg_len (m : Nat) : ∀ n, n < 10 ^ (m + 1) → 1 ≤ (dg n).length ∧ (dg n).length ≤ m + 1 := by
  induction m with
  | zero => intro n h; rw [dg_small (by omega)]; simp
  | succ m ih =>
    intro n h
    by_cases hn : n < 10
    · rw [dg_small hn]; simp
    · rw [dg_big hn]
      have := ih (n / 10) (by rw [Nat.pow_succ] at h; omega)
      simp; omega
/-- The last bytes of a block of 20 are these. -/
structure Buf20 (W : World) (b : Nat) (i : Int) (ds : List Int) : Prop where
  mk :: (out : ∃ cs : Array Value, W.heap[b]? = some (.cells cs 56 (0, 0)) ∧ cs.size = 20 ∧ 0 ≤ i ∧ i + ds.length = 20 ∧ ∀ j, j < ds.length → cs[i.toNat + j]? = some (.int .u8 (ds.getD j 0)))
theorem Buf20.cell {W : World} {b : Nat} {i : Int} {ds : List Int} (h : Buf20 W b i ds) (h1 : 1 ≤ i) : ∃ v, W.cell? ⟨b, i.toNat - 1, none⟩ = some v := by
  obtain ⟨cs, hb, hs, h0, hl, _⟩ := h.out
  exact ⟨cs[i.toNat - 1]'(by omega), by rw [cell_of_row W b _ cs 56 (0, 0) hb]; exact Array.getElem?_eq_getElem (by omega)⟩
theorem Buf20.frozen {W : World} {b : Nat} {i : Int} {ds : List Int} (h : Buf20 W b i ds) (k : Nat) : W.frozen? ⟨b, k, none⟩ = false := by
  obtain ⟨cs, hb, _⟩ := h.out
  exact frozen_of_row W b k cs 56 hb
theorem Buf20.put {W : World} {b : Nat} {i : Int} {ds : List Int} (h : Buf20 W b i ds) (h1 : 1 ≤ i) (d : Int) : Buf20 (W.setCell ⟨b, i.toNat - 1, none⟩ (.int .u8 d)) b (i - 1) (d :: ds) := by
  obtain ⟨cs, hb, hs, h0, hl, hc⟩ := h.out
  refine ⟨⟨_, heap_setCell_same W b _ cs 56 _ hb, by simpa using hs, by omega, by simp only [List.length_cons]; omega, ?_⟩⟩
  intro j hj
  have e : (i - 1).toNat = i.toNat - 1 := by omega
  rw [e]
  cases j with
  | zero =>
    rw [Nat.add_zero, Array.getElem?_setIfInBounds_self_of_lt (by omega)]
    rfl
  | succ j =>
    simp only [List.length_cons] at hj
    rw [Array.getElem?_setIfInBounds_ne (by omega), show i.toNat - 1 + (j + 1) = i.toNat + j by omega, hc j (by omega)]
    rfl
theorem Buf20.string {W : World} {b : Nat} {i : Int} {ds : List Int} (h : Buf20 W b i ds) (n c : Nat) (hn : n = ds.length) : (convert 29 9 (.slice (some ⟨b, i.toNat, none⟩) n c)).run Try.prog W = .ok (.string (strOfNums ds)) W := by
  obtain ⟨cs, hb, hs, h0, hl, hc⟩ := h.out
  exact run_convert_bytes_arg W 29 5 Try.underlying29 Try.underlying5 b i.toNat n c ds hn.symm (fun k hk => by rw [cell_of_row W b _ cs 56 (0, 0) hb]; exact hc k (by omega)) 9 Try.underlying9
theorem slice20 (b : Nat) (i : Int) (h1 : 1 ≤ i) (h2 : i ≤ 20) (W : World) : (Instr.sliceAt 56 (.pointer (some ⟨b, 0, none⟩)) (some (.int .i64 (i - 1))) none none).run Try.prog W = .ok (.slice (some ⟨b, i.toNat - 1, none⟩) (21 - i.toNat) (21 - i.toNat)) W := by
  have hl : Try.prog.arrayLen 56 = 20 := by kernel_rfl
  have ht : Try.prog.underlying 56 = some (.array (Try.prog.arrayLen 56) (Try.prog.elem 56)) := by kernel_rfl
  have hs : ∀ W, (sizeOf (Try.prog.elem 56)).run Try.prog W = .ok 1 W := fun W => by kernel_rfl
  rw [run_sliceAt_array_l W 56 _ ht .i64 (i - 1) (by omega) (by rw [hl]; omega), hs]
  simp only [Result.andThen_ok, slicedAt, hl]
  rw [if_neg (by omega)]
  have e : (⟨b, 0, none⟩ : Addr).add ((i - 1).toNat * 1) = ⟨b, i.toNat - 1, none⟩ := by
    rw [add_plain]; congr 1; omega
  rw [e, show 20 - (i - 1).toNat = 21 - i.toNat by omega]
/-- What a number is printed as; a number beyond its kind is none. -/
def num_Print.f (a0 : Int) : Option ByteArray := if -9223372036854775808 ≤ a0 ∧ a0 ≤ 9223372036854775807 then some (if a0 < 0 then (⟨#[45]⟩ : ByteArray) ++ strOfNums (dg a0.natAbs) else strOfNums (dg a0.natAbs)) else none
set_option maxHeartbeats 2000000 in
set_option maxRecDepth 100000 in
theorem num_Print.calls_pos (a0 : Int) (w : World) (h0 : 0 ≤ a0) (h1 : a0 ≤ 9223372036854775807) :
    Calls Try.prog 19 #[.int .i64 a0] w fun e w' => e = .returned (.string (strOfNums (dg a0.natAbs))) ∧ Below w.heap.size w w' := by
  have c0 : decide (a0 < 0) = false := decide_eq_false (by omega)
  go_enter Try.func19, Try.ntmps19
  go_wp2
  refine wp_scope_sem 0 rfl ?_
  intro JS hJS
  go_wp2
  go_step3
  rename_i hKS
  refine hKS _ _ ?_
  clear hKS
  refine hJS.out (fun kq a' w' => ∃ (zf1 zf2 zf6 zf7 zf8 zf9 zf10 zf11 zf12 zf13 zf14 zf15 zf16 zf17 zf18 zf19 zf20 zf21 zf22 zf23 zf24 zf25 zf26 zf27 zf28 zf29 zf30 zf31 zf32 : Value) (i m : Int) (ds : List Int),
    a' = { tmps := List.toArray (.int .i64 a0 :: zf1 :: zf2 :: .int .u64 m :: .pointer (some ⟨w.heap.size, 0, none⟩) :: .int .i64 i :: zf6 :: zf7 :: zf8 :: zf9 :: zf10 :: zf11 :: zf12 :: zf13 :: zf14 :: zf15 :: zf16 :: zf17 :: zf18 :: zf19 :: zf20 :: zf21 :: zf22 :: zf23 :: zf24 :: zf25 :: zf26 :: zf27 :: zf28 :: zf29 :: zf30 :: zf31 :: zf32 :: []), defers := [] } ∧
    Aside0 (m = kq) ∧ 1 ≤ i ∧ i ≤ 20 ∧ Aside0 ((dg kq).length ≤ i) ∧ (kq : Int) ≤ 9223372036854775808 ∧ Aside0 (Buf20 w' w.heap.size i ds) ∧ Aside0 (dg kq ++ ds = dg a0.natAbs) ∧ Aside0 (Below w.heap.size w w')) ?round a0.natAbs _ _ ?atStart
  case atStart =>
    have e : (a0 : Int) = (a0.natAbs : Int) := by omega
    refine ⟨_, _, _, _, _, _, _, _, _, _, _, _, _, _, _, _, _, _, _, _, _, _, _, _, _, _, _, _, _, 20, _, [], rfl, ⟨e⟩, by omega, by omega, ⟨?_⟩, by omega, ⟨⟨_, heap_alloc_new w _, by rfl, by omega, by simp, fun j hj => absurd hj (by simp)⟩⟩, ⟨List.append_nil _⟩, ⟨below_alloc (Below.refl _ _) _⟩⟩
    · have := (dg_len 19 a0.natAbs (by show _ < 100000000000000000000; omega)).2
      omega
  case round =>
    clear hJS
    intro gk a' wr hrel JN KN hIJ hJK
    obtain ⟨zf1, zf2, zf6, zf7, zf8, zf9, zf10, zf11, zf12, zf13, zf14, zf15, zf16, zf17, zf18, zf19, zf20, zf21, zf22, zf23, zf24, zf25, zf26, zf27, zf28, zf29, zf30, zf31, zf32, i, m, ds, rfl, HM, hi1, hi2, HL, hgk, HBuf, HD, HB⟩ := hrel
    obtain rfl := HM.out
    clear HM
    obtain ⟨v, hv⟩ := HBuf.out.cell hi1
    have hf := HBuf.out.frozen (i.toNat - 1)
    by_cases hq : 0 < gk / 10
    · have hq1 : decide ((0 : Int) < (gk : Int) / 10) = true := decide_eq_true (by omega)
      go_wp2
      go_step3
      have e : ((gk : Int) / 10) = ((gk / 10 : Nat) : Int) := by omega
      refine ⟨rfl, hJK _ _ (Handed.intro (gk / 10) (by omega) (hIJ _ _ _ ?_))⟩
      have hb : dg gk = dg (gk / 10) ++ [(48 + (gk % 10 : Nat) : Int)] := dg_big (by omega)
      have e2 : (48 + (gk : Int) % 10) = (48 + (gk % 10 : Nat) : Int) := by omega
      refine ⟨_, _, _, _, _, _, _, _, _, _, _, _, _, _, _, _, _, _, _, _, _, _, _, _, _, _, _, _, _, i - 1, _, (48 + (gk : Int) % 10) :: ds, rfl, ⟨e⟩, ?_, by omega, ⟨?_⟩, by omega, ⟨HBuf.out.put hi1 _⟩, ⟨?_⟩, ⟨Below.setCell HB.out (Nat.le_refl _) _⟩⟩
      · have h1 := HL.out
        rw [hb, List.length_append] at h1
        have := (dg_len 19 (gk / 10) (by show _ < 100000000000000000000; omega)).1
        simp at h1; omega
      · have h1 := HL.out
        rw [hb, List.length_append] at h1
        simp at h1; omega
      · have h1 := HD.out
        rw [hb] at h1
        rw [e2, ← h1]; simp
    · have hq1 : decide ((0 : Int) < (gk : Int) / 10) = false := decide_eq_false (by omega)
      have hsl := slice20 w.heap.size i hi1 hi2
      have hbuf2 := HBuf.out.put hi1 (48 + (gk : Int) % 10)
      have hlen : i + ds.length = 20 := by obtain ⟨_, _, _, _, h, _⟩ := HBuf.out.out; exact h
      have hcv := hbuf2.string (21 - i.toNat) (21 - i.toNat) (by simp only [List.length_cons]; omega)
      rw [show (i - 1).toNat = i.toNat - 1 by omega] at hcv
      have hd1 : dg gk = [(48 + (gk : Int) % 10)] := by rw [dg_small (by omega)]; congr 1; omega
      have hd2 := HD.out
      rw [hd1, List.singleton_append] at hd2
      rw [hd2] at hcv
      have HD2 := Aside0.mk hd2
      have HL2 := Aside0.mk hlen
      have HW := Aside0.mk (Below.setCell HB.out (Nat.le_refl _) (.int .u8 (48 + (gk : Int) % 10)) (p := ⟨w.heap.size, i.toNat - 1, none⟩))
      clear hbuf2 hd1 hd2 hlen
      go_wp2
      try simp only [Exit.jump]
      go_ret
      exact ⟨by first | rfl | (simp; done) | (simp [*]; done), HW.out⟩
set_option maxHeartbeats 2000000 in
set_option maxRecDepth 100000 in
theorem num_Print.calls_neg (a0 : Int) (w : World) (h0 : -9223372036854775808 ≤ a0) (h1 : a0 < 0) :
    Calls Try.prog 19 #[.int .i64 a0] w fun e w' => e = .returned (.string ((⟨#[45]⟩ : ByteArray) ++ strOfNums (dg a0.natAbs))) ∧ Below w.heap.size w w' := by
  have c0 : decide (a0 < 0) = true := decide_eq_true (by omega)
  go_enter Try.func19, Try.ntmps19
  go_wp2
  refine wp_scope_sem 0 rfl ?_
  intro JS hJS
  go_wp2
  go_step3
  rename_i hKS
  refine hKS _ _ ?_
  clear hKS
  refine hJS.out (fun kq a' w' => ∃ (zf1 zf2 zf6 zf7 zf8 zf9 zf10 zf11 zf12 zf13 zf14 zf15 zf16 zf17 zf18 zf19 zf20 zf21 zf22 zf23 zf24 zf25 zf26 zf27 zf28 zf29 zf30 zf31 zf32 : Value) (i m : Int) (ds : List Int),
    a' = { tmps := List.toArray (.int .i64 a0 :: zf1 :: zf2 :: .int .u64 m :: .pointer (some ⟨w.heap.size, 0, none⟩) :: .int .i64 i :: zf6 :: zf7 :: zf8 :: zf9 :: zf10 :: zf11 :: zf12 :: zf13 :: zf14 :: zf15 :: zf16 :: zf17 :: zf18 :: zf19 :: zf20 :: zf21 :: zf22 :: zf23 :: zf24 :: zf25 :: zf26 :: zf27 :: zf28 :: zf29 :: zf30 :: zf31 :: zf32 :: []), defers := [] } ∧
    Aside0 (m = kq) ∧ 1 ≤ i ∧ i ≤ 20 ∧ Aside0 ((dg kq).length ≤ i) ∧ (kq : Int) ≤ 9223372036854775808 ∧ Aside0 (Buf20 w' w.heap.size i ds) ∧ Aside0 (dg kq ++ ds = dg a0.natAbs) ∧ Aside0 (Below w.heap.size w w')) ?round a0.natAbs _ _ ?atStart
  case atStart =>
    have e : (IntKind.u64.wrap (-(IntKind.u64.wrap a0)) : Int) = (a0.natAbs : Int) := by rw [show ∀ n : Int, IntKind.u64.wrap n = n % 18446744073709551616 from fun n => by simp [IntKind.wrap, IntKind.bits, IntKind.signed], show ∀ n : Int, IntKind.u64.wrap n = n % 18446744073709551616 from fun n => by simp [IntKind.wrap, IntKind.bits, IntKind.signed]]; omega
    refine ⟨_, _, _, _, _, _, _, _, _, _, _, _, _, _, _, _, _, _, _, _, _, _, _, _, _, _, _, _, _, 20, _, [], rfl, ⟨e⟩, by omega, by omega, ⟨?_⟩, by omega, ⟨⟨_, heap_alloc_new w _, by rfl, by omega, by simp, fun j hj => absurd hj (by simp)⟩⟩, ⟨List.append_nil _⟩, ⟨below_alloc (Below.refl _ _) _⟩⟩
    · have := (dg_len 19 a0.natAbs (by show _ < 100000000000000000000; omega)).2
      omega
  case round =>
    clear hJS
    intro gk a' wr hrel JN KN hIJ hJK
    obtain ⟨zf1, zf2, zf6, zf7, zf8, zf9, zf10, zf11, zf12, zf13, zf14, zf15, zf16, zf17, zf18, zf19, zf20, zf21, zf22, zf23, zf24, zf25, zf26, zf27, zf28, zf29, zf30, zf31, zf32, i, m, ds, rfl, HM, hi1, hi2, HL, hgk, HBuf, HD, HB⟩ := hrel
    obtain rfl := HM.out
    clear HM
    obtain ⟨v, hv⟩ := HBuf.out.cell hi1
    have hf := HBuf.out.frozen (i.toNat - 1)
    by_cases hq : 0 < gk / 10
    · have hq1 : decide ((0 : Int) < (gk : Int) / 10) = true := decide_eq_true (by omega)
      go_wp2
      go_step3
      have e : ((gk : Int) / 10) = ((gk / 10 : Nat) : Int) := by omega
      refine ⟨rfl, hJK _ _ (Handed.intro (gk / 10) (by omega) (hIJ _ _ _ ?_))⟩
      have hb : dg gk = dg (gk / 10) ++ [(48 + (gk % 10 : Nat) : Int)] := dg_big (by omega)
      have e2 : (48 + (gk : Int) % 10) = (48 + (gk % 10 : Nat) : Int) := by omega
      refine ⟨_, _, _, _, _, _, _, _, _, _, _, _, _, _, _, _, _, _, _, _, _, _, _, _, _, _, _, _, _, i - 1, _, (48 + (gk : Int) % 10) :: ds, rfl, ⟨e⟩, ?_, by omega, ⟨?_⟩, by omega, ⟨HBuf.out.put hi1 _⟩, ⟨?_⟩, ⟨Below.setCell HB.out (Nat.le_refl _) _⟩⟩
      · have h1 := HL.out
        rw [hb, List.length_append] at h1
        have := (dg_len 19 (gk / 10) (by show _ < 100000000000000000000; omega)).1
        simp at h1; omega
      · have h1 := HL.out
        rw [hb, List.length_append] at h1
        simp at h1; omega
      · have h1 := HD.out
        rw [hb] at h1
        rw [e2, ← h1]; simp
    · have hq1 : decide ((0 : Int) < (gk : Int) / 10) = false := decide_eq_false (by omega)
      have hsl := slice20 w.heap.size i hi1 hi2
      have hbuf2 := HBuf.out.put hi1 (48 + (gk : Int) % 10)
      have hlen : i + ds.length = 20 := by obtain ⟨_, _, _, _, h, _⟩ := HBuf.out.out; exact h
      have hcv := hbuf2.string (21 - i.toNat) (21 - i.toNat) (by simp only [List.length_cons]; omega)
      rw [show (i - 1).toNat = i.toNat - 1 by omega] at hcv
      have hd1 : dg gk = [(48 + (gk : Int) % 10)] := by rw [dg_small (by omega)]; congr 1; omega
      have hd2 := HD.out
      rw [hd1, List.singleton_append] at hd2
      rw [hd2] at hcv
      have HD2 := Aside0.mk hd2
      have HL2 := Aside0.mk hlen
      have HW := Aside0.mk (Below.setCell HB.out (Nat.le_refl _) (.int .u8 (48 + (gk : Int) % 10)) (p := ⟨w.heap.size, i.toNat - 1, none⟩))
      clear hbuf2 hd1 hd2 hlen
      have hsz : (⟨#[45]⟩ : ByteArray).size + (strOfNums (dg a0.natAbs)).size ≤ 9223372036854775807 := by
        rw [strOfNums_size]
        have := (dg_len 19 a0.natAbs (by show _ < 100000000000000000000; omega)).2
        show 1 + _ ≤ _; omega
      go_wp2
      try simp only [Exit.jump]
      go_ret
      exact ⟨by first | rfl | (simp; done) | (simp [*]; done), HW.out⟩
theorem num_Print.calls (a0 : Int) (r : ByteArray) (w : World) (h : num_Print.f a0 = some r) :
    Calls Try.prog 19 #[.int .i64 a0] w fun e w' => e = .returned (.string r) ∧ Below w.heap.size w w' := by
  unfold num_Print.f at h
  by_cases hr : -9223372036854775808 ≤ a0 ∧ a0 ≤ 9223372036854775807
  · rw [if_pos hr] at h
    obtain rfl := Option.some.inj h
    by_cases hn : a0 < 0
    · rw [if_pos hn]; exact num_Print.calls_neg a0 w hr.1 hn
    · rw [if_neg hn]; exact num_Print.calls_pos a0 w (by omega) hr.2
  · rw [if_neg hr] at h; exact absurd h (by simp)

end Go.Proofs.Ytmmofckknopaaaa.Q
