/- What is printed is read: any number has the print that the document says, and is read from it, wherever it stands, whatever that is no digit stands behind it. -/
import Derived.Test.YtmmofckknopaaaaPureNumReads
import Derived.Test.YtmmofckknopaaaaQ27
namespace Go.Proofs.Ytmmofckknopaaaa.Pure
open Go.RowKit Go.Proofs.Ytmmofckknopaaaa.Q Go.Proofs.Ytmmofckknopaaaa.Bits Go.Proofs.Ytmmofckknopaaaa.Str Go.Proofs.Ytmmofckknopaaaa.Dig Go.Proofs.YtmmofckknopaaaaW.PrintWords Go.Proofs.YtmmofckknopaaaaW.PrintLast

/-- A number's print. -/
def prt (n : Int) : List Int := if n < 0 then 45 :: dg n.natAbs else dg n.natAbs
theorem Ds_all {d : List Int} (h : Ds d) : d.all isd = true := by
  rw [List.all_eq_true]
  intro x hx
  have := h x hx
  unfold isd
  simp; omega
theorem prt_bytes (n : Int) : Bytes (prt n) := by
  unfold prt
  split
  · intro x hx
    rcases List.mem_cons.1 hx with e | hx
    · omega
    · exact (dg_Ds _).bytes x hx
  · exact (dg_Ds _).bytes
theorem Print_is {n : Int} (h : -9223372036854775808 ≤ n ∧ n ≤ 9223372036854775807) : num_Print.f n = some (strOfNums (prt n)) := by
  unfold prt
  by_cases h0 : n < 0
  · rw [print_neg h0 h.1, if_pos h0]
    rfl
  · rw [print_pos (by omega) h.2, if_neg h0]
theorem neg_prt (n : Int) (b : List Int) : neg (prt n ++ b) = decide (n < 0) := by
  unfold neg prt
  by_cases h0 : n < 0
  · rw [if_pos h0, decide_eq_true h0]; rfl
  · rw [if_neg h0, decide_eq_false h0]
    have hD := dg_Ds n.natAbs
    cases hq : dg n.natAbs with
    | nil => exact absurd hq (dg_ne _)
    | cons x t =>
      have := hD x (by rw [hq]; simp)
      simp; omega
theorem rest_prt (n : Int) (b : List Int) : rest (prt n ++ b) = dg n.natAbs ++ b := by
  unfold rest
  rw [neg_prt]
  unfold prt
  by_cases h0 : n < 0
  · rw [if_pos (decide_eq_true h0), if_pos h0]; rfl
  · rw [if_neg (by simpa using h0), if_neg h0]
theorem run_append {a b : List Int} (h : a.all isd = true) (hb : b = [] ∨ isd (b.getD 0 0) = false) : run (a ++ b) = a := by
  induction a with
  | nil =>
    cases b with
    | nil => rfl
    | cons y t =>
      rcases hb with hb | hb
      · cases hb
      · exact run_cons_neg hb
  | cons x r ih =>
    simp only [List.all_cons, Bool.and_eq_true] at h
    rw [List.cons_append, run_cons_pos h.1, ih h.2]
theorem rdD_prt {n : Int} (h : -9223372036854775808 ≤ n ∧ n ≤ 9223372036854775807) : rdD (decide (n < 0)) (dg n.natAbs) = (n, 0) := by
  have hv := dv_dg n.natAbs
  have hB : ¬ Bad (decide (n < 0)) (dg n.natAbs) := by
    rintro (h1 | ⟨h1, h2⟩)
    · exact dg_ne _ h1
    · rcases dg_lead n.natAbs with h3 | h3
      · exact h3 h1
      · have hz : dg n.natAbs = [48] := by
          match hq : dg n.natAbs, h3 with
          | [c], _ => rw [hq] at h1; simp only [List.getD_cons_zero] at h1; rw [h1]
        rw [hz] at hv
        have hn : n.natAbs = 0 := by rw [← hv]; rfl
        rcases h2 with h2 | h2
        · omega
        · rw [decide_eq_true_eq] at h2; omega
  rw [rdD_fine hB (by rw [hv]; simp; omega), hv]
  by_cases h0 : n < 0
  · rw [if_pos (decide_eq_true h0)]; congr 1; omega
  · rw [if_neg (by simpa using h0)]; congr 1; omega
theorem dg_cases (m : Nat) (h : 1 ≤ m) : dg m = (if m / 10 = 0 then [] else dg (m / 10)) ++ [(48 + (m % 10 : Nat) : Int)] := by
  by_cases h1 : m < 10
  · rw [dg_small h1, if_pos (by omega)]
    simp; omega
  · rw [dg_big h1, if_neg (by omega)]
/-- Digits of what is left; none of nothing. -/
def dz (m : Nat) : List Int := if m = 0 then [] else dg m
theorem dz_step {m : Nat} (h : 1 ≤ m) : dz m = dz (m / 10) ++ [(48 + (m % 10 : Nat) : Int)] := by
  unfold dz
  rw [if_neg (by omega), dg_cases m h]
theorem dz_Ds (m : Nat) : Ds (dz m) := by
  unfold dz
  split
  · intro x hx; simp at hx
  · exact dg_Ds m
theorem ref_print_l0 (x : Int) (j : Nat) : ∀ (k : Nat) (acc : List Int) (m : Nat) (left : Int), m < 10 ^ j → j < k → Bytes acc → acc.length + j < 1000 → m ≤ 9223372036854775808 → (left = m ∨ left = -(m : Int)) → (left ≤ 9223372036854775807) →
    punnetref03_Print.l0 k x (strOfNums acc) left = some (strOfNums ((if x < 0 then [45] else []) ++ (dz m ++ acc))) := by
  induction j with
  | zero =>
    intro k acc m left hm hk hb hl hmax hleft hle
    obtain ⟨k, rfl⟩ : ∃ m, k = m + 1 := ⟨k - 1, by omega⟩
    obtain rfl : m = 0 := by simp at hm; omega
    simp only [punnetref03_Print.l0]
    rw [if_pos (by omega)]
    have hz : dz 0 = [] := rfl
    rw [hz, List.nil_append]
    by_cases h0 : x < 0
    · rw [if_pos h0, if_pos (by rw [strOfNums_size]; omega), if_pos h0]
      rfl
    · rw [if_neg h0, if_neg h0]; rfl
  | succ j ih =>
    intro k acc m left hm hk hb hl hmax hleft hle
    obtain ⟨k, rfl⟩ : ∃ m, k = m + 1 := ⟨k - 1, by omega⟩
    by_cases hz : m = 0
    · subst hz
      have := ih (k + 1) acc 0 left (Nat.pos_of_ne_zero (by simp)) (by omega) hb (by omega) (by omega) hleft hle
      exact this
    · simp only [punnetref03_Print.l0]
      rw [if_neg (by omega)]
      have hstep : ∀ c : Int, c = 48 + (m % 10 : Nat) → (if (strOfNums [c]).size + (strOfNums acc).size ≤ 9223372036854775807 then punnetref03_Print.l0 k x (strOfNums [c] ++ strOfNums acc) (wrap64 (Int.tdiv left 10)) else none) = some (strOfNums ((if x < 0 then [45] else []) ++ (dz m ++ acc))) := by
        intro c hc
        rw [if_pos (by rw [strOfNums_size, strOfNums_size]; simp; omega)]
        have e1 : strOfNums [c] ++ strOfNums acc = strOfNums (c :: acc) := by
          apply ByteArray.ext
          simp [strOfNums]
        have hb2 : Bytes (c :: acc) := by
          intro y hy
          rcases List.mem_cons.1 hy with e | hy
          · omega
          · exact hb y hy
        have hq : Int.tdiv left 10 = ((m / 10 : Nat) : Int) ∨ Int.tdiv left 10 = -((m / 10 : Nat) : Int) := by
          rcases hleft with h | h
          · left; rw [h, Int.tdiv_eq_ediv_of_nonneg (by omega)]; omega
          · right; rw [h, Int.neg_tdiv, Int.tdiv_eq_ediv_of_nonneg (by omega)]; omega
        rw [e1, w64 (by omega) (by omega), ih k (c :: acc) (m / 10) _ (by rw [Nat.pow_succ] at hm; omega) (by omega) hb2 (by simp; omega) (by omega) hq (by omega), dz_step (m := m) (by omega), hc]
        simp
      have hmod : Int.tmod left 10 = ((m % 10 : Nat) : Int) ∨ Int.tmod left 10 = -((m % 10 : Nat) : Int) := by
        rcases hleft with h | h
        · left; rw [h, Int.tmod_eq_emod_of_nonneg (by omega)]; omega
        · right; rw [h, Int.neg_tmod, Int.tmod_eq_emod_of_nonneg (by omega)]; omega
      by_cases hneg : Int.tmod left 10 < 0
      · rw [if_pos hneg]
        simp only [Option.bind_some]
        exact hstep _ (by rw [w64 (x := -(Int.tmod left 10)) (by omega) (by omega), w64 (by omega) (by omega)]; omega)
      · rw [if_neg hneg]
        simp only [Option.bind_some]
        exact hstep _ (by rw [w64 (by omega) (by omega)]; omega)
theorem ref_Print_is {n : Int} (h : -9223372036854775808 ≤ n ∧ n ≤ 9223372036854775807) (k : Nat) (hk : 40 < k) : punnetref03_Print.f k n = some (strOfNums (prt n)) := by
  unfold punnetref03_Print.f
  by_cases h0 : n = 0
  · rw [if_pos h0, h0]
    unfold prt
    rw [if_neg (by decide), show (0 : Int).natAbs = 0 from rfl, dg_small (by omega)]
    rfl
  · rw [if_neg h0]
    have e : (⟨#[]⟩ : ByteArray) = strOfNums [] := rfl
    rw [e, ref_print_l0 n 19 k [] n.natAbs n (by show _ < 10000000000000000000; omega) (by omega) (by intro y hy; simp at hy) (by simp) (by omega) (by omega) (by omega)]
    have hdz : dz n.natAbs = dg n.natAbs := by unfold dz; rw [if_neg (by omega)]
    rw [hdz, List.append_nil]
    congr 2
    unfold prt
    split <;> rfl
theorem NumPrints : punnetlaw03_NumPrints.Pure := by
  intro n ahead behind hn _ _
  have hn := i64_wf hn
  refine ⟨4200, ?_⟩
  unfold punnetlaw03_NumPrints.f
  rw [awake03_more 4170]
  simp only [Option.bind_some, if_true]
  by_cases h5 : (ahead.size : Int) > 500
  · rw [if_pos h5]; simp [punnetlaw03_NumPrints.j0]
  · rw [if_neg h5]
    by_cases h6 : (behind.size : Int) > 500
    · have e : decide ((behind.size : Int) > 500) = true := decide_eq_true h6
      rw [e]; simp [punnetlaw03_NumPrints.j0]
    · have e : decide ((behind.size : Int) > 500) = false := decide_eq_false h6
      rw [e]
      simp only [punnetlaw03_NumPrints.j0, Bool.false_eq_true, if_false]
      have hlen : (prt n).length ≤ 21 := by
        have := (dg_len 19 n.natAbs (by show _ < 100000000000000000000; omega)).2
        unfold prt
        split
        · simp; omega
        · omega
      have hLp := L_strOfNums (prt_bytes n)
      have hread : num_Read.f 4199 (strOfNums (prt n)) = some (n, 0) := by
        rw [num_Read_is _ (by rw [strOfNums_size]; omega) 4199 (by omega), hLp]
        have e1 := neg_prt n []
        have e2 := rest_prt n []
        rw [List.append_nil] at e1 e2
        rw [List.append_nil] at e2
        unfold readR
        rw [e1, e2, if_pos (Ds_all (dg_Ds _)), rdD_prt hn]
      rw [Print_is hn]
      simp only [Option.bind_some]
      rw [hread]
      simp only [Option.bind_some]
      rw [ref_Print_is hn 4199 (by omega)]
      simp only [Option.bind_some, if_true]
      simp only [punnetlaw03_NumPrints.j1, bne_self_eq_false, Bool.false_eq_true, if_false]
      have hsz : (strOfNums (prt n)).size = (prt n).length := strOfNums_size _
      have hscan : (behind.size = 0 ∨ isd (bt behind 0) = false) → num_Scan.f 4198 ((ahead ++ strOfNums (prt n)) ++ behind) (ahead.size : Int) = some (n, (ahead.size : Int) + (strOfNums (prt n)).size, 0) := by
        intro hbeh
        have hL : L ((ahead ++ strOfNums (prt n)) ++ behind) = L ahead ++ (prt n ++ L behind) := by rw [L_append, L_append, hLp, List.append_assoc]
        rw [num_Scan_is _ (by rw [← L_len, hL]; simp [L_len]; omega) _ 4198 (by omega), hL]
        have hdrop : (L ahead ++ (prt n ++ L behind)).drop ahead.size = prt n ++ L behind := by rw [← L_len ahead]; simp
        have hds : ds (prt n ++ L behind) = dg n.natAbs := by
          rw [ds_rest, rest_prt]
          refine run_append (Ds_all (dg_Ds _)) ?_
          rcases hbeh with h | h
          · left; exact List.eq_nil_of_length_eq_zero (by rw [L_len]; exact h)
          · right; have e : bt behind 0 = (L behind).getD 0 0 := bt_L behind 0
            rw [← e]; exact h
        unfold scanR
        rw [if_neg (by simp [L_len]; omega), Int.toNat_natCast, hdrop]
        simp only [neg_prt, hds, rdD_prt hn, if_true]
        congr 3
        rw [hsz]
        unfold prt
        by_cases h0 : n < 0
        · rw [if_pos (decide_eq_true h0), if_pos h0]; simp; omega
        · rw [if_neg (by simpa using h0), if_neg h0]; omega
      have hw : wrap64 ((ahead.size : Int) + ((strOfNums (prt n)).size : Int)) = (ahead.size : Int) + (strOfNums (prt n)).size := w64 (by omega) (by omega)
      have hroom1 : ahead.size + (strOfNums (prt n)).size ≤ 9223372036854775807 := by omega
      have hroom2 : (ahead ++ strOfNums (prt n)).size + behind.size ≤ 9223372036854775807 := by rw [ByteArray.size_append]; omega
      by_cases hb0 : (behind.size : Int) > 0
      · rw [if_pos hb0, if_pos (by omega)]
        by_cases h1 : bt behind 0 ≥ 48
        · rw [if_pos h1]
          by_cases h2 : bt behind 0 ≤ 57
          · rw [if_pos h2]
          · rw [if_neg h2, if_pos hroom1, if_pos hroom2, hscan (Or.inr (by unfold isd; simp; omega))]
            simp [hw]
        · rw [if_neg h1, if_pos hroom1, if_pos hroom2, hscan (Or.inr (by unfold isd; simp; omega))]
          simp [hw]
      · rw [if_neg hb0, if_pos hroom1, if_pos hroom2, hscan (Or.inl (by omega))]
        simp [hw]
end Go.Proofs.Ytmmofckknopaaaa.Pure
