/- Cut off anywhere just the whole frames are there: of any texts framed one behind the other, by any table; for up to 40 texts of up to 300 bytes, and true beyond. No further condition. -/
import Derived.Test.YtcgbcnalofecgaaQ29
import Derived.Test.YtcgbcnalofecgaaFrameRef
import Derived.Test.YtcgbcnalofecgaaScan
namespace Go.Proofs.Ytcgbcnalofecgaa.Pure
open Go.RowKit Go.Proofs.Ytcgbcnalofecgaa.Q Go.Proofs.Ytcgbcnalofecgaa.Sum Go.Proofs.Ytcgbcnalofecgaa.Frame Go.Proofs.YtcgbcnalofecgaaW.PrintWords Go.Proofs.YtcgbcnalofecgaaW.PrintLast Go.Proofs.YtcgbcnalofecgaaW.PrintMore

/-- Frames, one behind the other. -/
def fs (t : Tab) : List (List Int) → List Int
  | [] => []
  | b :: l => fr t b ++ fs t l
theorem fs_append (t : Tab) (l m : List (List Int)) : fs t (l ++ m) = fs t l ++ fs t m := by
  induction l with
  | nil => rfl
  | cons b l ih => simp only [List.cons_append, fs, ih, List.append_assoc]
theorem fs_bytes (t : Tab) {l : List (List Int)} (h : ∀ b ∈ l, Bytes b) : Bytes (fs t l) := by
  induction l with
  | nil => intro x hx; simp [fs] at hx
  | cons b l ih => exact (fr_bytes t (h b (by simp))).append (ih (fun c hc => h c (by simp [hc])))
theorem fs_len (t : Tab) {l : List (List Int)} (h : ∀ b ∈ l, b.length ≤ 300) : (fs t l).length ≤ 308 * l.length := by
  induction l with
  | nil => simp [fs]
  | cons b l ih =>
    have := ih (fun c hc => h c (by simp [hc]))
    have := h b (by simp)
    simp only [fs, List.length_append, fr_len, List.length_cons]
    omega
/-- The beginning of a frame, and not all of it, is none. -/
theorem hd_torn (t : Tab) (b : List Int) (hb : b.length ≤ 60000) (n : Nat) (hn : n < 8 + b.length) : hd t ((fr t b).take n) = none := by
  by_cases h8 : n < 8
  · exact hd_short t (by rw [List.length_take, fr_len]; omega)
  · have hl : ((fr t b).take n).length = n := by rw [List.length_take, fr_len]; omega
    have hv : val4 ((fr t b).take n) 0 = b.length := by
      obtain ⟨m, rfl⟩ : ∃ m, n = 4 + m := ⟨n - 4, by omega⟩
      have : (fr t b).take (4 + m) = le4 b.length ++ (le4 (su t (le4 b.length ++ b)) ++ b).take m := by
        unfold fr
        rw [← le4_len (b.length : Int), List.take_length_add_append]
      rw [this]
      exact val4_le4 (by omega) (by omega) _
    unfold hd
    rw [if_neg]
    rintro ⟨_, _, h3, _⟩
    rw [hv, hl] at h3
    omega
theorem sc_fs (t : Tab) (rest : List Int) (hr : hd t rest = none) : ∀ (l : List (List Int)) (d : Nat), (∀ b ∈ l, b.length ≤ 300) → l.length < d → sc t d (fs t l ++ rest) = (l, (fs t l).length) := by
  intro l
  induction l with
  | nil =>
    intro d _ hd'
    obtain ⟨d, rfl⟩ : ∃ m, d = m + 1 := ⟨d - 1, by omega⟩
    simp only [fs, List.nil_append, sc, hr, List.length_nil]
  | cons b l ih =>
    intro d h hd'
    obtain ⟨d, rfl⟩ : ∃ m, d = m + 1 := ⟨d - 1, by omega⟩
    have hb := h b (by simp)
    have hq := hd_fr t (b := b) (fs t l ++ rest) (by omega)
    simp only [fs, List.append_assoc, sc, hq]
    have e : (fr t b ++ (fs t l ++ rest)).drop (8 + b.length) = fs t l ++ rest := by rw [← fr_len t b, List.drop_left]
    rw [e, ih d (fun c hc => h c (by simp [hc])) (by simp only [List.length_cons] at hd'; omega)]
    simp only [List.length_append, fr_len]
/-- Where the first so many frames end. -/
def en (t : Tab) (l : List (List Int)) (i : Nat) : Nat := (fs t (l.take i)).length
theorem en_zero (t : Tab) (l : List (List Int)) : en t l 0 = 0 := rfl
theorem en_succ (t : Tab) {l : List (List Int)} {i : Nat} (h : i < l.length) : en t l (i + 1) = en t l i + (8 + (l[i]'h).length) := by
  unfold en
  rw [List.take_succ_eq_append_getElem h, fs_append, List.length_append]
  simp only [fs, List.append_nil, fr_len]
def ens (t : Tab) (l : List (List Int)) (i : Nat) : List Int := (List.range (i + 1)).map fun j => ((en t l j : Nat) : Int)
theorem ens_len (t : Tab) (l : List (List Int)) (i : Nat) : (ens t l i).length = i + 1 := by simp [ens]
theorem ens_rd (t : Tab) (l : List (List Int)) {i j : Nat} (h : j ≤ i) : rd (ens t l i) (j : Int) = ((en t l j : Nat) : Int) := by
  unfold Go.Proofs.YtcgbcnalofecgaaW.PrintWords.rd ens
  rw [show ((j : Nat) : Int).toNat = j by omega, List.getD_eq_getElem?_getD, List.getElem?_map, List.getElem?_range (by omega)]
  rfl
theorem ens_succ (t : Tab) (l : List (List Int)) (i : Nat) : ens t l (i + 1) = ens t l i ++ [((en t l (i + 1) : Nat) : Int)] := by
  unfold ens
  rw [List.range_succ, List.map_append]
  rfl
theorem torn_cut (t : Tab) (l : List (List Int)) (hl : ∀ b ∈ l, b.length ≤ 300) (w cut : Nat) (hw : w ≤ l.length) (h0 : en t l w ≤ cut) (h1 : w < l.length → cut < en t l (w + 1)) (d : Nat) (hd' : w < d) :
    sc t d ((fs t l).take cut) = (l.take w, en t l w) := by
  have hlt : ∀ b ∈ l.take w, b.length ≤ 300 := fun b hb => hl b (List.mem_of_mem_take hb)
  have e : (fs t l).take cut = fs t (l.take w) ++ (fs t (l.drop w)).take (cut - en t l w) := by
    have hsplit : fs t l = fs t (l.take w) ++ fs t (l.drop w) := by rw [← fs_append, List.take_append_drop]
    obtain ⟨m, hm⟩ : ∃ m, cut = en t l w + m := ⟨cut - en t l w, by omega⟩
    rw [hsplit, hm, Nat.add_sub_cancel_left]
    unfold en
    rw [List.take_length_add_append]
  have hr : hd t ((fs t (l.drop w)).take (cut - en t l w)) = none := by
    by_cases hwl : w < l.length
    · have hc := h1 hwl
      rw [en_succ t hwl] at hc
      have hb := hl (l[w]'hwl) (List.getElem_mem hwl)
      rw [List.drop_eq_getElem_cons hwl]
      simp only [fs]
      rw [List.take_append_of_le_length (by rw [fr_len]; omega)]
      exact hd_torn t _ (by omega) _ (by omega)
    · rw [List.drop_eq_nil_of_le (by omega)]
      simp only [fs, List.take_nil]
      exact hd_short t (by simp)
  rw [e, sc_fs t _ hr (l.take w) d hlt (by rw [List.length_take]; omega)]
  rfl
theorem torn_end (t : Tab) (l : List (List Int)) (hb : ∀ b ∈ l, Bytes b) (hl : ∀ b ∈ l, b.length ≤ 300) (h40 : l.length ≤ 40) (w cut : Nat) (hw : w ≤ l.length) (h0 : en t l w ≤ cut) (h1 : w < l.length → cut < en t l (w + 1)) {k : Nat} (hk : 200000 < k) :
    frame_Scan.f k ((fs t l).take cut) t = some (l.take w, ((en t l w : Nat) : Int)) := by
  have hlen := fs_len t hl
  have hlt : ((fs t l).take cut).length ≤ 12320 := by rw [List.length_take]; omega
  rw [Scan_is t ((fs_bytes t hb).take cut) (by omega) (d := 20000) (by omega) (by omega), torn_cut t l hl w cut hw h0 h1 20000 (by omega)]
theorem torn_search (t : Tab) (l : List (List Int)) (hb : ∀ b ∈ l, Bytes b) (hl : ∀ b ∈ l, b.length ≤ 300) (h40 : l.length ≤ 40) (cut : Nat) (hcut : cut ≤ (fs t l).length) :
    ∀ (d w k : Nat), w + d = l.length → d + 200010 < k → en t l w ≤ cut → punnetlaw07_FrameTorn.l1 k l cut (fs t l) (ens t l l.length) w t = some true := by
  have tail : ∀ (w k : Nat), w ≤ l.length → 200000 < k → en t l w ≤ cut → (w < l.length → cut < en t l (w + 1)) →
      (if (0 : Int) ≤ (cut : Int) then (if (cut : Int) ≤ ((fs t l).length : Int) then ((frame_Scan.f k ((fs t l).take (cut : Int).toNat) t).bind fun bt => (if bt.2 = rd (ens t l l.length) (w : Int) then (if (w : Int) ≤ (l.length : Int) then ((punnetref07_Same.f k bt.1 (l.take (w : Int).toNat)).bind fun z => (some z)) else (none)) else (some false))) else (none)) else (none)) = some true := by
    intro w k hw hk h0 h1
    rw [if_pos (by omega), if_pos (by omega), show ((cut : Nat) : Int).toNat = cut by omega, torn_end t l hb hl h40 w cut hw h0 h1 hk, Option.bind_some]
    dsimp only
    rw [ens_rd t l hw, if_pos rfl, if_pos (by omega), show ((w : Nat) : Int).toNat = w by omega, same_is _ (by rw [List.length_take]; omega) (by rw [List.length_take]; omega), Option.bind_some]
  intro d
  induction d with
  | zero =>
    intro w k hd' hk h0
    obtain ⟨k, rfl⟩ : ∃ m, k = m + 1 := ⟨k - 1, by omega⟩
    have hw : w = l.length := by omega
    rw [punnetlaw07_FrameTorn.l1, if_pos (by omega), if_pos (by rw [ens_len]; omega), ens_rd t l (by omega), if_pos (by omega), if_neg (by omega), ← ens_rd t l (i := l.length) (j := w) (by omega)]
    exact tail w k (by omega) (by omega) h0 (fun c => by omega)
  | succ d ih =>
    intro w k hd' hk h0
    obtain ⟨k, rfl⟩ : ∃ m, k = m + 1 := ⟨k - 1, by omega⟩
    have e1 : wrap64 ((w : Int) + 1) = ((w + 1 : Nat) : Int) := by unfold wrap64; omega
    rw [punnetlaw07_FrameTorn.l1, if_pos (by omega), if_pos (by rw [ens_len]; omega), if_pos (by rw [ens_rd t l (by omega)]; omega), if_pos (by omega), e1, if_pos (by omega), if_pos (by rw [ens_len]; omega), ens_rd t l (j := w + 1) (by omega)]
    by_cases c : en t l (w + 1) ≤ cut
    · rw [if_pos (by omega)]
      exact ih (w + 1) k (by omega) (by omega) c
    · rw [if_neg (by omega)]
      exact tail w k (by omega) (by omega) h0 (fun _ => by omega)
theorem torn_build (t : Tab) (l : List (List Int)) (hb : ∀ b ∈ l, Bytes b) (h40 : l.length ≤ 40) (cut : Int) :
    ∀ (d i k : Nat), i + d = l.length → d + 200100 < k → (∀ b ∈ l.take i, b.length ≤ 300) → punnetlaw07_FrameTorn.l0 k l cut (fs t (l.take i)) (ens t l i) i t = some true := by
  intro d
  induction d with
  | zero =>
    intro i k hi hk hl
    obtain ⟨k, rfl⟩ : ∃ m, k = m + 1 + 1 + 1 := ⟨k - 3, by omega⟩
    have hil : i = l.length := by omega
    subst hil
    rw [List.take_length] at hl
    rw [punnetlaw07_FrameTorn.l0, if_neg (by omega), List.take_length]
    have go : ∀ cc : Nat, cc ≤ (fs t l).length → punnetlaw07_FrameTorn.j2 (k + 1) l cc (fs t l) (ens t l l.length) t = some true := by
      intro cc hc
      rw [punnetlaw07_FrameTorn.j2]
      exact torn_search t l hb hl h40 cc hc l.length 0 k (by omega) (by omega) (by rw [en_zero]; omega)
    by_cases c1 : cut < 0
    · rw [if_pos c1, punnetlaw07_FrameTorn.j1, if_pos rfl]
      exact go _ (Nat.le_refl _)
    · rw [if_neg c1]
      by_cases c2 : cut > ((fs t l).length : Int)
      · rw [decide_eq_true c2, punnetlaw07_FrameTorn.j1, if_pos rfl]
        exact go _ (Nat.le_refl _)
      · rw [decide_eq_false c2, punnetlaw07_FrameTorn.j1, if_neg (by simp)]
        have := go cut.toNat (by omega)
        rw [show ((cut.toNat : Nat) : Int) = cut by omega] at this
        exact this
  | succ d ih =>
    intro i k hi hk hl
    obtain ⟨k, rfl⟩ : ∃ m, k = m + 1 := ⟨k - 1, by omega⟩
    have hil : i < l.length := by omega
    have hrd : rd_L2 l (i : Int) = l[i]'hil := by
      unfold rd_L2
      rw [show ((i : Nat) : Int).toNat = i by omega, List.getD_eq_getElem?_getD, List.getElem?_eq_getElem hil]
      rfl
    rw [punnetlaw07_FrameTorn.l0, if_pos (by omega), if_pos (by omega), hrd]
    by_cases c : ((l[i]'hil).length : Int) > 300
    · rw [if_pos c]
    · rw [if_neg c]
      have hbi := hb (l[i]'hil) (List.getElem_mem hil)
      have hfl := fs_len t hl
      rw [List.length_take] at hfl
      rw [Put_is t _ _ hbi (by omega) (by omega) (by omega), Option.bind_some]
      dsimp only
      rw [if_pos rfl, if_pos (by rw [ens_len]; omega)]
      have e : fs t (l.take i) ++ fr t (l[i]'hil) = fs t (l.take (i + 1)) := by
        rw [List.take_succ_eq_append_getElem hil, fs_append]
        simp only [fs, List.append_nil]
      rw [e, show ((fs t (l.take (i + 1))).length : Int) = ((en t l (i + 1) : Nat) : Int) from rfl, ← ens_succ, show wrap64 ((i : Int) + 1) = ((i + 1 : Nat) : Int) by unfold wrap64; omega]
      refine ih (i + 1) k (by omega) (by omega) ?_
      intro b hbm
      rw [List.take_succ_eq_append_getElem hil, List.mem_append, List.mem_singleton] at hbm
      rcases hbm with hbm | rfl
      · exact hl b hbm
      · omega
theorem FrameTorn (t : Tab) (l : List (List Int)) (cut : Int) (hb : ∀ b ∈ l, Bytes b) : ∃ k, punnetlaw07_FrameTorn.f k t l cut = some true := by
  refine ⟨300000, ?_⟩
  unfold punnetlaw07_FrameTorn.f
  rw [awake07 (by omega), Option.bind_some, if_pos rfl]
  by_cases c : (l.length : Int) > 40
  · rw [if_pos c]
  · rw [if_neg c]
    exact torn_build t l hb (by omega) cut l.length 0 300000 (by omega) (by omega) (by simp)
end Go.Proofs.Ytcgbcnalofecgaa.Pure
