/- What stands at any place, and all frames from the beginning on, are what the document says: by any table; for bytes of up to 3000, and true beyond. No further condition. -/
import Derived.Test.YtcgbcnalofecgaaQ28
import Derived.Test.YtcgbcnalofecgaaFrameRef
import Derived.Test.YtcgbcnalofecgaaScan
import Derived.Test.YtcgbcnalofecgaaText
namespace Go.Proofs.Ytcgbcnalofecgaa.Pure
open Go.RowKit Go.Proofs.Ytcgbcnalofecgaa.Q Go.Proofs.Ytcgbcnalofecgaa.Sum Go.Proofs.Ytcgbcnalofecgaa.Frame Go.Proofs.Ytcgbcnalofecgaa.Text Go.Proofs.YtcgbcnalofecgaaW.PrintWords Go.Proofs.YtcgbcnalofecgaaW.PrintLast Go.Proofs.YtcgbcnalofecgaaW.PrintMore

theorem w64 {x : Int} (h0 : 0 ≤ x) (h1 : x < 4611686018427387904) : wrap64 x = x := by unfold wrap64; omega
theorem refn_is {left : List Int} (h : Bytes left) : wrap64 ((wrap64 ((wrap64 ((wrap64 (rd left 0)) + (wrap64 (256 * (wrap64 (rd left 1)))))) + (wrap64 (65536 * (wrap64 (rd left 2)))))) + (wrap64 (16777216 * (wrap64 (rd left 3))))) = val4 left 0 := by
  have r0 := h.rd 0
  have r1 := h.rd 1
  have r2 := h.rd 2
  have r3 := h.rd 3
  rw [w64 (x := rd left 0) (by omega) (by omega), w64 (x := rd left 1) (by omega) (by omega), w64 (x := rd left 2) (by omega) (by omega), w64 (x := rd left 3) (by omega) (by omega)]
  rw [w64 (x := 256 * rd left 1) (by omega) (by omega), w64 (x := 65536 * rd left 2) (by omega) (by omega), w64 (x := 16777216 * rd left 3) (by omega) (by omega)]
  rw [w64 (x := rd left 0 + 256 * rd left 1) (by omega) (by omega), w64 (x := rd left 0 + 256 * rd left 1 + 65536 * rd left 2) (by omega) (by omega), w64 (by omega) (by omega)]
  rfl
theorem refGet_is (t : Tab) {l : List Int} (hb : Bytes l) (hlen : l.length ≤ 100000) {a : Int} (h0 : 0 ≤ a) (h1 : a ≤ l.length) {k : Nat} (hk : 70000 < k) :
    punnetref07_Get.f k l a t = some (match hd t (l.drop a.toNat) with | some b => (b, a + 8 + b.length, true) | none => ([], 0, false)) := by
  obtain ⟨k, rfl⟩ : ∃ m, k = m + 1 := ⟨k - 1, by omega⟩
  have hld : Bytes (l.drop a.toNat) := hb.drop _
  have hl : (l.drop a.toNat).length ≤ l.length := by rw [List.length_drop]; omega
  unfold punnetref07_Get.f
  rw [if_pos h0, if_pos h1, Option.bind_some]
  generalize l.drop a.toNat = left at hl hld
  have out : ∀ x1 x9 x10, punnetref07_Get.j0 (k + 1) x1 x9 x10 true t = some ([], 0, false) := by intro x1 x9 x10; rw [punnetref07_Get.j0, if_pos rfl]
  by_cases h8 : (left.length : Int) < 8
  · rw [if_pos h8, hd_short t (by omega)]
  · rw [if_neg h8, if_pos (by omega), if_pos (by omega), if_pos (by omega), if_pos (by omega), refn_is hld]
    have hv := val4_lt hld 0
    by_cases hn : val4 left 0 > 60000
    · have hq : hd t left = none := by unfold hd; rw [if_neg (by omega)]
      rw [if_pos hn, out, hq]
    · rw [if_neg hn, w64 (x := 8 + val4 left 0) (by omega) (by omega)]
      by_cases hr : 8 + val4 left 0 > (left.length : Int)
      · have hq : hd t left = none := by unfold hd; rw [if_neg (by omega)]
        rw [decide_eq_true hr, out, hq]
      · rw [decide_eq_false hr, punnetref07_Get.j0, if_neg (by simp), w64 (x := 8 + val4 left 0) (by omega) (by omega), if_pos (by omega), if_pos (by omega), Option.bind_some]
        have hbb : Bytes (body left) := (hld.take _).drop 8
        have hbl := body_len (left := left) hv.1 (by omega)
        have heq : (left.take (8 + val4 left 0).toNat).drop 8 = body left := rfl
        have hbt : Bytes (left.take (8 + val4 left 0).toNat) := hld.take _
        have hf : ((strOfNums (fr t (body left))).toList = (strOfNums (left.take (8 + val4 left 0).toNat)).toList) ↔ fr t (body left) = left.take (8 + val4 left 0).toNat := alike (fr_bytes t hbb) hbt
        rw [heq, refFrame_is t hbb (by omega) (by omega), Option.bind_some, if_pos (by omega)]
        cases hq : hd t left with
        | some b =>
          have hbe : b = body left := by
            unfold hd at hq
            split at hq
            · exact (Option.some.inj hq).symm
            · exact absurd hq (by simp)
          subst hbe
          obtain ⟨_, r, hx⟩ := hd_some t hld hq
          have ht : left.take (8 + val4 left 0).toNat = fr t (body left) := by
            have e : (8 + val4 left 0).toNat = (fr t (body left)).length := by rw [fr_len]; omega
            rw [e]
            generalize fr t (body left) = z at hx
            subst hx
            exact List.take_left
          rw [if_pos (hf.2 ht.symm)]
          dsimp only
          rw [w64 (x := a + 8) (by omega) (by omega), w64 (by omega) (by omega), hbl]
        | none =>
          rw [if_neg]
          intro hc
          have h2 := hf.1 hc
          have h3 : left = fr t (body left) ++ left.drop (8 + val4 left 0).toNat := by rw [h2, List.take_append_drop]
          have h4 := hd_fr t (b := body left) (left.drop (8 + val4 left 0).toNat) (by omega)
          rw [← h3, hq] at h4
          exact absurd h4 (by simp)
theorem refScan_loop (t : Tab) {l : List Int} (hb : Bytes l) (hlen : l.length ≤ 100000) : ∀ (d a : Nat) (acc : List (List Int)) (k : Nat), a ≤ l.length → l.length - a < d → l.length + 70020 + d < k → acc.length + (l.length - a) ≤ 100000 →
    punnetref07_Scan.l0 k l acc a t = some (acc ++ (sc t d (l.drop a)).1, ((a + (sc t d (l.drop a)).2 : Nat) : Int)) := by
  intro d
  induction d with
  | zero => intro a acc k _ h; omega
  | succ d ih =>
    intro a acc k ha hd' hk hacc
    obtain ⟨k, rfl⟩ : ∃ m, k = m + 1 := ⟨k - 1, by omega⟩
    have hG := refGet_is t hb hlen (a := (a : Int)) (by omega) (by omega) (k := k) (by omega)
    rw [show ((a : Nat) : Int).toNat = a by omega] at hG
    rw [punnetref07_Scan.l0, hG, Option.bind_some]
    unfold sc
    cases hq : hd t (l.drop a) with
    | none =>
      dsimp only
      rw [if_neg (by simp), List.append_nil, Nat.add_zero]
    | some b =>
      have hl2 := hd_len t (hb.drop a) hq
      rw [List.length_drop] at hl2
      dsimp only
      rw [if_pos rfl, if_pos (by omega), show (a : Int) + 8 + (b.length : Int) = ((a + (8 + b.length) : Nat) : Int) by omega, ih (a + (8 + b.length)) (acc ++ [b]) k (by omega) (by omega) (by omega) (by rw [List.length_append, List.length_singleton]; omega), List.drop_drop]
      simp only [List.append_assoc, List.singleton_append, Nat.add_assoc]
theorem refScan_is (t : Tab) {l : List Int} (hb : Bytes l) (hlen : l.length ≤ 100000) {k d : Nat} (hd' : l.length < d) (hk : l.length + 70020 + d < k) : punnetref07_Scan.f k l t = some ((sc t d l).1, (((sc t d l).2 : Nat) : Int)) := by
  have := refScan_loop t hb hlen d 0 [] k (by omega) (by omega) hk (by simp; omega)
  rw [List.drop_zero, List.nil_append, Nat.zero_add] at this
  exact this
theorem FrameGets : punnetlaw07_FrameGets.Pure := by
  intro t l a _ _ hl hw
  have hb := bytes_wf hl
  have h1 := i64_wf hw
  refine ⟨100010, ?_⟩
  unfold punnetlaw07_FrameGets.f
  rw [awake07 (by omega), Option.bind_some, if_pos rfl]
  by_cases c1 : (l.length : Int) > 3000
  · rw [if_pos c1]
  · rw [if_neg c1, Scan_is t hb (by omega) (d := 3001) (by omega) (by omega), Option.bind_some, refScan_is t hb (by omega) (d := 3001) (by omega) (by omega), Option.bind_some]
    have hsl := sc_len t 3001 l hb
    dsimp only
    rw [if_pos rfl, same_is _ (by omega) (by omega), Option.bind_some, show (!true) = false from rfl, punnetlaw07_FrameGets.j0, if_neg (by simp)]
    by_cases c2 : a < 0 ∨ (l.length : Int) < a
    · rw [Get_out t l a c2, Option.bind_some]
      have e : ∀ k, punnetlaw07_FrameGets.j1 (k + 1) l a [] 0 2 true t = some true := by intro k; rw [punnetlaw07_FrameGets.j1, if_pos rfl]; rfl
      by_cases c3 : a < 0
      · rw [if_pos c3]; exact e 100008
      · rw [if_neg c3, decide_eq_true (by omega)]; exact e 100008
    · have h0 : 0 ≤ a := by omega
      have h2 : a ≤ l.length := by omega
      have hG := Get_is t hb (by omega) h0 h2 (k := 100009) (by omega)
      have hR := refGet_is t hb (by omega) h0 h2 (k := 100008) (by omega)
      rw [hG, Option.bind_some, if_neg (by omega), decide_eq_false (by omega), punnetlaw07_FrameGets.j1, if_neg (by simp), hR, Option.bind_some]
      cases hd t (l.drop a.toNat) with
      | none => rfl
      | some b => dsimp only; rw [if_pos rfl, if_pos rfl, if_pos rfl]; rfl
end Go.Proofs.Ytcgbcnalofecgaa.Pure
