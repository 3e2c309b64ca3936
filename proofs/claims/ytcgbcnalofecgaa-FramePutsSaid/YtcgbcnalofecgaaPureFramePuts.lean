/- What is framed is read: by any table, whatever stands ahead and behind; for texts of up to 3000 bytes or more than may be, and true beyond. No further condition. -/
import Derived.Test.YtcgbcnalofecgaaQ23
import Derived.Test.YtcgbcnalofecgaaFrameRef
import Derived.Test.YtcgbcnalofecgaaText
namespace Go.Proofs.Ytcgbcnalofecgaa.Pure
open Go.RowKit Go.Proofs.Ytcgbcnalofecgaa.Q Go.Proofs.Ytcgbcnalofecgaa.Sum Go.Proofs.Ytcgbcnalofecgaa.Frame Go.Proofs.Ytcgbcnalofecgaa.Text Go.Proofs.YtcgbcnalofecgaaW.PrintWords Go.Proofs.YtcgbcnalofecgaaW.PrintLast

theorem puts_main (t : Tab) {b ahead behind : List Int} (hb : Bytes b) (ha : Bytes ahead) (hbh : Bytes behind) (h1 : b.length ≤ 70000) (h2 : ahead.length ≤ 3000) (h3 : behind.length ≤ 3000) (n want : Int) (hs : frame_Size.f n = some want) {k : Nat} (hk : 200000 < k) :
    punnetlaw07_FramePuts.j2 (k + 1) b ahead behind n want t = some true := by
  rw [punnetlaw07_FramePuts.j2, Option.bind_some, if_pos (by simp; omega), List.nil_append]
  by_cases hl : 60000 < b.length
  · rw [Put_long t ahead b hl, Option.bind_some, hs, Option.bind_some, if_pos rfl, if_pos (by omega)]
    rfl
  · have hfl := fr_len t b
    have hfb := fr_bytes t hb
    rw [Put_is t ahead b hb (by omega) (by omega) (by omega), Option.bind_some, hs, Option.bind_some, if_pos rfl, if_neg (by omega), refFrame_is t hb (by omega) (by omega), Option.bind_some, if_pos rfl]
    rw [if_pos (by rw [strOfNums_size, strOfNums_size]; omega), strOfNums_append, if_pos rfl, if_pos (by simp only [List.length_append]; omega)]
    have hall : Bytes (ahead ++ fr t b ++ behind) := (ha.append hfb).append hbh
    have hlen : (ahead ++ fr t b ++ behind).length ≤ 74000 := by simp only [List.length_append]; omega
    rw [Get_is t hall (by omega) (a := (ahead.length : Int)) (by omega) (by simp only [List.length_append]; omega) (by omega)]
    have hd1 : (ahead ++ fr t b ++ behind).drop ((ahead.length : Int)).toNat = fr t b ++ behind := by
      rw [show ((ahead.length : Int)).toNat = ahead.length by omega, List.append_assoc, List.drop_left]
    rw [hd1, hd_fr t behind (by omega), Option.bind_some]
    dsimp only
    rw [if_pos rfl, if_pos (by rw [hfl]; unfold wrap64; omega)]
    rfl
theorem FramePuts : punnetlaw07_FramePuts.Pure := by
  intro t b ahead behind n _ hb1 hbw _ ha1 haw _ hh1 hhw hn
  have hb := bytes_wf hbw
  have ha := bytes_wf haw
  have hh := bytes_wf hhw
  have hnw := i64_wf hn
  refine ⟨200010, ?_⟩
  have out : ∀ k x1 x2 x3 x4, punnetlaw07_FramePuts.j0 (k + 1) x1 x2 x3 x4 true t = some true := by intro k x1 x2 x3 x4; rw [punnetlaw07_FramePuts.j0, if_pos rfl]
  have main : b.length ≤ 70000 → ahead.length ≤ 3000 → punnetlaw07_FramePuts.j0 200010 b ahead behind n (decide ((behind.length : Int) > 3000)) t = some true := by
    intro h1 h2
    by_cases h3 : (behind.length : Int) > 3000
    · rw [decide_eq_true h3]; exact out 200009 _ _ _ _
    · rw [decide_eq_false h3, punnetlaw07_FramePuts.j0, if_neg (by simp)]
      by_cases h4 : n ≥ 0
      · rw [if_pos h4]
        by_cases h5 : n ≤ 60000
        · rw [decide_eq_true h5, punnetlaw07_FramePuts.j1, if_pos rfl, show wrap64 (n + 8) = 8 + n by unfold wrap64; omega]
          exact puts_main t hb ha hh h1 h2 (by omega) n _ (size_is h4 h5) (by omega)
        · rw [decide_eq_false h5, punnetlaw07_FramePuts.j1, if_neg (by simp)]
          exact puts_main t hb ha hh h1 h2 (by omega) n _ (by unfold frame_Size.f; rw [if_neg (by omega), if_pos (by omega)]) (by omega)
      · rw [if_neg h4, punnetlaw07_FramePuts.j1, if_neg (by simp)]
        exact puts_main t hb ha hh h1 h2 (by omega) n _ (by unfold frame_Size.f; rw [if_pos (by omega)]) (by omega)
  unfold punnetlaw07_FramePuts.f
  rw [awake07 (by omega), Option.bind_some, if_pos rfl]
  by_cases c1 : (b.length : Int) > 3000
  · rw [if_pos c1]
    by_cases c2 : (b.length : Int) ≤ 60000
    · rw [if_pos c2]; exact out 200009 _ _ _ _
    · rw [if_neg c2]
      by_cases c3 : (b.length : Int) > 70000
      · rw [if_pos c3]; exact out 200009 _ _ _ _
      · rw [if_neg c3]
        by_cases c4 : (ahead.length : Int) > 3000
        · rw [if_pos c4]; exact out 200009 _ _ _ _
        · rw [if_neg c4]; exact main (by omega) (by omega)
  · rw [if_neg c1]
    by_cases c3 : (b.length : Int) > 70000
    · rw [if_pos c3]; exact out 200009 _ _ _ _
    · rw [if_neg c3]
      by_cases c4 : (ahead.length : Int) > 3000
      · rw [if_pos c4]; exact out 200009 _ _ _ _
      · rw [if_neg c4]; exact main (by omega) (by omega)
end Go.Proofs.Ytcgbcnalofecgaa.Pure
