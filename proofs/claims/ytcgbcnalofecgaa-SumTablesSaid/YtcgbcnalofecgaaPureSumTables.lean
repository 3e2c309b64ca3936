/- Sums by any table: the program's and the document's come to the same, parted anywhere; for all bytes of up to 3000, and true beyond. No further condition. -/
import Derived.Test.YtcgbcnalofecgaaQ9
import Derived.Test.YtcgbcnalofecgaaSum
namespace Go.Proofs.Ytcgbcnalofecgaa.Pure
open Go.RowKit Go.Proofs.Ytcgbcnalofecgaa.Q Go.Proofs.Ytcgbcnalofecgaa.Sum Go.Proofs.YtcgbcnalofecgaaW.PrintWords Go.Proofs.YtcgbcnalofecgaaW.PrintLast

theorem SumTables : punnetlaw06_SumTables.Pure := by
  intro t s l at0 hs hml hlen hl hat
  refine ⟨l.length + 5, ?_⟩
  have hb := bytes_wf hl
  have h32 := u32_wf hs
  have hlen' : l.length ≤ 140737488351232 := by omega
  have key : ∀ k (a : Int), l.length < k → 0 ≤ a → a ≤ l.length → punnetlaw06_SumTables.j1 (k + 2) s l a t = some true := by
    intro k a hk ha0 ha1
    have hbt := hb.take a.toNat
    have hbd := hb.drop a.toNat
    have hlt : (l.take a.toNat).length ≤ l.length := by rw [List.length_take]; omega
    have hld : (l.drop a.toNat).length ≤ l.length := by rw [List.length_drop]; omega
    have hm := mo_lt t (l.take a.toNat) s h32.1 h32.2
    simp only [punnetlaw06_SumTables.j1, punnetlaw06_SumTables.j2]
    rw [Of_is t hb hlen' (by omega), Option.bind_some, refOf_is t hb hlen' (by omega), Option.bind_some, if_pos rfl]
    rw [More_is t hb hlen' h32.1 h32.2 (by omega), Option.bind_some, refMore_is t hb hlen' h32.1 h32.2 (by omega), Option.bind_some]
    rw [if_neg (by simp), if_pos ha0, if_pos ha1]
    rw [Of_is t hbt (by omega) (by omega), Option.bind_some, On_Of t hbd (by omega) (by omega), Option.bind_some, List.take_append_drop, if_pos rfl]
    rw [More_is t hbt (by omega) h32.1 h32.2 (by omega), Option.bind_some, More_is t hbd (by omega) hm.1 hm.2 (by omega), Option.bind_some]
    rw [More_is t hb hlen' h32.1 h32.2 (by omega), Option.bind_some, ← mo_append, List.take_append_drop]
    simp
  unfold punnetlaw06_SumTables.f
  rw [show punnetlaw06_awake.f = some true from rfl, Option.bind_some, if_pos rfl]
  by_cases h3 : (l.length : Int) > 3000
  · rw [if_pos h3]
  · rw [if_neg h3]
    by_cases h0 : at0 < 0
    · rw [if_pos h0]
      simp only [punnetlaw06_SumTables.j0]
      rw [if_pos trivial]
      exact key (l.length + 2) l.length (by omega) (by omega) (by omega)
    · rw [if_neg h0]
      simp only [punnetlaw06_SumTables.j0]
      by_cases h1 : at0 > (l.length : Int)
      · rw [if_pos (by simpa using h1)]
        exact key (l.length + 2) l.length (by omega) (by omega) (by omega)
      · rw [if_neg (by simpa using h1)]
        exact key (l.length + 2) at0 (by omega) (by omega) (by omega)
end Go.Proofs.Ytcgbcnalofecgaa.Pure
