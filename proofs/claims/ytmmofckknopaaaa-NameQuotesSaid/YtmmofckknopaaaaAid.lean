/- A scope with one label: from a relation that bears a number, which every jump lowers, the run comes to its end. No condition. -/
import Derived.ScopeJumps
import Derived.WalkMore
import Derived.Deep.LoopGhost
import Derived.Test.YtmmofckknopaaaaWWords
namespace Go.Proofs.YtmmofckknopaaaaW.PrintWords
open Go.RowKit
/-- The walk's simp doesn't look into it: from every place that the relation I allows the rest runs to Q; whoever jumps hands I on at a smaller number. -/
structure Scoped (P : Program) (rest : Code) (l : Nat) (Q : Exit → Act → World → Prop) (J : Act → World → Prop) : Prop where
  mk :: (out : ∀ I : Nat → Act → World → Prop, (∀ n a w, I n a w → ∀ (J' : Nat → Act → World → Prop) (K : Act → World → Prop), (∀ k a' w', I k a' w' → J' k a' w') → (∀ a' w', Handed J' n a' w' → K a' w') → rest.wp P (Exit.jump l K Q) a w) → ∀ n a w, I n a w → rest.wp P (Exit.jump l J Q) a w)

theorem wp_scope_sem {P : Program} {a : Act} {w : World} {Q : Exit → Act → World → Prop} {c rest : Code} (l : Nat) (hf : findLabel c l = some (.seq .skip rest))
    (H : ∀ J, Scoped P rest l Q J → c.wp P (Exit.jump l J Q) a w) : (Code.scope c).wp P Q a w := by
  let J : Act → World → Prop := fun a w => ∀ b k cs, ∃ e a' w', Q e a' w' ∧ Arrives P (lone (b.at a (.code (.seq .skip rest) :: .inScope c :: k)) cs w) b k cs e a' w'
  have hg : ∀ k, gotoIn l (.inScope c :: k) = some (.code (.seq .skip rest) :: .inScope c :: k) := fun k => by simp [gotoIn, hf]
  have hS : Scoped P rest l Q J := ⟨by
    intro I round
    have key : ∀ n a w, I n a w → J a w := by
      intro n
      induction n using Nat.strongRecOn with
      | _ n ih =>
        intro a w hI b k cs
        obtain ⟨e, a₁, w₁, hq, harr⟩ := wp_seq (wp_skip (Q := Exit.then (rest.wp P (Exit.jump l (fun a' w' => Handed I n a' w') Q)) (Exit.jump l (fun a' w' => Handed I n a' w') Q)) (round n a w hI I (fun a' w' => Handed I n a' w') (fun _ _ _ h => h) (fun _ _ h => h))) b (.inScope c :: k) cs
        cases e with
        | normal => exact ⟨.normal, a₁, w₁, hq, Steps.trans harr (.one step_inScope)⟩
        | exit id => exact ⟨.exit id, a₁, w₁, hq, fun k' hk => harr k' (by simp [exitTo, hk])⟩
        | goto l' =>
          obtain ⟨rfl, m, hlt, hI'⟩ := hq
          obtain ⟨e₂, a₂, w₂, hq₂, harr₂⟩ := ih m hlt a₁ w₁ hI' b k cs
          exact ⟨e₂, a₂, w₂, hq₂, .of_steps (harr _ (hg k)) harr₂⟩
        | ret => exact ⟨_, a₁, w₁, hq, harr⟩
        | panic ch => exact ⟨_, a₁, w₁, hq, harr⟩
        | outgrown => exact ⟨_, a₁, w₁, hq, harr⟩
    intro n a w hI
    refine wp_mono (round n a w hI I (fun a' w' => J a' w') (fun _ _ _ h => h) (fun a' w' ⟨m, _, h⟩ => key m a' w' h)) ?_
    intro e a' w' hq
    exact hq⟩
  have first := H J hS
  intro b k cs
  obtain ⟨e, a₁, w₁, hq, harr⟩ := first b (.inScope c :: k) cs
  cases e with
  | normal => exact ⟨.normal, a₁, w₁, hq, .head step_scope (Steps.trans harr (.one step_inScope))⟩
  | exit id => exact ⟨.exit id, a₁, w₁, hq, fun k' hk => .head step_scope (harr k' (by simp [exitTo, hk]))⟩
  | goto l' =>
    obtain ⟨rfl, hJ'⟩ := hq
    obtain ⟨e₂, a₂, w₂, hq₂, harr₂⟩ := hJ' b k cs
    exact ⟨e₂, a₂, w₂, hq₂, .of_steps (.head step_scope (harr _ (hg k))) harr₂⟩
  | ret => exact ⟨_, a₁, w₁, hq, .of_steps (.one step_scope) harr⟩
  | panic ch => exact ⟨_, a₁, w₁, hq, .of_steps (.one step_scope) harr⟩
  | outgrown => exact ⟨_, a₁, w₁, hq, .of_steps (.one step_scope) harr⟩

theorem own_string_q {P : Program} {w : World} {base n : Nat} {e' src dst e : TypeId} {v : Value} {xs : List Int} (q : Nat) (hs : P.underlying src = some (.slice e)) (he : P.underlying e = some (.int .u8)) (hd : P.underlying dst = some .string)
    (h : w.ownsRow base e' 1 v n (nums .u8 xs)) : (convert src dst v).run P (w.drewN q) = .ok (.string (strOfNums xs)) (w.drewN q) :=
  own_string hs he hd (show (w.drewN q).ownsRow base e' 1 v n (nums .u8 xs) from h)
theorem C_string_q {P : Program} {w : World} {src dst e : TypeId} {A : Option Addr} {n c : Nat} {xs : List Int} (q : Nat) (hs : P.underlying src = some (.slice e)) (he : P.underlying e = some (.int .u8)) (hd : P.underlying dst = some .string)
    (h : Kd.C (Kd.int .u8) w A n xs) : (convert src dst (.slice A n c)).run P (w.drewN q) = .ok (.string (strOfNums xs)) (w.drewN q) :=
  Kd.C_string hs he hd (Kd.C_below h (pw_below_drewN (Below.refl _ _) q))
theorem C_string_q_mid {P : Program} {w : World} {src dst e : TypeId} {A : Option Addr} {c : Nat} {l : List Int} {a b : Int} (q : Nat) (hs : P.underlying src = some (.slice e)) (he : P.underlying e = some (.int .u8)) (hd : P.underlying dst = some .string)
    (hb : b ≤ (l.length : Int)) (h : Kd.C (Kd.int .u8) w A ((l.take b.toNat).drop a.toNat).length ((l.take b.toNat).drop a.toNat)) :
    (convert src dst (.slice A (b.toNat - a.toNat) c)).run P (w.drewN q) = .ok (.string (strOfNums ((l.take b.toNat).drop a.toNat))) (w.drewN q) := by
  have hl : ((l.take b.toNat).drop a.toNat).length = b.toNat - a.toNat := by
    rw [List.length_drop, List.length_take]; omega
  have h1 := C_string_q (c := c) q hs he hd h
  rw [hl] at h1
  exact h1
theorem C_string_mid {P : Program} {w : World} {src dst e : TypeId} {A : Option Addr} {c : Nat} {l : List Int} {a b : Int} (hs : P.underlying src = some (.slice e)) (he : P.underlying e = some (.int .u8)) (hd : P.underlying dst = some .string)
    (hb : b ≤ (l.length : Int)) (h : Kd.C (Kd.int .u8) w A ((l.take b.toNat).drop a.toNat).length ((l.take b.toNat).drop a.toNat)) :
    (convert src dst (.slice A (b.toNat - a.toNat) c)).run P w = .ok (.string (strOfNums ((l.take b.toNat).drop a.toNat))) w := by
  have hl : ((l.take b.toNat).drop a.toNat).length = b.toNat - a.toNat := by
    rw [List.length_drop, List.length_take]; omega
  have h1 := Kd.C_string (c := c) hs he hd h
  rw [hl] at h1
  exact h1
end Go.Proofs.YtmmofckknopaaaaW.PrintWords
