/- A function of the program or a law's row comes to what the Lean function beside it says; no condition beyond those typed. Written by a program of this workplace; Lean checks it. -/
import Derived.Test.YtmmofckknopaaaaQ0
import Derived.Test.YtmmofckknopaaaaQ9
import Derived.Test.YtmmofckknopaaaaQ12
namespace Go.Proofs.Ytmmofckknopaaaa.Q
open Go.RowKit Go.Proofs.YtmmofckknopaaaaW.PrintWords Go.Proofs.YtmmofckknopaaaaW.PrintLast Go.Proofs.YtmmofckknopaaaaW.PrintMore
attribute [local go_sem] max2_int min2_int max_two min_two max_three min_three max_four min_four   -- for this text's walks alone
set_option linter.unusedVariables false
set_option linter.unusedSimpArgs false

/-! ### num_Read: function 26 -/
/-- Is a digit at a place? -/
def dig (s : ByteArray) (i : Nat) : Bool := decide (i < s.size) && (decide (48 ≤ bt s i) && decide (bt s i ≤ 57))
theorem num_digit_is (s : ByteArray) (i : Nat) : num_digit.f s (i : Int) = some (dig s i) := by
  unfold num_digit.f dig
  by_cases h : i < s.size
  · rw [if_pos (by omega), if_pos (by omega)]
    by_cases h1 : bt s (i : Int) ≥ 48
    · rw [if_pos h1]; simp [h, h1]
    · rw [if_neg h1]; simp [h1]
  · rw [if_neg (by omega)]; simp [h]
/-- What stands at a place belongs to no print. -/
def bad (s : ByteArray) (i : Nat) : Bool := !(dig s i) && (decide ((0 : Int) < i) || (bt s 0 != 45))
def badFrom (s : ByteArray) : Nat → Nat → Bool
  | 0, _ => false
  | d + 1, i => bad s i || badFrom s d (i + 1)
theorem iter_drewN (w : World) (s : ByteArray) (i n : Nat) : (w.iter s i).drewN n = (w.drewN n).iter s i := rfl
theorem run_next_any {P : Program} (w : World) (s : ByteArray) (pos : Nat) (ty : TypeId) (h : pos < s.size) : ∃ r n, (Instr.next (.pointer (some ⟨w.heap.size, 0, none⟩)) true ty).run P (w.iter s pos) = .ok (.tuple #[.bool true, .int .i64 pos, .int .i32 r]) (w.iter s (pos + n)) := by
  obtain ⟨r, n, e⟩ : ∃ r n, Utf8.decode s pos = (r, n) := ⟨_, _, rfl⟩
  refine ⟨r, n, ?_⟩
  simp only [Instr.next, getObj, setObj, Sem.run_bind, Sem.run, World.iter_heap, Result.andThen, h, if_true, e, World.iter_set]
  simp [goInt, Sem.run, World.iter_heap, World.iter_set]
def num_Read.f (k : Nat) (s : ByteArray) : Option (Int × Int) := (num_Scan.f k s 0).bind fun b => if b.2.2 = 3 then (if badFrom s s.size 0 = true then some (0, 4) else some (0, 3)) else if b.2.2 = 0 then (if b.2.1 = s.size then some (b.1, 0) else some (0, 4)) else some (0, b.2.2)
set_option maxHeartbeats 2000000 in
set_option maxRecDepth 100000 in
theorem num_Read.calls_over (k : Nat) (s : ByteArray) (n next : Int) (r2 : Int) (w : World) (h : num_Scan.f k s 0 = some (n, next, 3)) (hr : (if badFrom s s.size 0 = true then (4 : Int) else 3) = r2) :
    Calls Try.prog 26 #[.string s] w fun e w' => e = .returned (.tuple #[.int .i64 0, .int .i64 r2]) ∧ Below w.heap.size w w' := by
  have H := Aside0.mk h
  have HR := Aside0.mk hr
  clear h hr
  go_enter Try.func26, Try.ntmps26
  go_wp2_with (go_at_call 28; refine (num_Scan.calls k s 0 n next 3 _ H.out).mono ?_; rintro e w' ⟨rfl, ⟨m, rfl⟩⟩)
  go_loopg [7] s.size (fun kq v7 w' => ∃ (i n : Nat), Aside0 (i + kq = s.size) ∧ Aside0 ((if badFrom s kq i = true then (4 : Int) else 3) = r2) ∧ w' = (w.drewN n).iter s i)
  case atStart => exact ⟨0, m, ⟨by omega⟩, HR, rfl⟩
  case round =>
    obtain ⟨i, nd, HI, HBF, rfl⟩ := hrel
    have hi := HI.out
    by_cases hlt : i < s.size
    · obtain ⟨kq, rfl⟩ : ∃ q, gk = q + 1 := ⟨gk - 1, by omega⟩
      obtain ⟨rn, n1, hnx⟩ := run_next_any (P := Try.prog) (w.drewN nd) s i 0 hlt
      have hnx : (Instr.next (.pointer (some ⟨w.heap.size, 0, none⟩)) true 0).run Try.prog ((w.drewN nd).iter s i) = _ := hnx
      have hd := num_digit_is s i
      have HD := Aside0.mk hd
      have hbt := bt_at s (i : Int)
      have HBT := Aside0.mk hbt
      clear hd hbt
      have h0 : 0 < s.size := by omega
      have hbt0 : ∀ h : 0 < s.size, ((s[0]'h).toNat : Int) = bt s 0 := fun h => bt_at s 0 h
      cases hdg : dig s i with
      | true =>
        have hb : bad s i = false := by unfold bad; rw [hdg]; rfl
        have hasc : (s[i]'hlt).toNat < 128 := by
          have h1 : ((s[i]'hlt).toNat : Int) = bt s i := HBT.out (by simpa using hlt)
          unfold dig at hdg
          simp only [Bool.and_eq_true, decide_eq_true_eq] at hdg
          omega
        have hnx2 := run_next_ascii (P := Try.prog) (w.drewN nd) s i 0 hlt hasc
        have hnx2 : (Instr.next (.pointer (some ⟨w.heap.size, 0, none⟩)) true 0).run Try.prog ((w.drewN nd).iter s i) = _ := hnx2
        clear hnx
        have HDG := Aside0.mk hdg
        have HBB := Aside0.mk hb
        have HHT := Aside0.mk hlt
        clear hdg hb hbt0
        go_wp2_with (go_at_call 46; refine (num_digit.calls s i true _ (by rw [HD.out, HDG.out])).mono ?_; rintro e w' ⟨rfl, ⟨m2, rfl⟩⟩)
        rw [iter_drewN, World.drewN_drewN]
        go_roundg kq
        case measure => omega
        case rel => exact ⟨i + 1, nd + m2, ⟨by omega⟩, ⟨by have := HBF.out; rw [badFrom, HBB.out, Bool.false_or] at this; exact this⟩, rfl⟩
      | false =>
        by_cases hi0 : 0 < i
        · have hb : bad s i = true := by unfold bad; rw [hdg]; simp; omega
          have hr : r2 = 4 := by have := HBF.out; rw [badFrom, hb, Bool.true_or] at this; exact this.symm
          have c1 : decide ((0 : Int) < (i : Int)) = true := decide_eq_true (by omega)
          have HR4 := Aside0.mk hr
          have HDG := Aside0.mk hdg
          clear hdg hb hbt0 hr
          go_wp2_with (go_at_call 46; refine (num_digit.calls s i false _ (by rw [HD.out, HDG.out])).mono ?_; rintro e w' ⟨rfl, ⟨m2, rfl⟩⟩)
          go_ret2
          exact ⟨by rw [HR4.out]; rfl, pw_below_drewN (below_alloc (pw_below_drewN (Below.refl _ _) nd) _) _⟩
        · obtain rfl : i = 0 := by omega
          by_cases h45 : bt s 0 = 45
          · have hb : bad s 0 = false := by unfold bad; rw [hdg, h45]; rfl
            have hasc : (s[0]'hlt).toNat < 128 := by have := hbt0 hlt; omega
            have hnx2 := run_next_ascii (P := Try.prog) (w.drewN nd) s 0 0 hlt hasc
            have hnx2 : (Instr.next (.pointer (some ⟨w.heap.size, 0, none⟩)) true 0).run Try.prog ((w.drewN nd).iter s 0) = _ := hnx2
            clear hnx
            have c1 : decide ((0 : Int) < ((0 : Nat) : Int)) = false := decide_eq_false (by omega)
            have c2 : (((s[0]'hlt).toNat : Int) != 45) = false := by rw [hbt0 hlt, h45]; rfl
            have HDG := Aside0.mk hdg
            have HBB := Aside0.mk hb
            clear hdg hb hbt0 h45
            go_wp2_with (go_at_call 46; refine (num_digit.calls s (0 : Nat) false _ (by rw [HD.out, HDG.out])).mono ?_; rintro e w' ⟨rfl, ⟨m2, rfl⟩⟩)
            rw [iter_drewN, World.drewN_drewN]
            go_roundg kq
            case measure => omega
            case rel => exact ⟨0 + 1, nd + m2, ⟨by omega⟩, ⟨by have := HBF.out; rw [badFrom, HBB.out, Bool.false_or] at this; exact this⟩, rfl⟩
          · have hb : bad s 0 = true := by unfold bad; rw [hdg]; simpa using h45
            have hr : r2 = 4 := by have := HBF.out; rw [badFrom, hb, Bool.true_or] at this; exact this.symm
            have c1 : decide ((0 : Int) < ((0 : Nat) : Int)) = false := decide_eq_false (by omega)
            have c2 : (((s[0]'hlt).toNat : Int) != 45) = true := by rw [hbt0 hlt]; exact bne_iff_ne.2 h45
            have HR4 := Aside0.mk hr
            have HDG := Aside0.mk hdg
            clear hdg hb hbt0 hr h45
            go_wp2_with (go_at_call 46; refine (num_digit.calls s (0 : Nat) false _ (by rw [HD.out, HDG.out])).mono ?_; rintro e w' ⟨rfl, ⟨m2, rfl⟩⟩)
            go_ret2
            exact ⟨by rw [HR4.out]; rfl, pw_below_drewN (below_alloc (pw_below_drewN (Below.refl _ _) nd) _) _⟩
    · have hkq : gk = 0 := by omega
      have hnx := run_next_end (P := Try.prog) (w.drewN nd) s i 0 hlt
      have hnx : (Instr.next (.pointer (some ⟨w.heap.size, 0, none⟩)) true 0).run Try.prog ((w.drewN nd).iter s i) = _ := hnx
      have hr : r2 = 3 := by have := HBF.out; rw [hkq] at this; exact this.symm
      have HR3 := Aside0.mk hr
      clear hr hkq
      go_wp2
      go_ret2
      exact ⟨by rw [HR3.out]; rfl, below_alloc (pw_below_drewN (Below.refl _ _) nd) _⟩
set_option maxHeartbeats 2000000 in
set_option maxRecDepth 100000 in
theorem num_Read.calls_else (k : Nat) (s : ByteArray) (n next e : Int) (r1 r2 : Int) (w : World) (h : num_Scan.f k s 0 = some (n, next, e)) (he : ¬ e = 3) (hr : (if e = 0 then (if next = s.size then some (n, 0) else some (0, 4)) else some (0, e)) = some (r1, r2)) :
    Calls Try.prog 26 #[.string s] w fun e w' => e = .returned (.tuple #[.int .i64 r1, .int .i64 r2]) ∧ Below w.heap.size w w' := by
  have H := Aside0.mk h
  clear h
  have c1 : (e == 3) = false := beq_eq_false_iff_ne.mpr he
  by_cases h0 : e = 0
  · rw [if_pos h0] at hr
    have c2 : (e != 0) = false := by simp [h0]
    by_cases hn : next = s.size
    · rw [if_pos hn] at hr
      have c3 : (next != (s.size : Int)) = false := by simp [hn]
      simp only [Option.some.injEq, Prod.mk.injEq] at hr
      obtain ⟨rfl, rfl⟩ := hr
      clear h0 hn he
      go_enter Try.func26, Try.ntmps26
      go_wp2_with (go_at_call 28; refine (num_Scan.calls k s 0 n next e _ H.out).mono ?_; rintro e w' ⟨rfl, ⟨m, rfl⟩⟩)
      go_ret2
      exact ⟨rfl, pw_below_drewN (Below.refl _ _) _⟩
    · rw [if_neg hn] at hr
      have c3 : (next != (s.size : Int)) = true := by simpa using hn
      simp only [Option.some.injEq, Prod.mk.injEq] at hr
      obtain ⟨rfl, rfl⟩ := hr
      clear h0 hn he
      go_enter Try.func26, Try.ntmps26
      go_wp2_with (go_at_call 28; refine (num_Scan.calls k s 0 n next e _ H.out).mono ?_; rintro e w' ⟨rfl, ⟨m, rfl⟩⟩)
      go_ret2
      exact ⟨rfl, pw_below_drewN (Below.refl _ _) _⟩
  · rw [if_neg h0] at hr
    have c2 : (e != 0) = true := by simpa using h0
    simp only [Option.some.injEq, Prod.mk.injEq] at hr
    obtain ⟨rfl, rfl⟩ := hr
    clear h0 he
    go_enter Try.func26, Try.ntmps26
    go_wp2_with (go_at_call 28; refine (num_Scan.calls k s 0 n next e _ H.out).mono ?_; rintro e w' ⟨rfl, ⟨m, rfl⟩⟩)
    go_ret2
    exact ⟨rfl, pw_below_drewN (Below.refl _ _) _⟩
theorem num_Read.mono : ∀ s k, LeO (num_Read.f k s) (num_Read.f (k + 1) s) := by
  intro s k
  unfold num_Read.f
  exact LeO.bind (num_Scan.mono _ _ _) (fun _ => LeO.refl _)
theorem num_Read.calls (k : Nat) (a0 : ByteArray) (r1 : Int) (r2 : Int) (w : World) (h : num_Read.f k a0 = some (r1, r2)) :
    Calls Try.prog 26 #[.string a0] w fun e w' => e = .returned (.tuple #[.int .i64 r1, .int .i64 r2]) ∧ Below w.heap.size w w' := by
  unfold num_Read.f at h
  obtain ⟨⟨n, next, e⟩, h1, h2⟩ := Option.bind_eq_some_iff.mp h
  dsimp only at h2
  by_cases he : e = 3
  · subst he
    rw [if_pos rfl] at h2
    have hr : r1 = 0 ∧ (if badFrom a0 a0.size 0 = true then (4 : Int) else 3) = r2 := by
      split at h2
      · rename_i hb; simp only [Option.some.injEq, Prod.mk.injEq] at h2; exact ⟨h2.1.symm, by rw [if_pos hb]; exact h2.2⟩
      · rename_i hb; simp only [Option.some.injEq, Prod.mk.injEq] at h2; exact ⟨h2.1.symm, by rw [if_neg hb]; exact h2.2⟩
    obtain ⟨rfl, hr⟩ := hr
    exact num_Read.calls_over k a0 n next r2 w h1 hr
  · rw [if_neg he] at h2
    exact num_Read.calls_else k a0 n next e r1 r2 w h1 he h2

end Go.Proofs.Ytmmofckknopaaaa.Q
