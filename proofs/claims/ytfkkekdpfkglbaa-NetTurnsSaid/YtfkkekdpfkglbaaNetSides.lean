/- The law's walk: any places and any line; who isn't apart keeps together. Conditions: as typed. -/
import Derived.Test.YtfkkekdpfkglbaaNetDay
namespace Go.Proofs.Ytfkkekdpfkglbaa.Q
open Go.RowKit Go.Proofs.YtfkkekdpfkglbaaW.PrintWords Go.Proofs.YtfkkekdpfkglbaaW.PrintLast Go.Proofs.YtfkkekdpfkglbaaW.PrintMore
set_option linter.unusedVariables false
set_option linter.unusedSimpArgs false
theorem apB_symm (sd : Nat × Nat → Int) (ps : List (Nat × Nat)) (a b : Int) : apB sd ps b a = apB sd ps a b := by
  unfold apB
  cases repB ps.length a <;> cases repB ps.length b <;> simp [bne_comm]
theorem apB_self (sd : Nat × Nat → Int) (ps : List (Nat × Nat)) (a : Int) : apB sd ps a a = false := by
  unfold apB
  cases repB ps.length a <;> simp
theorem apB_zero {sd : Nat × Nat → Int} {ps : List (Nat × Nat)} (h : ∃ c, ∀ z ∈ ps, sd z = c) (a b : Int) : apB sd ps a b = false := by
  obtain ⟨c, h⟩ := h
  unfold apB
  cases ha : repB ps.length a with
  | false => rfl
  | true =>
    cases hb : repB ps.length b with
    | false => rfl
    | true =>
      have ea : 1 ≤ a ∧ a ≤ (ps.length : Int) := of_decide_eq_true ha
      have eb : 1 ≤ b ∧ b ≤ (ps.length : Int) := of_decide_eq_true hb
      rw [h _ (getD_mem (show (a - 1).toNat < ps.length by omega)), h _ (getD_mem (show (b - 1).toNat < ps.length by omega))]
      simp
theorem apB_trans {sd : Nat × Nat → Int} {ps : List (Nat × Nat)} {a b c : Int} (hb : repB ps.length b = true) (h1 : apB sd ps a b = false) (h2 : apB sd ps b c = false) : apB sd ps a c = false := by
  unfold apB at *
  rw [hb] at h1 h2
  cases ha : repB ps.length a <;> cases hc : repB ps.length c <;> simp_all
theorem apB_out {sd : Nat × Nat → Int} {ps : List (Nat × Nat)} {a c : Int} (hc : repB ps.length c = false) : apB sd ps a c = false := by
  unfold apB
  rw [hc]
  cases repB ps.length a <;> rfl
set_option maxHeartbeats 8000000 in
set_option maxRecDepth 100000 in
theorem netSides_new (A0 A1 : Option Addr) (c0 c1 : Nat) (re im : List Int) (x y off a b c : Int) (w : World) (h0 : Kd.C (Kd.int .i64) w A0 re.length re) (h1 : Kd.C (Kd.int .i64) w A1 im.length im) (hc0 : re.length ≤ c0) (hc1 : im.length ≤ c1)
    (hbad : ¬ ((re.length = im.length ∧ 1 ≤ re.length ∧ re.length ≤ 6) ∧ ∀ i : Nat, i < re.length → okP (rd re (i : Int)) (rd im (i : Int)) = true)) :
    Calls Try.prog 4 #[.slice A0 re.length c0, .slice A1 im.length c1, .int .i64 x, .int .i64 y, .int .i64 off, .int .i64 a, .int .i64 b, .int .i64 c] w fun e w' => e = .returned (.bool true) ∧ Below w.heap.size w w' := by
  have HR0 := Aside0.mk h0
  have HR1 := Aside0.mk h1
  clear h0 h1
  by_cases hl : re.length = im.length ∧ 1 ≤ re.length ∧ re.length ≤ 6
  · have hex : ∃ m, m < re.length ∧ okP (rd re (m : Int)) (rd im (m : Int)) = false ∧ ∀ i : Nat, i < m → okP (rd re (i : Int)) (rd im (i : Int)) = true := by
      have hne : ∃ m : Nat, m < re.length ∧ okP (rd re (m : Int)) (rd im (m : Int)) = false := by
        apply Classical.byContradiction
        intro hno
        apply hbad
        refine ⟨hl, fun i hi => ?_⟩
        cases hk : okP (rd re (i : Int)) (rd im (i : Int)) with
        | true => rfl
        | false => exact absurd ⟨i, hi, hk⟩ hno
      have key : ∀ n : Nat, (∃ m : Nat, m < n ∧ m < re.length ∧ okP (rd re (m : Int)) (rd im (m : Int)) = false) → ∃ m, m < re.length ∧ okP (rd re (m : Int)) (rd im (m : Int)) = false ∧ ∀ i : Nat, i < m → okP (rd re (i : Int)) (rd im (i : Int)) = true := by
        intro n
        induction n with
        | zero => rintro ⟨m, hm, _⟩; omega
        | succ n ih =>
          rintro ⟨m, hm, hm2, hk⟩
          by_cases hs : ∃ m' : Nat, m' < n ∧ m' < re.length ∧ okP (rd re (m' : Int)) (rd im (m' : Int)) = false
          · exact ih hs
          · refine ⟨m, hm2, hk, fun i hi => ?_⟩
            cases hk2 : okP (rd re (i : Int)) (rd im (i : Int)) with
            | true => rfl
            | false => exact absurd ⟨i, by omega, by omega, hk2⟩ hs
      obtain ⟨m, hm, hk⟩ := hne
      exact key re.length ⟨m, hm, hm, hk⟩
    obtain ⟨m, hm, hk, hall⟩ := hex
    have HL := Aside0.mk hl
    have HM := Aside0.mk hm
    have HK := Aside0.mk hk
    have HA := Aside0.mk hall
    clear hl hm hk hall hbad
    go_enter Try.func4, Try.ntmps4
    go_wp2_with (first | (go_at_call 11; (with_reducible refine (net_awake.calls _).mono ?_); rintro e w1 ⟨rfl, hb1⟩; have HB1 := Aside0.mk hb1; clear hb1) | (go_at_call 12; (with_reducible refine (net_New.bad _ _ _ _ re im _ (Kd.C_below HR0.out HB1.out) (Kd.C_below HR1.out HB1.out) hc0 hc1 HL.out.1 HL.out.2.1 HL.out.2.2 m HM.out HK.out HA.out).mono ?_); rintro e w2 ⟨rfl, hb2⟩; have HB2 := Aside0.mk (below_then HB1.out HB1.out.size hb2); clear hb2))
    go_ret
    exact ⟨rfl, HB2.out⟩
  · have HL := Aside0.mk hl
    clear hl hbad
    go_enter Try.func4, Try.ntmps4
    go_wp2_with (first | (go_at_call 11; (with_reducible refine (net_awake.calls _).mono ?_); rintro e w1 ⟨rfl, hb1⟩; have HB1 := Aside0.mk hb1; clear hb1) | (go_at_call 12; (with_reducible refine (net_New.size _ _ _ _ _ _ _ HL.out).mono ?_); rintro e w2 ⟨rfl, hb2⟩; have HB2 := Aside0.mk (below_then HB1.out HB1.out.size hb2); clear hb2))
    go_ret
    exact ⟨rfl, HB2.out⟩
theorem day_zero : okP 0 0 = true := by decide +kernel
set_option maxHeartbeats 8000000 in
set_option maxRecDepth 100000 in
theorem netSides_ok (A0 A1 : Option Addr) (c0 c1 : Nat) (re im : List Int) (x y off a b c : Int) (w : World) (h0 : Kd.C (Kd.int .i64) w A0 re.length re) (h1 : Kd.C (Kd.int .i64) w A1 im.length im) (hc0 : re.length ≤ c0) (hc1 : im.length ≤ c1)
    (hl : re.length = im.length ∧ 1 ≤ re.length ∧ re.length ≤ 6) (hk : ∀ i : Nat, i < re.length → okP (rd re (i : Int)) (rd im (i : Int)) = true) (ps : List (Nat × Nat)) (hps : ps = pts re im re.length)
    (hs0 : ∀ z ∈ ps, ∃ c, plane_Side.f 2 (0, 0) 0 z = some (sdF (0, 0) 0 z, c)) (hz0 : ∃ c, ∀ z ∈ ps, sdF (0, 0) 0 z = c)
    (hs1 : okP x y = true → ∀ z ∈ ps, ∃ c, plane_Side.f 2 (zOf x y) off z = some (sdF (zOf x y) off z, c))
    (hs2 : ∀ z ∈ ps, ∃ c, plane_Side.f 2 (zOf 0 0) off z = some (sdF (zOf 0 0) off z, c)) (hz2 : ∃ c, ∀ z ∈ ps, sdF (zOf 0 0) off z = c) :
    Calls Try.prog 4 #[.slice A0 re.length c0, .slice A1 im.length c1, .int .i64 x, .int .i64 y, .int .i64 off, .int .i64 a, .int .i64 b, .int .i64 c] w fun e w' => e = .returned (.bool true) ∧ Below w.heap.size w w' := by
  have HR0 := Aside0.mk h0
  have HR1 := Aside0.mk h1
  have HL := Aside0.mk hl
  have HK := Aside0.mk hk
  have HS0 := Aside0.mk hs0
  have HS2 := Aside0.mk hs2
  have z0 := apB_zero hz0 a b
  have z2 := apB_zero hz2 a b
  have hsym := apB_symm (sdF (zOf x y) off) ps a b
  have haa := apB_self (sdF (zOf x y) off) ps a
  have HP := Aside0.mk hps
  have hlen : ps.length = re.length := by rw [hps, pts_length]
  have HLP := Aside0.mk hlen
  clear h0 h1 hl hk hs0 hs2 hz0 hz2 hps hlen
  cases hxy : okP x y with
  | false =>
    clear hs1
    go_enter Try.func4, Try.ntmps4
    go_wp2_with (first | (go_at_call 11; (with_reducible refine (net_awake.calls _).mono ?_); rintro e w1 ⟨rfl, hb1⟩; have HB1 := Aside0.mk hb1; clear hb1) | (go_at_call 12; (with_reducible refine (net_New.calls _ _ _ _ re im _ (Kd.C_below HR0.out HB1.out) (Kd.C_below HR1.out HB1.out) hc0 hc1 HL.out.1 HL.out.2.1 HL.out.2.2 HK.out).mono ?_); rintro e w2 ⟨g, rfl, hn2, hg2, hb2⟩; have HN := Aside0.mk (HP.out ▸ hn2 : NetAt w2 g ps (0, 0) 0); have HB2 := Aside0.mk (below_then HB1.out HB1.out.size hb2); have HG := Aside0.mk (Nat.le_trans HB1.out.size hg2); clear hn2 hb2 hg2) | (go_at_call 14; (with_reducible refine (net_Apart.calls g _ _ 0 ps (0, 0) (sdF (0, 0) 0) _ (by first | exact HN.out | exact HN.out.drewN _) HS0.out).mono ?_); rintro e wa ⟨rfl, ⟨na, rfl⟩⟩) | (go_at_call 13; (with_reducible refine (net_Cut.again g x y off 0 ps (0, 0) _ (by first | exact HN.out | exact HN.out.drewN _)).mono ?_); rintro e w3 ⟨rfl, hn3, hb3⟩; have HN3 := Aside0.mk hn3; have HB3 := Aside0.mk ((pw_below_drewN HB2.out _).trans (hb3.mono HG.out)); clear hn3 hb3))
    go_ret
    exact ⟨rfl, HB3.out⟩
  | true =>
    have HS1 := Aside0.mk (hs1 hxy)
    clear hs1
    go_enter Try.func4, Try.ntmps4
    go_upto_region 9 with (first | (go_at_call 11; (with_reducible refine (net_awake.calls _).mono ?_); rintro e w1 ⟨rfl, hb1⟩; have HB1 := Aside0.mk hb1; clear hb1) | (go_at_call 12; (with_reducible refine (net_New.calls _ _ _ _ re im _ (Kd.C_below HR0.out HB1.out) (Kd.C_below HR1.out HB1.out) hc0 hc1 HL.out.1 HL.out.2.1 HL.out.2.2 HK.out).mono ?_); rintro e w2 ⟨g, rfl, hn2, hg2, hb2⟩; have HN := Aside0.mk (HP.out ▸ hn2 : NetAt w2 g ps (0, 0) 0); have HB2 := Aside0.mk (below_then HB1.out HB1.out.size hb2); have HG := Aside0.mk (Nat.le_trans HB1.out.size hg2); clear hn2 hb2 hg2) | (go_at_call 14; (with_reducible refine (net_Apart.calls g _ _ 0 ps (0, 0) (sdF (0, 0) 0) _ (by first | exact HN.out | exact HN.out.drewN _) HS0.out).mono ?_); rintro e wa ⟨rfl, ⟨na, rfl⟩⟩) | (go_at_call 13; (with_reducible refine (net_Cut.again g x y off 0 ps (0, 0) _ (by first | exact HN.out | exact HN.out.drewN _)).mono ?_); rintro e w3 ⟨rfl, hn3, hb3⟩; have HN3 := Aside0.mk hn3; have HB3 := Aside0.mk ((pw_below_drewN HB2.out _).trans (hb3.mono HG.out)); clear hn3 hb3))
    have HN4 := Aside0.mk (by have h := HN3.out; rw [if_pos hxy, if_pos hxy] at h; exact h : NetAt w3 g ps (zOf x y) off)
    have HB4 := HB3
    clear HN3 HB3 HN HB2
    by_cases ca : 1 ≤ a ∧ a ≤ (re.length : Int)
    · have d1 : decide (a < 1) = false := decide_eq_false (by omega)
      have d2 : decide ((re.length : Int) < a) = false := decide_eq_false (by omega)
      have va : repB ps.length a = true := decide_eq_true (by rw [HLP.out]; exact ca)
      by_cases cb : 1 ≤ b ∧ b ≤ (re.length : Int)
      · have d3 : decide (b < 1) = false := decide_eq_false (by omega)
        have d4 : decide ((re.length : Int) < b) = false := decide_eq_false (by omega)
        have vb : repB ps.length b = true := decide_eq_true (by rw [HLP.out]; exact cb)
        by_cases cc : 1 ≤ c ∧ c ≤ (re.length : Int)
        · have d5 : decide (c < 1) = false := decide_eq_false (by omega)
          have d6 : decide ((re.length : Int) < c) = false := decide_eq_false (by omega)
          have htr := Aside0.mk (fun h1 h2 => apB_trans (sd := sdF (zOf x y) off) (ps := ps) (a := a) (b := b) (c := c) vb h1 h2)
          clear va vb ca cb cc HLP
          cases hp : apB (sdF (zOf x y) off) ps a b with
          | true =>
            rw [hp] at hsym
            go_wp2_with (first | (go_at_call 14; (with_reducible refine (net_Apart.calls g _ _ off ps (zOf x y) (sdF (zOf x y) off) _ (by first | exact HN4.out | exact HN4.out.drewN _) HS1.out).mono ?_); rintro e wa ⟨rfl, ⟨na, rfl⟩⟩) | (go_at_call 13; (with_reducible refine (net_Cut.again g 0 0 off off ps (zOf x y) _ (by first | exact HN4.out | exact HN4.out.drewN _)).mono ?_); rintro e w5 ⟨rfl, hn5, hb5⟩; rw [if_pos day_zero, if_pos day_zero] at hn5; have HN5 := Aside0.mk hn5; have HB5 := Aside0.mk ((pw_below_drewN HB4.out _).trans (hb5.mono HG.out)); clear hn5 hb5) | (go_at_call 14; (with_reducible refine (net_Apart.calls g _ _ off ps (zOf 0 0) (sdF (zOf 0 0) off) _ (by first | exact HN5.out | exact HN5.out.drewN _) HS2.out).mono ?_); rintro e wa ⟨rfl, ⟨na, rfl⟩⟩))
            go_ret
            exact ⟨rfl, pw_below_drewN HB5.out _⟩
          | false =>
            rw [hp] at hsym
            cases hq : apB (sdF (zOf x y) off) ps b c with
            | true =>
              go_wp2_with (first | (go_at_call 14; (with_reducible refine (net_Apart.calls g _ _ off ps (zOf x y) (sdF (zOf x y) off) _ (by first | exact HN4.out | exact HN4.out.drewN _) HS1.out).mono ?_); rintro e wa ⟨rfl, ⟨na, rfl⟩⟩) | (go_at_call 13; (with_reducible refine (net_Cut.again g 0 0 off off ps (zOf x y) _ (by first | exact HN4.out | exact HN4.out.drewN _)).mono ?_); rintro e w5 ⟨rfl, hn5, hb5⟩; rw [if_pos day_zero, if_pos day_zero] at hn5; have HN5 := Aside0.mk hn5; have HB5 := Aside0.mk ((pw_below_drewN HB4.out _).trans (hb5.mono HG.out)); clear hn5 hb5) | (go_at_call 14; (with_reducible refine (net_Apart.calls g _ _ off ps (zOf 0 0) (sdF (zOf 0 0) off) _ (by first | exact HN5.out | exact HN5.out.drewN _) HS2.out).mono ?_); rintro e wa ⟨rfl, ⟨na, rfl⟩⟩))
              go_ret
              exact ⟨rfl, pw_below_drewN HB5.out _⟩
            | false =>
              have hr := htr.out hp hq
              go_wp2_with (first | (go_at_call 14; (with_reducible refine (net_Apart.calls g _ _ off ps (zOf x y) (sdF (zOf x y) off) _ (by first | exact HN4.out | exact HN4.out.drewN _) HS1.out).mono ?_); rintro e wa ⟨rfl, ⟨na, rfl⟩⟩) | (go_at_call 13; (with_reducible refine (net_Cut.again g 0 0 off off ps (zOf x y) _ (by first | exact HN4.out | exact HN4.out.drewN _)).mono ?_); rintro e w5 ⟨rfl, hn5, hb5⟩; rw [if_pos day_zero, if_pos day_zero] at hn5; have HN5 := Aside0.mk hn5; have HB5 := Aside0.mk ((pw_below_drewN HB4.out _).trans (hb5.mono HG.out)); clear hn5 hb5) | (go_at_call 14; (with_reducible refine (net_Apart.calls g _ _ off ps (zOf 0 0) (sdF (zOf 0 0) off) _ (by first | exact HN5.out | exact HN5.out.drewN _) HS2.out).mono ?_); rintro e wa ⟨rfl, ⟨na, rfl⟩⟩))
              go_ret
              exact ⟨rfl, pw_below_drewN HB5.out _⟩
        · have hac := apB_out (sd := sdF (zOf x y) off) (ps := ps) (a := a) (c := c) (decide_eq_false (by rw [HLP.out]; exact cc))
          have hbc := apB_out (sd := sdF (zOf x y) off) (ps := ps) (a := b) (c := c) (decide_eq_false (by rw [HLP.out]; exact cc))
          clear va vb HLP
          cases hp : apB (sdF (zOf x y) off) ps a b <;> rw [hp] at hsym
          all_goals
            by_cases c5 : c < 1
            · have d5 : decide (c < 1) = true := decide_eq_true c5
              clear ca cb cc c5
              go_wp2_with (first | (go_at_call 14; (with_reducible refine (net_Apart.calls g _ _ off ps (zOf x y) (sdF (zOf x y) off) _ (by first | exact HN4.out | exact HN4.out.drewN _) HS1.out).mono ?_); rintro e wa ⟨rfl, ⟨na, rfl⟩⟩) | (go_at_call 13; (with_reducible refine (net_Cut.again g 0 0 off off ps (zOf x y) _ (by first | exact HN4.out | exact HN4.out.drewN _)).mono ?_); rintro e w5 ⟨rfl, hn5, hb5⟩; rw [if_pos day_zero, if_pos day_zero] at hn5; have HN5 := Aside0.mk hn5; have HB5 := Aside0.mk ((pw_below_drewN HB4.out _).trans (hb5.mono HG.out)); clear hn5 hb5) | (go_at_call 14; (with_reducible refine (net_Apart.calls g _ _ off ps (zOf 0 0) (sdF (zOf 0 0) off) _ (by first | exact HN5.out | exact HN5.out.drewN _) HS2.out).mono ?_); rintro e wa ⟨rfl, ⟨na, rfl⟩⟩))
              go_ret
              exact ⟨rfl, pw_below_drewN HB4.out _⟩
            · have d5 : decide (c < 1) = false := decide_eq_false (by omega)
              have d6 : decide ((re.length : Int) < c) = true := decide_eq_true (by omega)
              clear ca cb cc c5
              go_wp2_with (first | (go_at_call 14; (with_reducible refine (net_Apart.calls g _ _ off ps (zOf x y) (sdF (zOf x y) off) _ (by first | exact HN4.out | exact HN4.out.drewN _) HS1.out).mono ?_); rintro e wa ⟨rfl, ⟨na, rfl⟩⟩) | (go_at_call 13; (with_reducible refine (net_Cut.again g 0 0 off off ps (zOf x y) _ (by first | exact HN4.out | exact HN4.out.drewN _)).mono ?_); rintro e w5 ⟨rfl, hn5, hb5⟩; rw [if_pos day_zero, if_pos day_zero] at hn5; have HN5 := Aside0.mk hn5; have HB5 := Aside0.mk ((pw_below_drewN HB4.out _).trans (hb5.mono HG.out)); clear hn5 hb5) | (go_at_call 14; (with_reducible refine (net_Apart.calls g _ _ off ps (zOf 0 0) (sdF (zOf 0 0) off) _ (by first | exact HN5.out | exact HN5.out.drewN _) HS2.out).mono ?_); rintro e wa ⟨rfl, ⟨na, rfl⟩⟩))
              go_ret
              exact ⟨rfl, pw_below_drewN HB4.out _⟩
      · clear va HLP
        cases hp : apB (sdF (zOf x y) off) ps a b <;> rw [hp] at hsym
        all_goals
          by_cases c3 : b < 1
          · have d3 : decide (b < 1) = true := decide_eq_true c3
            clear ca cb c3
            go_wp2_with (first | (go_at_call 14; (with_reducible refine (net_Apart.calls g _ _ off ps (zOf x y) (sdF (zOf x y) off) _ (by first | exact HN4.out | exact HN4.out.drewN _) HS1.out).mono ?_); rintro e wa ⟨rfl, ⟨na, rfl⟩⟩) | (go_at_call 13; (with_reducible refine (net_Cut.again g 0 0 off off ps (zOf x y) _ (by first | exact HN4.out | exact HN4.out.drewN _)).mono ?_); rintro e w5 ⟨rfl, hn5, hb5⟩; rw [if_pos day_zero, if_pos day_zero] at hn5; have HN5 := Aside0.mk hn5; have HB5 := Aside0.mk ((pw_below_drewN HB4.out _).trans (hb5.mono HG.out)); clear hn5 hb5) | (go_at_call 14; (with_reducible refine (net_Apart.calls g _ _ off ps (zOf 0 0) (sdF (zOf 0 0) off) _ (by first | exact HN5.out | exact HN5.out.drewN _) HS2.out).mono ?_); rintro e wa ⟨rfl, ⟨na, rfl⟩⟩))
            go_ret
            exact ⟨rfl, pw_below_drewN HB4.out _⟩
          · have d3 : decide (b < 1) = false := decide_eq_false (by omega)
            have d4 : decide ((re.length : Int) < b) = true := decide_eq_true (by omega)
            clear ca cb c3
            go_wp2_with (first | (go_at_call 14; (with_reducible refine (net_Apart.calls g _ _ off ps (zOf x y) (sdF (zOf x y) off) _ (by first | exact HN4.out | exact HN4.out.drewN _) HS1.out).mono ?_); rintro e wa ⟨rfl, ⟨na, rfl⟩⟩) | (go_at_call 13; (with_reducible refine (net_Cut.again g 0 0 off off ps (zOf x y) _ (by first | exact HN4.out | exact HN4.out.drewN _)).mono ?_); rintro e w5 ⟨rfl, hn5, hb5⟩; rw [if_pos day_zero, if_pos day_zero] at hn5; have HN5 := Aside0.mk hn5; have HB5 := Aside0.mk ((pw_below_drewN HB4.out _).trans (hb5.mono HG.out)); clear hn5 hb5) | (go_at_call 14; (with_reducible refine (net_Apart.calls g _ _ off ps (zOf 0 0) (sdF (zOf 0 0) off) _ (by first | exact HN5.out | exact HN5.out.drewN _) HS2.out).mono ?_); rintro e wa ⟨rfl, ⟨na, rfl⟩⟩))
            go_ret
            exact ⟨rfl, pw_below_drewN HB4.out _⟩
    · clear HLP
      cases hp : apB (sdF (zOf x y) off) ps a b <;> rw [hp] at hsym
      all_goals
        by_cases c1 : a < 1
        · have d1 : decide (a < 1) = true := decide_eq_true c1
          clear ca c1
          go_wp2_with (first | (go_at_call 14; (with_reducible refine (net_Apart.calls g _ _ off ps (zOf x y) (sdF (zOf x y) off) _ (by first | exact HN4.out | exact HN4.out.drewN _) HS1.out).mono ?_); rintro e wa ⟨rfl, ⟨na, rfl⟩⟩) | (go_at_call 13; (with_reducible refine (net_Cut.again g 0 0 off off ps (zOf x y) _ (by first | exact HN4.out | exact HN4.out.drewN _)).mono ?_); rintro e w5 ⟨rfl, hn5, hb5⟩; rw [if_pos day_zero, if_pos day_zero] at hn5; have HN5 := Aside0.mk hn5; have HB5 := Aside0.mk ((pw_below_drewN HB4.out _).trans (hb5.mono HG.out)); clear hn5 hb5) | (go_at_call 14; (with_reducible refine (net_Apart.calls g _ _ off ps (zOf 0 0) (sdF (zOf 0 0) off) _ (by first | exact HN5.out | exact HN5.out.drewN _) HS2.out).mono ?_); rintro e wa ⟨rfl, ⟨na, rfl⟩⟩))
          go_ret
          exact ⟨rfl, pw_below_drewN HB4.out _⟩
        · have d1 : decide (a < 1) = false := decide_eq_false (by omega)
          have d2 : decide ((re.length : Int) < a) = true := decide_eq_true (by omega)
          clear ca c1
          go_wp2_with (first | (go_at_call 14; (with_reducible refine (net_Apart.calls g _ _ off ps (zOf x y) (sdF (zOf x y) off) _ (by first | exact HN4.out | exact HN4.out.drewN _) HS1.out).mono ?_); rintro e wa ⟨rfl, ⟨na, rfl⟩⟩) | (go_at_call 13; (with_reducible refine (net_Cut.again g 0 0 off off ps (zOf x y) _ (by first | exact HN4.out | exact HN4.out.drewN _)).mono ?_); rintro e w5 ⟨rfl, hn5, hb5⟩; rw [if_pos day_zero, if_pos day_zero] at hn5; have HN5 := Aside0.mk hn5; have HB5 := Aside0.mk ((pw_below_drewN HB4.out _).trans (hb5.mono HG.out)); clear hn5 hb5) | (go_at_call 14; (with_reducible refine (net_Apart.calls g _ _ off ps (zOf 0 0) (sdF (zOf 0 0) off) _ (by first | exact HN5.out | exact HN5.out.drewN _) HS2.out).mono ?_); rintro e wa ⟨rfl, ⟨na, rfl⟩⟩))
          go_ret
          exact ⟨rfl, pw_below_drewN HB4.out _⟩
end Go.Proofs.Ytfkkekdpfkglbaa.Q
