/- What the program's sums, and the document's, come to: one word on lists of bytes, by whatever table. Conditions: bytes and sums lie within their kinds. -/
import Derived.Laws.BitsAllLaws
import Derived.Laws.BitsLemmas
import Derived.Test.YtcgbcnalofecgaaQ3
import Derived.Test.YtcgbcnalofecgaaQ8
namespace Go.Proofs.Ytcgbcnalofecgaa.Sum
open Go.RowKit Go.Proofs.Ytcgbcnalofecgaa.Q Go.Proofs.YtcgbcnalofecgaaW.PrintWords Go.Proofs.YtcgbcnalofecgaaW.PrintLast Go.Proofs.YtcgbcnalofecgaaW.PrintMore

theorem u32_wf {a : Int} (h : (Lit.int .u32 a).wf = true) : 0 ≤ a ∧ a < 4294967296 := by
  simp [Lit.wf, IntKind.min, IntKind.max, IntKind.bits, IntKind.signed] at h; omega
theorem u8_wf {a : Int} (h : (Lit.int .u8 a).wf = true) : 0 ≤ a ∧ a < 256 := by
  simp [Lit.wf, IntKind.min, IntKind.max, IntKind.bits, IntKind.signed] at h; omega
theorem i64_wf {a : Int} (h : (Lit.int .i64 a).wf = true) : -9223372036854775808 ≤ a ∧ a ≤ 9223372036854775807 := by
  simp [Lit.wf, IntKind.min, IntKind.max, IntKind.bits, IntKind.signed] at h; omega
def xr (x y : Int) : Int := ((x.toNat ^^^ y.toNat : Nat) : Int)
theorem xr_lt (n : Nat) {x y : Int} (h0 : x < 2 ^ n) (h1 : y < 2 ^ n) : 0 ≤ xr x y ∧ xr x y < 2 ^ n := by
  have hp : (0 : Int) < 2 ^ n := Int.pow_pos (by decide)
  have e : ((2 ^ n : Nat) : Int) = 2 ^ n := by simp
  have := Nat.xor_lt_two_pow (n := n) (x := x.toNat) (y := y.toNat) (by omega) (by omega)
  unfold xr
  omega
theorem xr32 {x y : Int} (h0 : 0 ≤ x ∧ x < 4294967296) (h1 : 0 ≤ y ∧ y < 4294967296) : bits .xor .u32 x y = xr x y := u32_xor x y h0.1 h0.2 h1.1 h1.2
theorem xr8 {x y : Int} (h0 : 0 ≤ x ∧ x < 256) (h1 : 0 ≤ y ∧ y < 256) : bits .xor .u8 x y = xr x y := u8_xor x y h0.1 h0.2 h1.1 h1.2
theorem xr_ones {x : Int} (h0 : 0 ≤ x) (h1 : x < 4294967296) : xr 4294967295 x = 4294967295 - x := by
  have h := BitVec.toNat_not (x := BitVec.ofNat 32 x.toNat)
  rw [← BitVec.xor_allOnes, BitVec.toNat_xor, BitVec.toNat_ofNat, BitVec.toNat_allOnes] at h
  have e : x.toNat % 2 ^ 32 = x.toNat := Nat.mod_eq_of_lt (by omega)
  rw [e, Nat.xor_comm] at h
  unfold xr
  rw [show (4294967295 : Int).toNat = 2 ^ 32 - 1 by decide, h]
  omega
def Bytes (l : List Int) : Prop := ∀ x ∈ l, 0 ≤ x ∧ x < 256
theorem Bytes.rd {l : List Int} (h : Bytes l) (i : Int) : 0 ≤ rd l i ∧ rd l i < 256 := by
  unfold Go.Proofs.YtcgbcnalofecgaaW.PrintWords.rd
  rw [List.getD_eq_getElem?_getD]
  cases hq : l[i.toNat]? with
  | none => simp
  | some x => exact h x (List.mem_of_getElem? hq)
theorem tab_rd (t : Tab) (i : Int) : 0 ≤ rd t.l i ∧ rd t.l i < 4294967296 := by
  unfold Go.Proofs.YtcgbcnalofecgaaW.PrintWords.rd
  rw [List.getD_eq_getElem?_getD]
  cases hq : t.l[i.toNat]? with
  | none => simp
  | some x => exact t.ok x (List.mem_of_getElem? hq)
def one (t : Tab) (s b : Int) : Int := xr (rd t.l (xr (s % 256) b)) (s / 256)
def mo (t : Tab) : Int → List Int → Int
  | s, [] => s
  | s, b :: l => mo t (one t s b) l
theorem one_lt (t : Tab) {s : Int} (b : Int) (h0 : 0 ≤ s) (h1 : s < 4294967296) : 0 ≤ one t s b ∧ one t s b < 4294967296 :=
  xr_lt 32 (tab_rd t _).2 (by omega)
theorem mo_lt (t : Tab) (l : List Int) : ∀ s, 0 ≤ s → s < 4294967296 → 0 ≤ mo t s l ∧ mo t s l < 4294967296 := by
  induction l with
  | nil => intro s h0 h1; exact ⟨h0, h1⟩
  | cons b l ih => intro s h0 h1; exact ih _ (one_lt t b h0 h1).1 (one_lt t b h0 h1).2
theorem mo_append (t : Tab) (l m : List Int) : ∀ s, mo t s (l ++ m) = mo t (mo t s l) m := by
  induction l with
  | nil => intro s; rfl
  | cons b l ih => intro s; exact ih _
theorem drop_rd {l : List Int} {i : Int} (h0 : 0 ≤ i) (h1 : i < l.length) : l.drop i.toNat = rd l i :: l.drop (i + 1).toNat := by
  have : i.toNat < l.length := by omega
  rw [List.drop_eq_getElem_cons this, show (i + 1).toNat = i.toNat + 1 by omega]
  simp [Go.Proofs.YtcgbcnalofecgaaW.PrintWords.rd, List.getD_eq_getElem?_getD, List.getElem?_eq_getElem this]
theorem more_loop (t : Tab) (l : List Int) (hb : Bytes l) (hlen : l.length ≤ 140737488351232) : ∀ (d : Nat) (i s : Int) (k : Nat), 0 ≤ i → i + d = l.length → d < k → 0 ≤ s → s < 4294967296 →
    sum_More.l0 k s l (l.length : Int) i t = some (mo t s (l.drop i.toNat)) := by
  intro d
  induction d with
  | zero =>
    intro i s k h0 hd hk hs0 hs1
    obtain ⟨k, rfl⟩ : ∃ m, k = m + 1 := ⟨k - 1, by omega⟩
    simp only [sum_More.l0]
    rw [if_neg (by omega), List.drop_eq_nil_of_le (by omega)]
    rfl
  | succ d ih =>
    intro i s k h0 hd hk hs0 hs1
    obtain ⟨k, rfl⟩ : ∃ m, k = m + 1 := ⟨k - 1, by omega⟩
    have hr := hb.rd i
    have hx := xr_lt 8 (x := s % 256) (y := rd l i) (by omega) (by omega)
    have e8 : bits .xor .u8 (s % 256) (rd l i) = xr (s % 256) (rd l i) := xr8 (by omega) hr
    simp only [sum_More.l0]
    rw [e8, if_pos (by omega), if_pos h0, if_pos (by omega), if_pos hx.1, if_pos (by omega)]
    rw [xr32 (tab_rd t _) (by omega), show wrap64 (i + 1) = i + 1 by unfold wrap64; omega]
    have ho := one_lt t (rd l i) hs0 hs1
    rw [drop_rd h0 (by omega)]
    exact ih (i + 1) _ k (by omega) (by omega) (by omega) ho.1 ho.2
theorem More_is (t : Tab) {l : List Int} (hb : Bytes l) (hlen : l.length ≤ 140737488351232) {s : Int} (h0 : 0 ≤ s) (h1 : s < 4294967296) {k : Nat} (hk : l.length < k) : sum_More.f k t s l = some (mo t s l) := by
  exact more_loop t l hb hlen l.length 0 s k (by omega) (by omega) hk h0 h1
theorem ref_loop (t : Tab) (l : List Int) (hb : Bytes l) (hlen : l.length ≤ 140737488351232) : ∀ (d : Nat) (i s : Int) (k : Nat), 0 ≤ i → i + d = l.length → d < k → 0 ≤ s → s < 4294967296 →
    punnetref06_More.l0 k s l i t = some (mo t s (l.drop i.toNat)) := by
  intro d
  induction d with
  | zero =>
    intro i s k h0 hd hk hs0 hs1
    obtain ⟨k, rfl⟩ : ∃ m, k = m + 1 := ⟨k - 1, by omega⟩
    simp only [punnetref06_More.l0]
    rw [if_neg (by omega), List.drop_eq_nil_of_le (by omega)]
    rfl
  | succ d ih =>
    intro i s k h0 hd hk hs0 hs1
    obtain ⟨k, rfl⟩ : ∃ m, k = m + 1 := ⟨k - 1, by omega⟩
    have hr := hb.rd i
    have hx := xr_lt 8 (x := s % 256) (y := rd l i) (by omega) (by omega)
    have e8 : bits .xor .u32 (Int.tmod s 256) (rd l i % 4294967296) = xr (s % 256) (rd l i) := by
      rw [Int.tmod_eq_emod_of_nonneg hs0, show rd l i % 4294967296 = rd l i by omega]
      exact xr32 (by omega) (by omega)
    simp only [punnetref06_More.l0]
    rw [e8, if_pos (by omega), if_pos h0, if_pos hx.1, if_pos (by omega)]
    rw [Int.tdiv_eq_ediv_of_nonneg hs0, show s / 256 % 4294967296 = s / 256 by omega, xr32 (tab_rd t _) (by omega), show wrap64 (i + 1) = i + 1 by unfold wrap64; omega]
    have ho := one_lt t (rd l i) hs0 hs1
    rw [drop_rd h0 (by omega)]
    exact ih (i + 1) _ k (by omega) (by omega) (by omega) ho.1 ho.2
theorem refMore_is (t : Tab) {l : List Int} (hb : Bytes l) (hlen : l.length ≤ 140737488351232) {s : Int} (h0 : 0 ≤ s) (h1 : s < 4294967296) {k : Nat} (hk : l.length < k) : punnetref06_More.f k t s l = some (mo t s l) := by
  exact ref_loop t l hb hlen l.length 0 s k (by omega) (by omega) hk h0 h1
/-- The sum of bytes. -/
def su (t : Tab) (l : List Int) : Int := 4294967295 - mo t 4294967295 l
theorem su_lt (t : Tab) (l : List Int) : 0 ≤ su t l ∧ su t l < 4294967296 := by
  have := mo_lt t l 4294967295 (by omega) (by omega)
  unfold su
  omega
theorem On_is (t : Tab) {l : List Int} (hb : Bytes l) (hlen : l.length ≤ 140737488351232) {s : Int} (h0 : 0 ≤ s) (h1 : s < 4294967296) {k : Nat} (hk : l.length < k) : sum_On.f k t s l = some (4294967295 - mo t (4294967295 - s) l) := by
  unfold sum_On.f
  have hm := mo_lt t l (4294967295 - s) (by omega) (by omega)
  rw [xr32 (by omega) (by omega), xr_ones h0 h1, More_is t hb hlen (by omega) (by omega) hk, Option.bind_some, xr32 (by omega) hm, xr_ones hm.1 hm.2]
theorem Of_is (t : Tab) {l : List Int} (hb : Bytes l) (hlen : l.length ≤ 140737488351232) {k : Nat} (hk : l.length < k) : sum_Of.f k t l = some (su t l) := by
  unfold sum_Of.f
  rw [On_is t hb hlen (by omega) (by omega) hk, Option.bind_some]
  rfl
theorem On_Of (t : Tab) {l m : List Int} (hm : Bytes m) (hlen : m.length ≤ 140737488351232) {k : Nat} (hk : m.length < k) : sum_On.f k t (su t l) m = some (su t (l ++ m)) := by
  have h := su_lt t l
  rw [On_is t hm hlen h.1 h.2 hk]
  unfold su
  rw [mo_append, show 4294967295 - (4294967295 - mo t 4294967295 l) = mo t 4294967295 l by omega]
theorem refOf_is (t : Tab) {l : List Int} (hb : Bytes l) (hlen : l.length ≤ 140737488351232) {k : Nat} (hk : l.length < k) : punnetref06_Of.f k t l = some (su t l) := by
  unfold punnetref06_Of.f
  have hm := mo_lt t l 4294967295 (by omega) (by omega)
  rw [refMore_is t hb hlen (by omega) (by omega) hk, Option.bind_some]
  unfold su
  congr 1
  omega
theorem Bytes.take {l : List Int} (h : Bytes l) (n : Nat) : Bytes (l.take n) := fun x hx => h x (List.mem_of_mem_take hx)
theorem Bytes.drop {l : List Int} (h : Bytes l) (n : Nat) : Bytes (l.drop n) := fun x hx => h x (List.mem_of_mem_drop hx)
theorem Bytes.append {l m : List Int} (h : Bytes l) (h' : Bytes m) : Bytes (l ++ m) := fun x hx => (List.mem_append.1 hx).elim (h x) (h' x)
theorem bytes_wf {l : List Int} (h : ∀ x ∈ l, (Lit.int .u8 x).wf = true) : Bytes l := fun x hx => u8_wf (h x hx)
end Go.Proofs.Ytcgbcnalofecgaa.Sum
