/- Plain laws on decimal numerals: the numerals that the program's whole.Parse takes are those that the reference takes. No program in sight. -/
import Derived.Lib.ItoaNum
import Derived.Lib.ParseIntB
namespace Nh
open Go.Lib

/-- What digits spell, behind what was spelt before. -/
def dval (acc : Nat) (l : List UInt8) : Nat := l.foldl (fun a c => a * 10 + (c.toNat - 48)) acc
theorem dval_nil (acc : Nat) : dval acc [] = acc := rfl
theorem dval_cons (acc : Nat) (c : UInt8) (r : List UInt8) : dval acc (c :: r) = dval (acc * 10 + (c.toNat - 48)) r := by
  simp only [dval, List.foldl_cons]

def isDig (c : UInt8) : Bool := 48 ≤ c.toNat && c.toNat ≤ 57

/-- The reference's loop: digit by digit, below 0. -/
def refDigitsG (q : Nat) (acc : Int) : List UInt8 → Option Int
  | [] => some acc
  | c :: r =>
    if (c.toNat : Int) - 48 < 0 ∨ (c.toNat : Int) - 48 > 9 then none
    else if acc < -(q : Int) ∨ (acc = -(q : Int) ∧ (c.toNat : Int) - 48 > 8) then none
    else refDigitsG q (10 * acc - ((c.toNat : Int) - 48)) r

def refDigits (acc : Int) (l : List UInt8) : Option Int := refDigitsG 922337203685477580 acc l

/-- The reference's whole numbers. -/
def refWhole (l : List UInt8) : Option Int :=
  let neg : Bool := l.head? == some 45
  let ds := if neg then l.tail else l
  if ds.length = 0 ∨ ds.length > 19 ∨ (ds.head? = some 48 ∧ (ds.length > 1 ∨ neg = true)) then none
  else match refDigits 0 ds with
    | none => none
    | some n => if neg then some n else if n = -9223372036854775808 then none else some (-n)

/-- The program's: what ParseInt takes and FormatInt gives back. -/
def progWhole (l : List UInt8) : Option Int :=
  match parseIntB 64 l with
  | .ok v => if itoa v = l then some v else none
  | _ => none

theorem isDig_iff (c : UInt8) : isDig c = true ↔ 48 ≤ c.toNat ∧ c.toNat ≤ 57 := by
  simp [isDig]

theorem dval_ge (l : List UInt8) : ∀ acc, acc ≤ dval acc l := by
  induction l with
  | nil => intro acc; exact Nat.le_refl _
  | cons c r ih => intro acc; rw [dval_cons]; exact Nat.le_trans (by omega) (ih (acc * 10 + (c.toNat - 48)))

theorem dval_snoc (l : List UInt8) (c : UInt8) : ∀ acc, dval acc (l ++ [c]) = dval acc l * 10 + (c.toNat - 48) := by
  induction l with
  | nil => intro acc; simp [dval_nil, dval_cons]
  | cons d r ih => intro acc; simp only [List.cons_append, dval_cons]; exact ih _

theorem refDigitsG_eq (q M : Nat) (hM : M = 10 * q + 8) (l : List UInt8) : ∀ acc : Nat, acc ≤ M →
    refDigitsG q (-(acc : Int)) l = if l.all isDig = true ∧ dval acc l ≤ M then some (-(dval acc l : Int)) else none := by
  induction l with
  | nil => intro acc h; rw [if_pos ⟨rfl, h⟩]; rfl
  | cons c r ih =>
    intro acc h
    simp only [refDigitsG]
    by_cases hd : 48 ≤ c.toNat ∧ c.toNat ≤ 57
    · have hd' : isDig c = true := (isDig_iff c).2 hd
      rw [if_neg (by omega)]
      by_cases ho : acc * 10 + (c.toNat - 48) ≤ M
      · rw [if_neg (by omega)]
        have e : 10 * -(acc : Int) - ((c.toNat : Int) - 48) = -((acc * 10 + (c.toNat - 48) : Nat) : Int) := by omega
        rw [e, ih _ ho]
        simp [hd', dval_cons]
      · rw [if_pos (by omega)]
        have := dval_ge r (acc * 10 + (c.toNat - 48))
        rw [if_neg (by simp only [dval_nil, dval_cons]; omega)]
    · have hd' : isDig c = false := by
        cases h' : isDig c with
        | false => rfl
        | true => exact absurd ((isDig_iff c).1 h') hd
      rw [if_pos (by omega), if_neg (by simp [hd'])]

theorem refDigits_eq (l : List UInt8) : refDigits 0 l = if l.all isDig = true ∧ dval 0 l ≤ 9223372036854775808 then some (-(dval 0 l : Int)) else none :=
  refDigitsG_eq 922337203685477580 9223372036854775808 (by omega) l 0 (Nat.zero_le _)

theorem parseUintM_ok (l : List UInt8) : ∀ acc u, parseUintM (2 ^ 64 - 1) acc l = .ok u ↔ (l.all isDig = true ∧ u = dval acc l ∧ (l = [] ∨ u ≤ 2 ^ 64 - 1)) := by
  induction l with
  | nil => intro acc u; simp [parseUintM, dval_nil, eq_comm]
  | cons c r ih =>
    intro acc u
    simp only [parseUintM]
    by_cases hd : 48 ≤ c.toNat ∧ c.toNat ≤ 57
    · have hd' : isDig c = true := (isDig_iff c).2 hd
      rw [if_pos hd]
      have hge := dval_ge r (acc * 10 + (c.toNat - 48))
      by_cases h1 : 1844674407370955162 ≤ acc
      · rw [if_pos h1]
        constructor
        · intro h; cases h
        · rintro ⟨-, rfl, h | h⟩
          · cases h
          · simp only [dval_nil, dval_cons] at h; omega
      · rw [if_neg h1]
        by_cases h2 : 2 ^ 64 - 1 < acc * 10 + (c.toNat - 48)
        · rw [if_pos h2]
          constructor
          · intro h; cases h
          · rintro ⟨-, rfl, h | h⟩
            · cases h
            · simp only [dval_nil, dval_cons] at h; omega
        · rw [if_neg h2, ih]
          simp only [List.all_cons, hd', Bool.true_and, dval_cons]
          constructor
          · rintro ⟨a, rfl, h⟩
            refine ⟨a, rfl, .inr ?_⟩
            rcases h with rfl | h
            · simp only [dval_nil, dval_cons]; omega
            · exact h
          · rintro ⟨a, rfl, h | h⟩
            · cases h
            · exact ⟨a, rfl, .inr h⟩
    · have hd' : isDig c = false := by
        cases h' : isDig c with
        | false => rfl
        | true => exact absurd ((isDig_iff c).1 h') hd
      rw [if_neg hd]
      simp [hd']

theorem decDigits_all (u : Nat) : (decDigits u).all isDig = true := by
  induction u using Nat.strongRecOn with
  | _ u ih =>
    rw [decDigits]
    split
    · simp [isDig]; omega
    · rw [List.all_append, ih (u / 10) (by omega)]
      simp [isDig]; omega

theorem decDigits_val (u : Nat) : dval 0 (decDigits u) = u := by
  induction u using Nat.strongRecOn with
  | _ u ih =>
    rw [decDigits]
    split
    · simp [dval_nil, dval_cons]; omega
    · rw [dval_snoc, ih (u / 10) (by omega)]
      simp; omega

theorem decDigits_ne (u : Nat) : decDigits u ≠ [] := by
  rw [decDigits]; split <;> simp

/-- The first digit is 0 at 0 alone. -/
theorem decDigits_head (u : Nat) (h : (decDigits u).head? = some 48) : u = 0 := by
  induction u using Nat.strongRecOn with
  | _ u ih =>
    rw [decDigits] at h
    split at h
    · simp at h
      have := congrArg UInt8.toNat h
      simp at this; omega
    · rename_i hu
      have e : ((decDigits (u / 10)) ++ [UInt8.ofNat (48 + u % 10)]).head? = (decDigits (u / 10)).head? := by
        cases hl : decDigits (u / 10) with
        | nil => exact absurd hl (decDigits_ne _)
        | cons a b => simp
      rw [e] at h
      have := ih (u / 10) (by omega) h
      omega

theorem decDigits_len (u k : Nat) (hk : 0 < k) (h : u < 10 ^ k) : (decDigits u).length ≤ k := by
  induction k generalizing u with
  | zero => omega
  | succ k ih =>
    rw [decDigits]
    split
    · simp
    · rename_i hu
      have hk' : 0 < k := by
        rcases Nat.eq_zero_or_pos k with rfl | h'
        · simp at h; omega
        · exact h'
      have := ih (u / 10) hk' (by rw [Nat.pow_succ] at h; omega)
      simp; omega

/-- Digits without a 0 ahead of others spell their number's numeral. -/
theorem decDigits_dval (l : List UInt8) (hne : l ≠ []) (hd : l.all isDig = true) (h0 : l.head? = some 48 → l.length = 1) : decDigits (dval 0 l) = l := by
  induction hn : l.length generalizing l with
  | zero => exact absurd (List.length_eq_zero_iff.1 hn) hne
  | succ n ih =>
    rcases List.eq_nil_or_concat l with rfl | ⟨r, c, rfl⟩
    · exact absurd rfl hne
    · rw [List.concat_eq_append] at *
      rw [dval_snoc]
      rw [List.all_append] at hd
      simp only [Bool.and_eq_true] at hd
      obtain ⟨hr, hc⟩ := hd
      have hc' : 48 ≤ c.toNat ∧ c.toNat ≤ 57 := (isDig_iff c).1 (by simpa using hc)
      have hcc : UInt8.ofNat (48 + (c.toNat - 48)) = c := by
        rw [show 48 + (c.toNat - 48) = c.toNat by omega]; exact UInt8.ofNat_toNat
      cases r with
      | nil =>
        simp only [dval_nil, dval_cons, Nat.zero_mul, Nat.zero_add, List.nil_append]
        rw [decDigits_one (by omega), hcc]
      | cons a b =>
        have ha : (a :: b).head? = some 48 → (a :: b).length = 1 := by
          intro h
          have := h0 (by simpa using h)
          simp at this
        have hih := ih (a :: b) (by simp) hr ha (by simp at hn ⊢; omega)
        have hpos : 0 < dval 0 (a :: b) := by
          rcases Nat.eq_zero_or_pos (dval 0 (a :: b)) with hz | hz
          · rw [hz] at hih
            have : decDigits 0 = [48] := by rw [decDigits_one (by omega)]; rfl
            rw [this] at hih
            have hh := h0 (by simp at hih; simp [← hih.1])
            simp at hh
          · exact hz
        rw [decDigits, dif_neg (by omega)]
        rw [show (dval 0 (a :: b) * 10 + (c.toNat - 48)) / 10 = dval 0 (a :: b) by omega, show (dval 0 (a :: b) * 10 + (c.toNat - 48)) % 10 = c.toNat - 48 by omega, hih, hcc]

theorem head_dig {l : List UInt8} (hd : l.all isDig = true) : l.head? ≠ some 45 := by
  cases l with
  | nil => simp
  | cons a b =>
    intro h
    simp at h
    subst h
    simp [isDig] at hd

theorem itoa_pos (n : Nat) : itoa (n : Int) = decDigits n := by
  unfold itoa; rw [if_neg (by omega)]; rfl
theorem itoa_neg (n : Nat) (h : 0 < n) : itoa (-(n : Int)) = 45 :: decDigits n := by
  unfold itoa; rw [if_pos (by omega)]; congr 1; congr 1; omega

theorem refWhole_iff (l : List UInt8) (v : Int) : refWhole l = some v ↔ (l = itoa v ∧ -9223372036854775808 ≤ v ∧ v < 9223372036854775808) := by
  have h0' := refDigits_eq
  by_cases hneg : l.head? = some 45
  · obtain ⟨ds, rfl⟩ : ∃ ds, l = 45 :: ds := by
      cases l with
      | nil => simp at hneg
      | cons a b => simp at hneg; exact ⟨b, by rw [hneg]⟩
    simp only [refWhole, List.head?_cons, List.tail_cons, beq_self_eq_true, if_true, h0']
    constructor
    · intro h
      split at h
      · cases h
      · rename_i hc
        simp only [not_or, not_and] at hc
        obtain ⟨c1, c2, c3⟩ := hc
        split at h
        · cases h
        · rename_i n hn
          split at hn
          · rename_i hh
            obtain ⟨ha, hv⟩ := hh
            cases hn
            cases h
            have hh : ds.head? ≠ some 48 := fun e => (c3 e).2 trivial
            have hpos : 0 < dval 0 ds := by
              rcases Nat.eq_zero_or_pos (dval 0 ds) with hz | hz
              · have := decDigits_dval ds (fun e => c1 (by simp [e])) ha (fun e => absurd e hh)
                rw [hz, decDigits_one (by omega)] at this
                exact absurd (by rw [← this]; rfl) hh
              · exact hz
            refine ⟨?_, by omega, by omega⟩
            rw [itoa_neg _ hpos, decDigits_dval ds (fun e => c1 (by simp [e])) ha (fun e => absurd e hh)]
          · cases hn
    · rintro ⟨hl, h1, h2⟩
      have hv : v < 0 := by
        unfold itoa at hl
        split at hl
        · assumption
        · exact absurd (by rw [← hl]; rfl) (head_dig (decDigits_all v.toNat))
      obtain ⟨n, rfl⟩ : ∃ n : Nat, v = -(n : Int) := ⟨v.natAbs, by omega⟩
      have hn : 0 < n := by omega
      rw [itoa_neg n hn] at hl
      obtain rfl : ds = decDigits n := by simpa using hl
      have hlen := decDigits_len n 19 (by omega) (by omega)
      have hh : (decDigits n).head? ≠ some 48 := fun e => by have := decDigits_head n e; omega
      rw [if_neg (by
        simp only [not_or, not_and]
        exact ⟨fun e => decDigits_ne n (List.length_eq_zero_iff.1 e), by omega, fun e => absurd e hh⟩)]
      rw [if_pos ⟨decDigits_all n, by rw [decDigits_val]; omega⟩, decDigits_val]
  · have hb : (l.head? == some 45) = false := by simpa using hneg
    simp only [refWhole, hb, h0', Bool.false_eq_true, if_false]
    constructor
    · intro h
      split at h
      · cases h
      · rename_i hc
        simp only [not_or, not_and] at hc
        obtain ⟨c1, c2, c3⟩ := hc
        split at h
        · cases h
        · rename_i n hn
          split at hn
          · rename_i hh
            obtain ⟨ha, hv⟩ := hh
            cases hn
            split at h
            · cases h
            · cases h
              refine ⟨?_, by omega, by omega⟩
              rw [show (-(-((dval 0 l : Nat) : Int))) = ((dval 0 l : Nat) : Int) by omega, itoa_pos, decDigits_dval l (fun e => c1 (by simp [e])) ha]
              intro e
              have := (c3 e).1
              have : l.length ≠ 0 := fun e' => c1 e'
              omega
          · cases hn
    · rintro ⟨hl, h1, h2⟩
      have hv : 0 ≤ v := by
        unfold itoa at hl
        split at hl
        · exact absurd (by rw [hl]; rfl) hneg
        · omega
      obtain ⟨n, rfl⟩ : ∃ n : Nat, v = (n : Int) := ⟨v.toNat, by omega⟩
      rw [itoa_pos] at hl
      subst hl
      have hlen := decDigits_len n 19 (by omega) (by omega)
      rw [if_neg (by
        simp only [not_or, not_and]
        refine ⟨fun e => decDigits_ne n (List.length_eq_zero_iff.1 e), by omega, fun e => ⟨?_, by simp⟩⟩
        have := decDigits_head n e
        subst this
        rw [decDigits_one (by omega)]; simp)]
      rw [if_pos ⟨decDigits_all n, by rw [decDigits_val]; omega⟩, decDigits_val]
      simp only []
      rw [if_neg (by omega)]
      simp

theorem parseIntB_itoa (v : Int) (h1 : -9223372036854775808 ≤ v) (h2 : v < 9223372036854775808) : parseIntB 64 (itoa v) = .ok v := by
  by_cases hv : v < 0
  · obtain ⟨n, rfl⟩ : ∃ n : Nat, v = -(n : Int) := ⟨v.natAbs, by omega⟩
    rw [itoa_neg n (by omega)]
    have hu : parseUintB 64 (decDigits n) = .ok n := by
      unfold parseUintB
      rw [if_neg (decDigits_ne n), parseUintM_ok]
      exact ⟨decDigits_all n, (decDigits_val n).symm, .inr (by omega)⟩
    simp only [parseIntB]
    rw [if_pos (by decide), hu]
    simp only []
    rw [if_neg (by simp), if_neg (by omega), if_pos (by decide)]
  · obtain ⟨n, rfl⟩ : ∃ n : Nat, v = (n : Int) := ⟨v.toNat, by omega⟩
    rw [itoa_pos]
    have hu : parseUintB 64 (decDigits n) = .ok n := by
      unfold parseUintB
      rw [if_neg (decDigits_ne n), parseUintM_ok]
      exact ⟨decDigits_all n, (decDigits_val n).symm, .inr (by omega)⟩
    have hall := decDigits_all n
    cases hl : decDigits n with
    | nil => exact absurd hl (decDigits_ne n)
    | cons c r =>
      rw [hl] at hu hall
      have hc : 48 ≤ c.toNat ∧ c.toNat ≤ 57 := (isDig_iff c).1 (by simp at hall; exact hall.1)
      simp only [parseIntB]
      rw [if_neg (by omega), hu]
      simp only []
      rw [if_neg (by omega), if_neg (by omega), if_neg (by omega)]

theorem parseIntB_range (l : List UInt8) (v : Int) (h : parseIntB 64 l = .ok v) : -9223372036854775808 ≤ v ∧ v < 9223372036854775808 := by
  cases l with
  | nil => simp [parseIntB] at h
  | cons c r =>
    simp only [parseIntB] at h
    split at h
    · cases h
    · cases h
    · split at h
      · cases h
      · split at h
        · cases h
        · cases h
          split <;> omega

theorem progWhole_iff (l : List UInt8) (v : Int) : progWhole l = some v ↔ (l = itoa v ∧ -9223372036854775808 ≤ v ∧ v < 9223372036854775808) := by
  unfold progWhole
  constructor
  · intro h
    split at h
    · rename_i u hu
      split at h
      · rename_i hi
        cases h
        exact ⟨hi.symm, parseIntB_range l _ hu⟩
      · cases h
    · cases h
  · rintro ⟨rfl, h1, h2⟩
    rw [parseIntB_itoa v h1 h2]
    simp

/-- THE TWO TAKE THE SAME NUMERALS. -/
theorem whole_same (l : List UInt8) : refWhole l = progWhole l := by
  cases h : progWhole l with
  | none =>
    cases h' : refWhole l with
    | none => rfl
    | some v => rw [(progWhole_iff l v).2 ((refWhole_iff l v).1 h')] at h; cases h
  | some v => exact (refWhole_iff l v).2 ((progWhole_iff l v).1 h)

#print axioms whole_same
end Nh
