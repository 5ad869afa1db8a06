/- Plain lemmas on numbers that several of this seat's proofs share; nothing here speaks of the program. -/
import Derived.Test.YtjnmcdajolbjfaaWMore
import Derived.Laws.BitsLemmas
import Derived.OpenShut
namespace Go.Proofs.Ytjnmcdajolbjfaa.Math
open Go.RowKit Go.Proofs.YtjnmcdajolbjfaaW.PrintWords Go.Proofs.YtjnmcdajolbjfaaW.PrintLast Go.Proofs.YtjnmcdajolbjfaaW.PrintMore
set_option linter.unusedVariables false

theorem w64 {x : Int} (h0 : -9223372036854775808 ≤ x) (h1 : x ≤ 9223372036854775807) : wrap64 x = x := by unfold wrap64; omega
theorem wraps_i64 (n : Int) (h0 : 0 ≤ n) (h1 : n < 2 ^ 63) : IntKind.i64.wrap n = n := by rw [IntKind.wrap_i64]; omega
theorem wraps_u64 (n : Int) (h0 : 0 ≤ n) (h1 : n < 2 ^ 64) : IntKind.u64.wrap n = n := by simp [IntKind.wrap, IntKind.bits, IntKind.signed]; omega
theorem tdiv_nn {a b : Int} (h : 0 ≤ a) : Int.tdiv a b = a / b := Int.tdiv_eq_ediv_of_nonneg h
theorem tmod_nn {a b : Int} (h : 0 ≤ a) : Int.tmod a b = a % b := Int.tmod_eq_emod_of_nonneg h
theorem i64_mask (x : Int) (i : Nat) (hi : i ≤ 63) (h0 : 0 ≤ x) (h1 : x < 2 ^ 63) : Go.bits .and .i64 x (2 ^ i - 1) = x % 2 ^ i :=
  bits_mask .i64 63 (by decide) wraps_i64 i hi x h0 h1
theorem i64_and1 (x : Int) (h0 : 0 ≤ x) (h1 : x < 9223372036854775808) : Go.bits .and .i64 x 1 = x % 2 := by
  have := i64_mask x 1 (by decide) h0 (by omega)
  simpa using this
theorem i64_and2 (x : Int) (h0 : 0 ≤ x) (h1 : x < 9223372036854775808) : Go.bits .and .i64 x 2 = x / 2 % 2 * 2 := by
  obtain ⟨a, rfl⟩ := Int.eq_ofNat_of_zero_le h0
  have := (bits_nat .i64 63 (by decide) wraps_i64 a 2 (by omega) (by decide)).1
  rw [show (2 : Int) = ((2 : Nat) : Int) from rfl, this]
  have h2 : (a &&& 2) / 2 = a / 2 % 2 := by rw [Nat.and_div_two]; exact Nat.and_one_is_mod _
  have h3 : (a &&& 2) % 2 = 0 := by
    have := @Nat.and_mod_two_pow a 2 1
    simpa using this
  omega
theorem mn_le (a b : Int) : mn a b = if b < a then b else a := rfl
theorem mx_le (a b : Int) : mx a b = if a < b then b else a := rfl

theorem Ev_now {α : Type} {a r : α} (h : a = r) : Ev (fun _ => some a) r := by subst h; exact Ev.now a
theorem Ev_ite {α : Type} {c : Prop} [Decidable c] {A B : Nat → Option α} {r : α} (h : c → Ev A r) (h' : ¬ c → Ev B r) : Ev (fun k => if c then A k else B k) r := by
  by_cases hc : c
  · simp only [hc, if_true]; exact h hc
  · simp only [hc, if_false]; exact h' hc
theorem Ev_cast {α : Type} {g : Nat → Option α} {a r : α} (h : Ev g a) (e : a = r) : Ev g r := e ▸ h

end Go.Proofs.Ytjnmcdajolbjfaa.Math
