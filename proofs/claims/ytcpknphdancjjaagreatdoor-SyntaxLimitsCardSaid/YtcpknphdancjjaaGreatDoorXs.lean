/- Which functions a call enters as they are, and what the functions without a body do. -/
import Derived.Test.YtcpknphdancjjaaGreatDoorHn
import Derived.Test.YtcpknphdancjjaaGreatDoorProg
import Derived.KernelRfl
set_option maxRecDepth 100000
namespace Go.Proofs.YtcpknphdancjjaaGreatDoor.Ev
open GoEv
open Go (Value World)
noncomputable def chk (f : Nat) : Bool := match Tryz.prog.funcs[f]? with
  | some fn => fn.name != "runtime.NumGoroutine" && fn.body.isSome
  | none => false
theorem chk_all : (List.range 512).all (fun f => !Nat.beq (X f) 0 || chk f) = true := by kernel_rfl
theorem pw (m a b f : Nat) (h : m < 2 ^ a * 2 ^ b) (hf : a + b ≤ f) : m < 2 ^ f := Nat.lt_of_lt_of_le h (by rw [← Nat.pow_add]; exact Nat.pow_le_pow_right (by omega) hf)
theorem mask_lt : 924085747272531016054097208036506906988814845053842651509724814041879609688243144226089649029009985481210612154360 < 2 ^ 256 * 2 ^ 256 := by decide +kernel
theorem X_big (f : Nat) (hf : 512 ≤ f) : X f = 1 := by
  have h1 : Nat.testBit 924085747272531016054097208036506906988814845053842651509724814041879609688243144226089649029009985481210612154360 f = false := Nat.testBit_lt_two_pow (pw _ 256 256 f mask_lt (by omega))
  have h2 : Nat.beq f 216 = false := by rw [beq_eq]; exact decide_eq_false (by omega)
  have h3 : Nat.beq f 217 = false := by rw [beq_eq]; exact decide_eq_false (by omega)
  have h4 : Nat.beq f 405 = false := by rw [beq_eq]; exact decide_eq_false (by omega)
  unfold X
  rw [h1, h2, h3, h4]; rfl
theorem X_cases (f : Nat) : X f = 0 ∨ (X f = 2 ∧ f = 216) ∨ (X f = 3 ∧ f = 217) ∨ (X f = 4 ∧ f = 405) ∨ X f = 1 := by
  unfold X
  cases Nat.testBit 924085747272531016054097208036506906988814845053842651509724814041879609688243144226089649029009985481210612154360 f with
  | true => exact .inl rfl
  | false =>
    rw [beq_eq, beq_eq, beq_eq]
    by_cases h2 : f = 216
    · rw [decide_eq_true h2]; exact .inr (.inl ⟨rfl, h2⟩)
    · rw [decide_eq_false h2]
      by_cases h3 : f = 217
      · rw [decide_eq_true h3]; exact .inr (.inr (.inl ⟨rfl, h3⟩))
      · rw [decide_eq_false h3]
        by_cases h4 : f = 405
        · rw [decide_eq_true h4]; exact .inr (.inr (.inr (.inl ⟨rfl, h4⟩)))
        · rw [decide_eq_false h4]; exact .inr (.inr (.inr (.inr rfl)))
theorem xok : XOK Tryz.prog X := by
  refine ⟨fun f hf args w => ?_, fun f hf v w => ?_, fun f hf => ?_, fun f hf args w => ?_⟩
  · have hlt : f < 512 := by
      refine Nat.lt_of_not_le fun h => ?_
      rw [X_big f h] at hf; cases hf
    have h1 := List.all_eq_true.1 chk_all f (List.mem_range.2 hlt)
    rw [hf] at h1
    have h2 : chk f = true := h1
    unfold chk at h2
    cases hfn : Tryz.prog.funcs[f]? with
    | none => rw [hfn] at h2; cases h2
    | some fn =>
      rw [hfn] at h2
      simp only [Bool.and_eq_true, bne_iff_ne, ne_eq] at h2
      obtain ⟨h3, h4⟩ := h2
      obtain ⟨c, hc⟩ := Option.isSome_iff_exists.1 h4
      simp [Go.callFunc, hfn, h3, hc]
  · have hf' : f = 216 := by rcases X_cases f with h | ⟨_, h⟩ | ⟨h, _⟩ | ⟨h, _⟩ | h <;> first | exact h | (rw [hf] at h; cases h)
    subst hf'
    have := Go.run_callFunc_extern (P := Tryz.prog) Tryz.func216 (by kernel_rfl) (by kernel_rfl) (by kernel_rfl) (e := Go.Extern.AbiNoEscape.same) (by kernel_rfl) #[v] w
    rw [this]; rfl
  · have hf' : f = 217 := by rcases X_cases f with h | ⟨h, _⟩ | ⟨_, h⟩ | ⟨h, _⟩ | h <;> first | exact h | (rw [hf] at h; cases h)
    subst hf'
    refine ⟨Tryz.f217.params, 37, by kernel_rfl, fun args w => ?_⟩
    exact Go.run_callFunc_extern (P := Tryz.prog) Tryz.func217 (by kernel_rfl) (by kernel_rfl) (by kernel_rfl) (e := Go.Extern.BytealgMakeNoZero.makeNoZero Tryz.f217.params #[37]) (by kernel_rfl) args w
  · have hf' : f = 405 := by rcases X_cases f with h | ⟨h, _⟩ | ⟨h, _⟩ | ⟨_, h⟩ | h <;> first | exact h | (rw [hf] at h; cases h)
    subst hf'
    exact Go.run_callFunc_extern (P := Tryz.prog) Tryz.func405 (by kernel_rfl) (by kernel_rfl) (by kernel_rfl) (e := Go.Extern.BytealgCompare.compare) (by kernel_rfl) args w
end Go.Proofs.YtcpknphdancjjaaGreatDoor.Ev
