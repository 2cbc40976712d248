/- The walk: whatever the two integers are, the call of SyntaxLimits returns true and turns nothing that was there; by the eighteen closed calls. -/
import Derived.Test.YtcpknphdancjjaaGreatDoorAl
import Derived.Test.YtcpknphdancjjaaGreatDoorXs
import Derived.Test.YtcpknphdancjjaaGreatDoorRn0
import Derived.Test.YtcpknphdancjjaaGreatDoorRn1
import Derived.Test.YtcpknphdancjjaaGreatDoorRn2
set_option maxRecDepth 100000
set_option linter.unusedVariables false
namespace Go.Proofs.YtcpknphdancjjaaGreatDoor.Ev
open GoEv
open Go (IntKind Value World Calls)
open Go.RowKit (Below)
theorem isT_some {r : A} (h : isT r = true) : ∃ h', r = some (.bool true, h') := by
  cases r with
  | none => cases h
  | some p =>
    obtain ⟨v, h'⟩ := p
    cases v with
    | bool b =>
      have hb : b = true := h
      exact ⟨h', by rw [hb]⟩
    | _ => cases h
theorem key {m : Int} {a a' : Int} (K : Int → A) (h : modZ (IntKind.u64.wrap a) m = modZ (IntKind.u64.wrap a') m) :
    (bW .u64 a fun z => nz m (bZ (modZ z m) K)) = (bW .u64 a' fun z => nz m (bZ (modZ z m) K)) := by
  rw [bW_eq, bW_eq]
  show nz m (bZ (modZ (IntKind.u64.wrap a) m) K) = nz m (bZ (modZ (IntKind.u64.wrap a') m) K)
  rw [h]
theorem wrap_u64 (a : Int) : IntKind.u64.wrap a = a % 18446744073709551616 := by simp [IntKind.wrap, IntKind.bits, IntKind.signed]
theorem mod3 (a : Int) : ∃ r : Nat, r < 3 ∧ modZ (IntKind.u64.wrap a) (Int.ofNat (nat_lit 3)) = modZ (IntKind.u64.wrap (Int.ofNat r)) (Int.ofNat (nat_lit 3)) := by
  refine ⟨((a % 18446744073709551616) % 3).toNat, by omega, ?_⟩
  rw [modZ_eq, modZ_eq, wrap_u64, wrap_u64]
  show Int.tmod _ 3 = Int.tmod _ 3
  rw [Int.tmod_eq_emod_of_nonneg (by omega), Int.tmod_eq_emod_of_nonneg (by omega)]
  simp only [Int.ofNat_eq_natCast]
  omega
theorem mod6 (a : Int) : ∃ r : Nat, r < 6 ∧ modZ (IntKind.u64.wrap a) (Int.ofNat (nat_lit 6)) = modZ (IntKind.u64.wrap (Int.ofNat r)) (Int.ofNat (nat_lit 6)) := by
  refine ⟨((a % 18446744073709551616) % 6).toNat, by omega, ?_⟩
  rw [modZ_eq, modZ_eq, wrap_u64, wrap_u64]
  show Int.tmod _ 6 = Int.tmod _ 6
  rw [Int.tmod_eq_emod_of_nonneg (by omega), Int.tmod_eq_emod_of_nonneg (by omega)]
  simp only [Int.ofNat_eq_natCast]
  omega
theorem red3 (S : Sm) (h : H) (a b a' : Int) (hq : modZ (IntKind.u64.wrap a) (Int.ofNat (nat_lit 3)) = modZ (IntKind.u64.wrap a') (Int.ofNat (nat_lit 3))) : F3 S [.i a, .i b] h = F3 S [.i a', .i b] h := by
  unfold F3
  exact key _ hq
theorem red6_0 (S : Sm) (h : H) (b b' : Int) (hq : modZ (IntKind.u64.wrap b) (Int.ofNat (nat_lit 6)) = modZ (IntKind.u64.wrap b') (Int.ofNat (nat_lit 6))) : F3 S [.i (Int.ofNat (nat_lit 0)), .i b] h = F3 S [.i (Int.ofNat (nat_lit 0)), .i b'] h := by
  unfold F3
  exact key _ hq
theorem red6_1 (S : Sm) (h : H) (b b' : Int) (hq : modZ (IntKind.u64.wrap b) (Int.ofNat (nat_lit 6)) = modZ (IntKind.u64.wrap b') (Int.ofNat (nat_lit 6))) : F3 S [.i (Int.ofNat (nat_lit 1)), .i b] h = F3 S [.i (Int.ofNat (nat_lit 1)), .i b'] h := by
  unfold F3
  exact key _ hq
theorem red6_2 (S : Sm) (h : H) (b b' : Int) (hq : modZ (IntKind.u64.wrap b) (Int.ofNat (nat_lit 6)) = modZ (IntKind.u64.wrap b') (Int.ofNat (nat_lit 6))) : F3 S [.i (Int.ofNat (nat_lit 2)), .i b] h = F3 S [.i (Int.ofNat (nat_lit 2)), .i b'] h := by
  unfold F3
  exact key _ hq
theorem Sem_F3 (args : List V) (h : H) : GoEv.Sem tbl (nat_lit 100000) (nat_lit 3) args h = F3 (GoEv.Sem tbl (nat_lit 99999)) args h := by kernel_rfl
theorem runs (a b : Int) : ∃ h', GoEv.Sem tbl (nat_lit 100000) (nat_lit 3) [.i a, .i b] h0 = some (.bool true, h') := by
  obtain ⟨i, hi, h1⟩ := mod3 a
  obtain ⟨j, hj, h2⟩ := mod6 b
  rw [Sem_F3, red3 _ _ a b _ h1]
  have fin : ∀ (i j : Nat), isT (GoEv.Sem tbl (nat_lit 100000) (nat_lit 3) [.i (Int.ofNat i), .i (Int.ofNat j)] h0) = true → ∃ h', F3 (GoEv.Sem tbl (nat_lit 99999)) [.i (Int.ofNat i), .i (Int.ofNat j)] h0 = some (.bool true, h') := by
    intro i j h
    obtain ⟨h', e⟩ := isT_some h
    rw [Sem_F3] at e
    exact ⟨h', e⟩
  match i, hi with
  | 0, _ =>
    rw [show (V.i (Int.ofNat 0)) = V.i (Int.ofNat (nat_lit 0)) from rfl, red6_0 _ _ b _ h2]
    match j, hj with
    | 0, _ => exact fin (nat_lit 0) (nat_lit 0) run00
    | 1, _ => exact fin (nat_lit 0) (nat_lit 1) run01
    | 2, _ => exact fin (nat_lit 0) (nat_lit 2) run02
    | 3, _ => exact fin (nat_lit 0) (nat_lit 3) run03
    | 4, _ => exact fin (nat_lit 0) (nat_lit 4) run04
    | 5, _ => exact fin (nat_lit 0) (nat_lit 5) run05
  | 1, _ =>
    rw [show (V.i (Int.ofNat 1)) = V.i (Int.ofNat (nat_lit 1)) from rfl, red6_1 _ _ b _ h2]
    match j, hj with
    | 0, _ => exact fin (nat_lit 1) (nat_lit 0) run10
    | 1, _ => exact fin (nat_lit 1) (nat_lit 1) run11
    | 2, _ => exact fin (nat_lit 1) (nat_lit 2) run12
    | 3, _ => exact fin (nat_lit 1) (nat_lit 3) run13
    | 4, _ => exact fin (nat_lit 1) (nat_lit 4) run14
    | 5, _ => exact fin (nat_lit 1) (nat_lit 5) run15
  | 2, _ =>
    rw [show (V.i (Int.ofNat 2)) = V.i (Int.ofNat (nat_lit 2)) from rfl, red6_2 _ _ b _ h2]
    match j, hj with
    | 0, _ => exact fin (nat_lit 2) (nat_lit 0) run20
    | 1, _ => exact fin (nat_lit 2) (nat_lit 1) run21
    | 2, _ => exact fin (nat_lit 2) (nat_lit 2) run22
    | 3, _ => exact fin (nat_lit 2) (nat_lit 3) run23
    | 4, _ => exact fin (nat_lit 2) (nat_lit 4) run24
    | 5, _ => exact fin (nat_lit 2) (nat_lit 5) run25
theorem walk (a0 a1 : Int) (w : World) (hsz : 11 ≤ w.heap.size) (hs : Go.Lib.VarReads Tryz.prog w "semtype/words.signs" Rows.laid_semtype_words_signs) (ha : Go.Lib.VarReads Tryz.prog w "strings.asciiSpace" Rows.laid_strings_asciiSpace) :
    Calls Tryz.prog 3 #[.int .i64 a0, .int .i64 a1] w fun e w' => e = .returned (.bool true) ∧ Below w.heap.size w w' := by
  obtain ⟨ι, hr, hg, hown⟩ := init hsz hs ha
  obtain ⟨h', hrun⟩ := runs a0 a1
  have hmix : Tryz.prog.follows .mixedOrders = true := by kernel_rfl
  refine (Sem_ok hmix xok all_ok (nat_lit 100000) (nat_lit 3) _ _ _ _ hrun ι w #[.int .i64 a0, .int .i64 a1] hr ?_ hg).mono ?_
  · exact VRs.cons (by simp only [VR]) (VRs.cons (by simp only [VR]) VRs.nil)
  · rintro ex w' ⟨cv, ι', rfl, h1, _, h3⟩
    simp only [VR] at h1
    subst h1
    exact ⟨rfl, h3.below hown⟩
end Go.Proofs.YtcpknphdancjjaaGreatDoor.Ev
