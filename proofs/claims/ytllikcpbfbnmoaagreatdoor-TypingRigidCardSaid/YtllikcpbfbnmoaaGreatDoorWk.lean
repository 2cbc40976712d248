/- The walk: whatever the integer is, the call of TypingRigid returns true and turns nothing that was there; by eight closed calls. -/
import Derived.Test.YtllikcpbfbnmoaaGreatDoorAl
import Derived.Test.YtllikcpbfbnmoaaGreatDoorPl
import Derived.Test.YtllikcpbfbnmoaaGreatDoorRa
import Derived.Test.YtllikcpbfbnmoaaGreatDoorRt0
import Derived.Test.YtllikcpbfbnmoaaGreatDoorRt1
import Derived.Test.YtllikcpbfbnmoaaGreatDoorRt2
import Derived.Test.YtllikcpbfbnmoaaGreatDoorRt3
import Derived.Test.YtllikcpbfbnmoaaGreatDoorRn0
import Derived.Test.YtllikcpbfbnmoaaGreatDoorRn1
import Derived.Test.YtllikcpbfbnmoaaGreatDoorRn2
import Derived.Test.YtllikcpbfbnmoaaGreatDoorRn3
set_option maxRecDepth 100000
set_option linter.unusedVariables false
namespace Go.Proofs.YtllikcpbfbnmoaaGreatDoor.Ev
open GoEv
open Go (IntKind Value World Calls)
open Go.RowKit (Below)
theorem nGlob : Tryz.prog.globals.size = 4 := by kernel_rfl
theorem isT_some {r : A} (h : isT r = true) : ∃ h', r = some (.bool true, h') := by
  cases r with
  | none => cases h
  | some p =>
    obtain ⟨v, h'⟩ := p
    cases v with
    | bool b =>
      have hb : b = true := h
      exact ⟨h', by rw [hb]⟩
    | _ => cases h
theorem p105 : FSnd Tryz.prog 105 (plainV F105) := plain_snd (o ok105)
theorem t0 : (tblT F9 [] [] [] []).All (FSnd Tryz.prog) := all_ok (o ok9) (told_snd (o ok6) (fun s h => nomatch h)) (told_snd (o ok8) (fun s h => nomatch h)) (told_snd (o ok20) (fun s h => nomatch h)) (told_snd (o ok180) (fun s h => nomatch h)) p105
theorem t6 : ∀ s ∈ [td6x175, td6x231, td6x234, td6x244, td6x249, td6x311, td6x10519, td6x10537, td6x10532, td6x10522, td6x10599, td6x10463], s.OK Tryz.prog 6 := by
  intro s hs
  simp only [List.mem_cons, List.not_mem_nil, or_false] at hs
  rcases hs with rfl | rfl | rfl | rfl | rfl | rfl | rfl | rfl | rfl | rfl | rfl | rfl
  · exact GoEv.Told.ok (o ok6) (Sem_snd t0 _) w_td6x175 c_td6x175
  · exact GoEv.Told.ok (o ok6) (Sem_snd t0 _) w_td6x231 c_td6x231
  · exact GoEv.Told.ok (o ok6) (Sem_snd t0 _) w_td6x234 c_td6x234
  · exact GoEv.Told.ok (o ok6) (Sem_snd t0 _) w_td6x244 c_td6x244
  · exact GoEv.Told.ok (o ok6) (Sem_snd t0 _) w_td6x249 c_td6x249
  · exact GoEv.Told.ok (o ok6) (Sem_snd t0 _) w_td6x311 c_td6x311
  · exact GoEv.Told.ok (o ok6) (Sem_snd t0 _) w_td6x10519 c_td6x10519
  · exact GoEv.Told.ok (o ok6) (Sem_snd t0 _) w_td6x10537 c_td6x10537
  · exact GoEv.Told.ok (o ok6) (Sem_snd t0 _) w_td6x10532 c_td6x10532
  · exact GoEv.Told.ok (o ok6) (Sem_snd t0 _) w_td6x10522 c_td6x10522
  · exact GoEv.Told.ok (o ok6) (Sem_snd t0 _) w_td6x10599 c_td6x10599
  · exact GoEv.Told.ok (o ok6) (Sem_snd t0 _) w_td6x10463 c_td6x10463
theorem t8 : ∀ s ∈ [td8x40771], s.OK Tryz.prog 8 := by
  intro s hs
  simp only [List.mem_cons, List.not_mem_nil, or_false] at hs
  subst hs
  · exact GoEv.Told.ok (o ok8) (Sem_snd t0 _) w_td8x40771 c_td8x40771
theorem t20 : ∀ s ∈ [td20x26244], s.OK Tryz.prog 20 := by
  intro s hs
  simp only [List.mem_cons, List.not_mem_nil, or_false] at hs
  subst hs
  · exact GoEv.Told.ok (o ok20) (Sem_snd t0 _) w_td20x26244 c_td20x26244
theorem t180 : ∀ s ∈ [td180x5432], s.OK Tryz.prog 180 := by
  intro s hs
  simp only [List.mem_cons, List.not_mem_nil, or_false] at hs
  subst hs
  · exact GoEv.Told.ok (o ok180) (Sem_snd t0 _) w_td180x5432 c_td180x5432
theorem t1 : (tblT F9 [] [td8x40771] [td20x26244] [td180x5432]).All (FSnd Tryz.prog) := all_ok (o ok9) (told_snd (o ok6) (fun s h => nomatch h)) (told_snd (o ok8) t8) (told_snd (o ok20) t20) (told_snd (o ok180) t180) p105
theorem awake (h : H) : Snd Tryz.prog 9 [] h (.bool true) h := by
  obtain ⟨h', e⟩ := isT_some run9
  exact Snd.alone (o ok9 _ (Sem_snd t1 _) _ _ _ _ e) (by rw [nGlob]; exact Nat.le_refl 4) (by rw [nGlob]; exact Nat.le_refl 4) h
noncomputable abbrev tb : Tr := tblT (quiet F9) [td6x175, td6x231, td6x234, td6x244, td6x249, td6x311, td6x10519, td6x10537, td6x10532, td6x10522, td6x10599, td6x10463] [] [] []
theorem t2 : tb.All (FSnd Tryz.prog) := all_ok (quiet_snd (o ok9) awake) (told_snd (o ok6) t6) (told_snd (o ok8) (fun s h => nomatch h)) (told_snd (o ok20) (fun s h => nomatch h)) (told_snd (o ok180) (fun s h => nomatch h)) p105
noncomputable def hN : H := H.mk (nat_lit 4) T.lf
theorem hN_get (b : Nat) : hN.get b = none := T.get_lf b
theorem initN {W : World} (hsz : 4 ≤ W.heap.size) :
    ∃ ι, HR Tryz.prog ι hN W ∧ (∀ g, g < Tryz.prog.globals.size → ∃ room, ι g = some ⟨g, 0, room⟩) ∧ ∀ b L x, ι b = some L → hN.get b = some x → own x = false := by
  let ι : Inj := fun b => if b < 4 then some ⟨b, 0, 0⟩ else none
  refine ⟨ι, ⟨fun b hb => ?_, fun b L hb => ?_, fun b L x _ hx => ?_, fun b b' L L' x x' _ _ _ hx => ?_, fun b _ => hN_get b⟩, fun g hg => ?_, fun b L x _ hx => ?_⟩
  · have hb' : 4 ≤ b := hb
    have h1 : ¬ b < 4 := by omega
    simp [ι, h1]
  · simp only [ι] at hb
    split at hb
    · cases hb; show b < _; omega
    · cases hb
  · rw [hN_get] at hx; cases hx
  · rw [hN_get] at hx; cases hx
  · rw [nGlob] at hg
    exact ⟨0, by simp only [ι]; rw [if_pos hg]⟩
  · rw [hN_get] at hx; cases hx
theorem wrap_u64 (a : Int) : IntKind.u64.wrap a = a % 18446744073709551616 := by simp [IntKind.wrap, IntKind.bits, IntKind.signed]
theorem mod8 (a : Int) : ∃ r : Nat, r < 8 ∧ modZ (IntKind.u64.wrap a) (Int.ofNat (nat_lit 8)) = modZ (IntKind.u64.wrap (Int.ofNat r)) (Int.ofNat (nat_lit 8)) := by
  refine ⟨((a % 18446744073709551616) % 8).toNat, by omega, ?_⟩
  rw [modZ_eq, modZ_eq, wrap_u64, wrap_u64]
  show Int.tmod _ 8 = Int.tmod _ 8
  rw [Int.tmod_eq_emod_of_nonneg (by omega), Int.tmod_eq_emod_of_nonneg (by omega)]
  simp only [Int.ofNat_eq_natCast]
  omega
theorem Sem_F3 (args : List V) (h : H) : GoEv.Sem tb (nat_lit 100000) (nat_lit 3) args h = F3 (GoEv.Sem tb (nat_lit 99999)) args h := by kernel_rfl
theorem red8 (S : Sm) (h : H) (a a' : Int) (hq : modZ (IntKind.u64.wrap a) (Int.ofNat (nat_lit 8)) = modZ (IntKind.u64.wrap a') (Int.ofNat (nat_lit 8))) : F3 S [.i a] h = F3 S [.i a'] h := by
  unfold F3
  simp only [un, nl, toI, cl, nz, bW_eq, bZ_eq, hq]
theorem runs (a : Int) : ∃ h', GoEv.Sem tb (nat_lit 100000) (nat_lit 3) [.i a] hN = some (.bool true, h') := by
  obtain ⟨i, hi, h1⟩ := mod8 a
  rw [Sem_F3, red8 _ _ a _ h1]
  have fin : ∀ i : Nat, isT (GoEv.Sem tb (nat_lit 100000) (nat_lit 3) [.i (Int.ofNat i)] hN) = true → ∃ h', F3 (GoEv.Sem tb (nat_lit 99999)) [.i (Int.ofNat i)] hN = some (.bool true, h') := by
    intro i h
    obtain ⟨h', e⟩ := isT_some h
    rw [Sem_F3] at e
    exact ⟨h', e⟩
  match i, hi with
  | 0, _ => exact fin (nat_lit 0) run0
  | 1, _ => exact fin (nat_lit 1) run1
  | 2, _ => exact fin (nat_lit 2) run2
  | 3, _ => exact fin (nat_lit 3) run3
  | 4, _ => exact fin (nat_lit 4) run4
  | 5, _ => exact fin (nat_lit 5) run5
  | 6, _ => exact fin (nat_lit 6) run6
  | 7, _ => exact fin (nat_lit 7) run7
theorem walk (a0 : Int) {w : World} (hsz : 4 ≤ w.heap.size) :
    Calls Tryz.prog 3 #[.int .i64 a0] w fun e w' => e = .returned (.bool true) ∧ Below w.heap.size w w' := by
  obtain ⟨ι, hr, hg, hno⟩ := initN hsz
  obtain ⟨h', e⟩ := runs a0
  refine (Sem_snd t2 _ _ _ _ _ _ e ι w #[.int .i64 a0] hr ?_ hg).mono ?_
  · exact VRs.cons (by simp only [VR]) VRs.nil
  · rintro ex w' ⟨c, ι', rfl, h1, _, h3⟩
    simp only [VR] at h1
    subst h1
    exact ⟨rfl, h3.below hno⟩
end Go.Proofs.YtllikcpbfbnmoaaGreatDoor.Ev
