/- The memory at the call's beginning: what the listed variables hold, as the abstract machine reads it. -/
import Derived.Test.YtcpknphdancjjaaGreatDoorTb
import Derived.Test.YtcpknphdancjjaaGreatDoorRows
import Derived.Lib.LaidU8
import Derived.SliceStrings
import Derived.OpenShut
set_option maxRecDepth 100000
namespace Go.Proofs.YtcpknphdancjjaaGreatDoor.Ev
open GoEv
open Go (IntKind Value World Addr)
def toV : Go.DataW Unit → V
  | .lit (.string b) => .str b.length (bn b)
  | .lit (.int .u8 z) => .u8 z
  | _ => .undef
def elemsOf : Go.DataW Unit → List (Go.DataW Unit)
  | .slice l _ => l
  | .agg l => l
  | _ => []
noncomputable def sigs : List V := [.str (nat_lit 2) (nat_lit 31523), .str (nat_lit 2) (nat_lit 15917), .str (nat_lit 2) (nat_lit 15933), .str (nat_lit 2) (nat_lit 15677), .str (nat_lit 2) (nat_lit 15421), .str (nat_lit 1) (nat_lit 40), .str (nat_lit 1) (nat_lit 41), .str (nat_lit 1) (nat_lit 91), .str (nat_lit 1) (nat_lit 93), .str (nat_lit 1) (nat_lit 123), .str (nat_lit 1) (nat_lit 125), .str (nat_lit 1) (nat_lit 44), .str (nat_lit 1) (nat_lit 59), .str (nat_lit 1) (nat_lit 46), .str (nat_lit 1) (nat_lit 58), .str (nat_lit 1) (nat_lit 124), .str (nat_lit 1) (nat_lit 47), .str (nat_lit 1) (nat_lit 38), .str (nat_lit 1) (nat_lit 61), .str (nat_lit 1) (nat_lit 60), .str (nat_lit 1) (nat_lit 43), .str (nat_lit 1) (nat_lit 45), .str (nat_lit 1) (nat_lit 42)]
noncomputable def asp : List V := [.u8 (Int.ofNat (nat_lit 0)), .u8 (Int.ofNat (nat_lit 0)), .u8 (Int.ofNat (nat_lit 0)), .u8 (Int.ofNat (nat_lit 0)), .u8 (Int.ofNat (nat_lit 0)), .u8 (Int.ofNat (nat_lit 0)), .u8 (Int.ofNat (nat_lit 0)), .u8 (Int.ofNat (nat_lit 0)), .u8 (Int.ofNat (nat_lit 0)), .u8 (Int.ofNat (nat_lit 1)), .u8 (Int.ofNat (nat_lit 1)), .u8 (Int.ofNat (nat_lit 1)), .u8 (Int.ofNat (nat_lit 1)), .u8 (Int.ofNat (nat_lit 1)), .u8 (Int.ofNat (nat_lit 0)), .u8 (Int.ofNat (nat_lit 0)), .u8 (Int.ofNat (nat_lit 0)), .u8 (Int.ofNat (nat_lit 0)), .u8 (Int.ofNat (nat_lit 0)), .u8 (Int.ofNat (nat_lit 0)), .u8 (Int.ofNat (nat_lit 0)), .u8 (Int.ofNat (nat_lit 0)), .u8 (Int.ofNat (nat_lit 0)), .u8 (Int.ofNat (nat_lit 0)), .u8 (Int.ofNat (nat_lit 0)), .u8 (Int.ofNat (nat_lit 0)), .u8 (Int.ofNat (nat_lit 0)), .u8 (Int.ofNat (nat_lit 0)), .u8 (Int.ofNat (nat_lit 0)), .u8 (Int.ofNat (nat_lit 0)), .u8 (Int.ofNat (nat_lit 0)), .u8 (Int.ofNat (nat_lit 0)), .u8 (Int.ofNat (nat_lit 1)), .u8 (Int.ofNat (nat_lit 0)), .u8 (Int.ofNat (nat_lit 0)), .u8 (Int.ofNat (nat_lit 0)), .u8 (Int.ofNat (nat_lit 0)), .u8 (Int.ofNat (nat_lit 0)), .u8 (Int.ofNat (nat_lit 0)), .u8 (Int.ofNat (nat_lit 0)), .u8 (Int.ofNat (nat_lit 0)), .u8 (Int.ofNat (nat_lit 0)), .u8 (Int.ofNat (nat_lit 0)), .u8 (Int.ofNat (nat_lit 0)), .u8 (Int.ofNat (nat_lit 0)), .u8 (Int.ofNat (nat_lit 0)), .u8 (Int.ofNat (nat_lit 0)), .u8 (Int.ofNat (nat_lit 0)), .u8 (Int.ofNat (nat_lit 0)), .u8 (Int.ofNat (nat_lit 0)), .u8 (Int.ofNat (nat_lit 0)), .u8 (Int.ofNat (nat_lit 0)), .u8 (Int.ofNat (nat_lit 0)), .u8 (Int.ofNat (nat_lit 0)), .u8 (Int.ofNat (nat_lit 0)), .u8 (Int.ofNat (nat_lit 0)), .u8 (Int.ofNat (nat_lit 0)), .u8 (Int.ofNat (nat_lit 0)), .u8 (Int.ofNat (nat_lit 0)), .u8 (Int.ofNat (nat_lit 0)), .u8 (Int.ofNat (nat_lit 0)), .u8 (Int.ofNat (nat_lit 0)), .u8 (Int.ofNat (nat_lit 0)), .u8 (Int.ofNat (nat_lit 0)), .u8 (Int.ofNat (nat_lit 0)), .u8 (Int.ofNat (nat_lit 0)), .u8 (Int.ofNat (nat_lit 0)), .u8 (Int.ofNat (nat_lit 0)), .u8 (Int.ofNat (nat_lit 0)), .u8 (Int.ofNat (nat_lit 0)), .u8 (Int.ofNat (nat_lit 0)), .u8 (Int.ofNat (nat_lit 0)), .u8 (Int.ofNat (nat_lit 0)), .u8 (Int.ofNat (nat_lit 0)), .u8 (Int.ofNat (nat_lit 0)), .u8 (Int.ofNat (nat_lit 0)), .u8 (Int.ofNat (nat_lit 0)), .u8 (Int.ofNat (nat_lit 0)), .u8 (Int.ofNat (nat_lit 0)), .u8 (Int.ofNat (nat_lit 0)), .u8 (Int.ofNat (nat_lit 0)), .u8 (Int.ofNat (nat_lit 0)), .u8 (Int.ofNat (nat_lit 0)), .u8 (Int.ofNat (nat_lit 0)), .u8 (Int.ofNat (nat_lit 0)), .u8 (Int.ofNat (nat_lit 0)), .u8 (Int.ofNat (nat_lit 0)), .u8 (Int.ofNat (nat_lit 0)), .u8 (Int.ofNat (nat_lit 0)), .u8 (Int.ofNat (nat_lit 0)), .u8 (Int.ofNat (nat_lit 0)), .u8 (Int.ofNat (nat_lit 0)), .u8 (Int.ofNat (nat_lit 0)), .u8 (Int.ofNat (nat_lit 0)), .u8 (Int.ofNat (nat_lit 0)), .u8 (Int.ofNat (nat_lit 0)), .u8 (Int.ofNat (nat_lit 0)), .u8 (Int.ofNat (nat_lit 0)), .u8 (Int.ofNat (nat_lit 0)), .u8 (Int.ofNat (nat_lit 0)), .u8 (Int.ofNat (nat_lit 0)), .u8 (Int.ofNat (nat_lit 0)), .u8 (Int.ofNat (nat_lit 0)), .u8 (Int.ofNat (nat_lit 0)), .u8 (Int.ofNat (nat_lit 0)), .u8 (Int.ofNat (nat_lit 0)), .u8 (Int.ofNat (nat_lit 0)), .u8 (Int.ofNat (nat_lit 0)), .u8 (Int.ofNat (nat_lit 0)), .u8 (Int.ofNat (nat_lit 0)), .u8 (Int.ofNat (nat_lit 0)), .u8 (Int.ofNat (nat_lit 0)), .u8 (Int.ofNat (nat_lit 0)), .u8 (Int.ofNat (nat_lit 0)), .u8 (Int.ofNat (nat_lit 0)), .u8 (Int.ofNat (nat_lit 0)), .u8 (Int.ofNat (nat_lit 0)), .u8 (Int.ofNat (nat_lit 0)), .u8 (Int.ofNat (nat_lit 0)), .u8 (Int.ofNat (nat_lit 0)), .u8 (Int.ofNat (nat_lit 0)), .u8 (Int.ofNat (nat_lit 0)), .u8 (Int.ofNat (nat_lit 0)), .u8 (Int.ofNat (nat_lit 0)), .u8 (Int.ofNat (nat_lit 0)), .u8 (Int.ofNat (nat_lit 0)), .u8 (Int.ofNat (nat_lit 0)), .u8 (Int.ofNat (nat_lit 0)), .u8 (Int.ofNat (nat_lit 0)), .u8 (Int.ofNat (nat_lit 0)), .u8 (Int.ofNat (nat_lit 0)), .u8 (Int.ofNat (nat_lit 0)), .u8 (Int.ofNat (nat_lit 0)), .u8 (Int.ofNat (nat_lit 0)), .u8 (Int.ofNat (nat_lit 0)), .u8 (Int.ofNat (nat_lit 0)), .u8 (Int.ofNat (nat_lit 0)), .u8 (Int.ofNat (nat_lit 0)), .u8 (Int.ofNat (nat_lit 0)), .u8 (Int.ofNat (nat_lit 0)), .u8 (Int.ofNat (nat_lit 0)), .u8 (Int.ofNat (nat_lit 0)), .u8 (Int.ofNat (nat_lit 0)), .u8 (Int.ofNat (nat_lit 0)), .u8 (Int.ofNat (nat_lit 0)), .u8 (Int.ofNat (nat_lit 0)), .u8 (Int.ofNat (nat_lit 0)), .u8 (Int.ofNat (nat_lit 0)), .u8 (Int.ofNat (nat_lit 0)), .u8 (Int.ofNat (nat_lit 0)), .u8 (Int.ofNat (nat_lit 0)), .u8 (Int.ofNat (nat_lit 0)), .u8 (Int.ofNat (nat_lit 0)), .u8 (Int.ofNat (nat_lit 0)), .u8 (Int.ofNat (nat_lit 0)), .u8 (Int.ofNat (nat_lit 0)), .u8 (Int.ofNat (nat_lit 0)), .u8 (Int.ofNat (nat_lit 0)), .u8 (Int.ofNat (nat_lit 0)), .u8 (Int.ofNat (nat_lit 0)), .u8 (Int.ofNat (nat_lit 0)), .u8 (Int.ofNat (nat_lit 0)), .u8 (Int.ofNat (nat_lit 0)), .u8 (Int.ofNat (nat_lit 0)), .u8 (Int.ofNat (nat_lit 0)), .u8 (Int.ofNat (nat_lit 0)), .u8 (Int.ofNat (nat_lit 0)), .u8 (Int.ofNat (nat_lit 0)), .u8 (Int.ofNat (nat_lit 0)), .u8 (Int.ofNat (nat_lit 0)), .u8 (Int.ofNat (nat_lit 0)), .u8 (Int.ofNat (nat_lit 0)), .u8 (Int.ofNat (nat_lit 0)), .u8 (Int.ofNat (nat_lit 0)), .u8 (Int.ofNat (nat_lit 0)), .u8 (Int.ofNat (nat_lit 0)), .u8 (Int.ofNat (nat_lit 0)), .u8 (Int.ofNat (nat_lit 0)), .u8 (Int.ofNat (nat_lit 0)), .u8 (Int.ofNat (nat_lit 0)), .u8 (Int.ofNat (nat_lit 0)), .u8 (Int.ofNat (nat_lit 0)), .u8 (Int.ofNat (nat_lit 0)), .u8 (Int.ofNat (nat_lit 0)), .u8 (Int.ofNat (nat_lit 0)), .u8 (Int.ofNat (nat_lit 0)), .u8 (Int.ofNat (nat_lit 0)), .u8 (Int.ofNat (nat_lit 0)), .u8 (Int.ofNat (nat_lit 0)), .u8 (Int.ofNat (nat_lit 0)), .u8 (Int.ofNat (nat_lit 0)), .u8 (Int.ofNat (nat_lit 0)), .u8 (Int.ofNat (nat_lit 0)), .u8 (Int.ofNat (nat_lit 0)), .u8 (Int.ofNat (nat_lit 0)), .u8 (Int.ofNat (nat_lit 0)), .u8 (Int.ofNat (nat_lit 0)), .u8 (Int.ofNat (nat_lit 0)), .u8 (Int.ofNat (nat_lit 0)), .u8 (Int.ofNat (nat_lit 0)), .u8 (Int.ofNat (nat_lit 0)), .u8 (Int.ofNat (nat_lit 0)), .u8 (Int.ofNat (nat_lit 0)), .u8 (Int.ofNat (nat_lit 0)), .u8 (Int.ofNat (nat_lit 0)), .u8 (Int.ofNat (nat_lit 0)), .u8 (Int.ofNat (nat_lit 0)), .u8 (Int.ofNat (nat_lit 0)), .u8 (Int.ofNat (nat_lit 0)), .u8 (Int.ofNat (nat_lit 0)), .u8 (Int.ofNat (nat_lit 0)), .u8 (Int.ofNat (nat_lit 0)), .u8 (Int.ofNat (nat_lit 0)), .u8 (Int.ofNat (nat_lit 0)), .u8 (Int.ofNat (nat_lit 0)), .u8 (Int.ofNat (nat_lit 0)), .u8 (Int.ofNat (nat_lit 0)), .u8 (Int.ofNat (nat_lit 0)), .u8 (Int.ofNat (nat_lit 0)), .u8 (Int.ofNat (nat_lit 0)), .u8 (Int.ofNat (nat_lit 0)), .u8 (Int.ofNat (nat_lit 0)), .u8 (Int.ofNat (nat_lit 0)), .u8 (Int.ofNat (nat_lit 0)), .u8 (Int.ofNat (nat_lit 0)), .u8 (Int.ofNat (nat_lit 0)), .u8 (Int.ofNat (nat_lit 0)), .u8 (Int.ofNat (nat_lit 0)), .u8 (Int.ofNat (nat_lit 0)), .u8 (Int.ofNat (nat_lit 0)), .u8 (Int.ofNat (nat_lit 0)), .u8 (Int.ofNat (nat_lit 0)), .u8 (Int.ofNat (nat_lit 0)), .u8 (Int.ofNat (nat_lit 0)), .u8 (Int.ofNat (nat_lit 0)), .u8 (Int.ofNat (nat_lit 0)), .u8 (Int.ofNat (nat_lit 0)), .u8 (Int.ofNat (nat_lit 0)), .u8 (Int.ofNat (nat_lit 0)), .u8 (Int.ofNat (nat_lit 0)), .u8 (Int.ofNat (nat_lit 0)), .u8 (Int.ofNat (nat_lit 0)), .u8 (Int.ofNat (nat_lit 0)), .u8 (Int.ofNat (nat_lit 0)), .u8 (Int.ofNat (nat_lit 0)), .u8 (Int.ofNat (nat_lit 0)), .u8 (Int.ofNat (nat_lit 0)), .u8 (Int.ofNat (nat_lit 0)), .u8 (Int.ofNat (nat_lit 0)), .u8 (Int.ofNat (nat_lit 0)), .u8 (Int.ofNat (nat_lit 0)), .u8 (Int.ofNat (nat_lit 0)), .u8 (Int.ofNat (nat_lit 0)), .u8 (Int.ofNat (nat_lit 0)), .u8 (Int.ofNat (nat_lit 0)), .u8 (Int.ofNat (nat_lit 0))]
theorem sigs_eq : sigs = (elemsOf Rows.laid_semtype_words_signs).map toV := by kernel_rfl
theorem asp_eq : asp = (elemsOf Rows.laid_strings_asciiSpace).map toV := by kernel_rfl
noncomputable def h0 : H := .mk (nat_lit 12) (T.set (nat_lit 64) (.cells true (nat_lit 0) [.sl (nat_lit 11) (nat_lit 0) (nat_lit 23) (nat_lit 23) (nat_lit 1) true]) (T.set (nat_lit 64) (.cells true (nat_lit 0) asp) (T.set (nat_lit 64) (.cells true (nat_lit 0) sigs) .lf (nat_lit 11)) (nat_lit 1)) (nat_lit 0))
theorem h0_get (b : Nat) : h0.get b = if b = 0 then some (.cells true 0 [.sl 11 0 23 23 1 true]) else if b = 1 then some (.cells true 0 asp) else if b = 11 then some (.cells true 0 sigs) else none := by
  simp only [h0, H.get]
  rw [T.get_set _ 64 _ 0 b (by omega), T.get_set _ 64 _ 1 b (by omega), T.get_set _ 64 _ 11 b (by omega), T.get_lf]
theorem h0_n : h0.n = 12 := rfl
theorem gSig : Tryz.prog.globalNamed "semtype/words.signs" = some 0 := by kernel_rfl
theorem gAsp : Tryz.prog.globalNamed "strings.asciiSpace" = some 1 := by kernel_rfl
theorem ySig : (Tryz.prog.globals[0]?).map (·.type) = some 25 := by kernel_rfl
theorem yAsp : (Tryz.prog.globals[1]?).map (·.type) = some 269 := by kernel_rfl
theorem nGlob : Tryz.prog.globals.size = 11 := by kernel_rfl
theorem c9 : Tryz.prog.cellsOf 9 = 1 := by kernel_rfl
theorem cell_lt {w : World} {a : Addr} {v : Value} (h : w.cell? a = some v) : a.block < w.heap.size := by
  unfold Go.World.cell? at h
  cases hh : w.heap[a.block]? with
  | none => rw [hh] at h; cases h
  | some x => exact (Array.getElem?_eq_some_iff.1 hh).1
theorem strs_len (ss : List ByteArray) : (Go.ChangeShapes.strs (H := Unit) ss).length = ss.length := by simp [Go.ChangeShapes.strs]
theorem sig_read {W : World} (h : Go.Lib.VarReads Tryz.prog W "semtype/words.signs" Rows.laid_semtype_words_signs) :
    ∃ a : Addr, W.cell? ⟨0, 0, none⟩ = some (.slice (some ⟨a.block, a.off, none⟩) 23 23) ∧ ∀ (ι : Inj) (i : Nat) (v : V), sigs[i]? = some v → ∃ cv, W.cell? ⟨a.block, a.off + i, none⟩ = some cv ∧ VR ι v cv ∧ cv.oneCell' = true := by
  obtain ⟨g, t, cs, fuel, p, hg, ht, hv, hd⟩ := h
  obtain rfl := Option.some.inj (gSig.symm.trans hg)
  obtain rfl := Option.some.inj (ySig.symm.trans ht)
  have hc0 : W.cell? ⟨0, 0, none⟩ = cs[0]? := World.var?_cell hg hv 0
  rcases Go.ChangeShapes.open_strings Tryz.underlying25 Tryz.underlying9 c9 hd with ⟨_, hx⟩ | ⟨a, len, cap, ss, hcs, _, hlc, _, hsl, hx, hcell, _⟩
  · exact absurd (congrArg Prod.fst hx) (by intro e; cases e)
  · have hx1 : Rows.laid_semtype_words_signs = Go.DataW.slice (Go.ChangeShapes.strs (ss.take len)) (Go.ChangeShapes.strs (ss.drop len)) := congrArg Prod.fst hx
    have e1 : elemsOf Rows.laid_semtype_words_signs = Go.ChangeShapes.strs (ss.take len) := by rw [hx1]; rfl
    have e2 : Go.ChangeShapes.strs (H := Unit) (ss.drop len) = [] := by
      have h2 : ∀ (x y : List (Go.DataW Unit)), Rows.laid_semtype_words_signs = .slice x y → y = [] := by
        intro x y hh
        unfold Rows.laid_semtype_words_signs at hh
        injection hh with _ h3
        exact h3.symm
      exact h2 _ _ hx1
    have e3 : ss.length = cap := by simpa using hsl
    have e4 : ss.length ≤ len := by
      have := congrArg List.length e2
      rw [strs_len] at this
      simp at this; omega
    have e5 : cap = len := by omega
    have e6 : ss.take len = ss := List.take_of_length_le e4
    rw [e6] at e1
    have n23 : ss.length = 23 := by
      have h3 : (elemsOf Rows.laid_semtype_words_signs).length = 23 := rfl
      rw [e1, strs_len] at h3
      exact h3
    have hl : len = 23 := by omega
    have hcp : cap = 23 := by omega
    subst hl
    subst hcp
    have hsp : a.spot = none := by
      have := hcell 0 (by omega)
      have h0 : a.add 0 = a := by simp [Go.Addr.add]
      rw [h0] at this
      obtain ⟨b, off, sp⟩ := a
      exact Go.Proofs.cell_spot this
    have ha : a = ⟨a.block, a.off, none⟩ := by obtain ⟨b, off, sp⟩ := a; simp at hsp; subst hsp; rfl
    refine ⟨a, ?_, fun ι i v hv => ?_⟩
    · rw [hc0, ← ha, ← Array.getElem?_toList, hcs]; rfl
    · rw [sigs_eq, e1, Go.ChangeShapes.strs, List.map_map, List.getElem?_map] at hv
      cases hs : ss[i]? with
      | none => rw [hs] at hv; cases hv
      | some s =>
        rw [hs] at hv
        simp only [Option.map_some, Option.some.injEq, Function.comp_apply] at hv
        subst hv
        have hi : i < ss.length := (List.getElem?_eq_some_iff.1 hs).1
        have h9 := hcell i hi
        rw [ha, Go.Addr.add_lit] at h9
        have hgd : ss.getD i ByteArray.empty = s := by simp [List.getD, hs]
        rw [hgd] at h9
        exact ⟨_, h9, by simp only [toV, VR]; exact ⟨s, rfl, rfl, rfl⟩, rfl⟩
theorem u5 : Tryz.prog.underlying 5 = some (.int .u8) := by kernel_rfl
theorem u269 : Tryz.prog.underlying 269 = some (.array 256 5) := by kernel_rfl
theorem c5 : Tryz.prog.cellsOf 5 = 1 := by kernel_rfl
theorem asp_read {W : World} (h : Go.Lib.VarReads Tryz.prog W "strings.asciiSpace" Rows.laid_strings_asciiSpace) (ι : Inj) (i : Nat) (v : V) (hv : asp[i]? = some v) : ∃ cv, W.cell? ⟨1, 0 + i, none⟩ = some cv ∧ VR ι v cv ∧ cv.oneCell' = true := by
  obtain ⟨g, t, cs, fuel, p, hg, ht, hvar, hd⟩ := h
  obtain rfl := Option.some.inj (gAsp.symm.trans hg)
  obtain rfl := Option.some.inj (yAsp.symm.trans ht)
  have hc0 : W.cell? ⟨1, i, none⟩ = cs[i]? := World.var?_cell hg hvar i
  obtain ⟨xs, m, rfl, hx, hl, hn, hel⟩ := Go.DataW.trod_array u269 hd
  have hx1 : Rows.laid_strings_asciiSpace = Go.DataW.agg (xs.map (·.1)) := congrArg Prod.fst hx
  have e1 : elemsOf Rows.laid_strings_asciiSpace = xs.map (·.1) := by rw [hx1]; rfl
  rw [asp_eq, e1, List.map_map, List.getElem?_map] at hv
  cases hs : xs[i]? with
  | none => rw [hs] at hv; cases hv
  | some x =>
    rw [hs] at hv
    simp only [Option.map_some, Option.some.injEq, Function.comp_apply] at hv
    subst hv
    have hi : i < 256 := by rw [← hn]; exact (List.getElem?_eq_some_iff.1 hs).1
    have h9 := hel i hi
    rw [c5, Nat.mul_one, hs] at h9
    obtain ⟨n, q1, q2, _⟩ := DataW.trod_int u5 h9
    have hcs : cs[i]? = some (.int .u8 n) := by
      have := congrArg (fun l => l[0]?) q1
      simp at this
      simpa using this
    rw [Nat.zero_add, hc0, hcs]
    exact ⟨_, rfl, by rw [q2]; simp only [toV, VR], rfl⟩
theorem init {W : World} (hsz : 11 ≤ W.heap.size) (hs : Go.Lib.VarReads Tryz.prog W "semtype/words.signs" Rows.laid_semtype_words_signs) (ha : Go.Lib.VarReads Tryz.prog W "strings.asciiSpace" Rows.laid_strings_asciiSpace) :
    ∃ ι, HR Tryz.prog ι h0 W ∧ (∀ g, g < Tryz.prog.globals.size → ∃ room, ι g = some ⟨g, 0, room⟩) ∧ ∀ b L x, ι b = some L → h0.get b = some x → own x = false := by
  obtain ⟨a, hc, hsig⟩ := sig_read hs
  have hasp := asp_read ha
  have hown : ∀ b x, h0.get b = some x → own x = false := by
    intro b x hx
    rw [h0_get] at hx
    split at hx
    · cases hx; rfl
    · split at hx
      · cases hx; rfl
      · split at hx
        · cases hx; rfl
        · cases hx
  have hablk : a.block < W.heap.size := by
    obtain ⟨cv, h1, _⟩ := hsig (fun _ => none) 0 _ (show sigs[0]? = some _ from rfl)
    exact cell_lt (a := ⟨a.block, a.off + 0, none⟩) h1
  let ι : Inj := fun b => if b < 11 then some ⟨b, 0, if b = 0 then 1 else if b = 1 then 256 else 0⟩ else if b = 11 then some ⟨a.block, a.off, 23⟩ else none
  have ι11 : ι 11 = some ⟨a.block, a.off, 23⟩ := by simp [ι]
  have nsig : sigs.length = 23 := rfl
  have nasp : asp.length = 256 := by kernel_rfl
  refine ⟨ι, ⟨fun b hb => ?_, fun b L hb => ?_, fun b L x hb hx => ?_, fun b b' L L' x x' _ _ _ hx _ ho _ => ?_⟩, fun g hg => ?_, fun b L x _ hx => hown b x hx⟩
  · rw [h0_n] at hb
    have h1 : ¬ b < 11 := by omega
    have h2 : ¬ b = 11 := by omega
    simp [ι, h1, h2]
  · simp only [ι] at hb
    split at hb
    · cases hb; show b < _; omega
    · split at hb
      · cases hb; exact hablk
      · cases hb
  · rw [h0_get] at hx
    split at hx
    · rename_i h1; subst h1
      cases hx
      have hb' : L = ⟨0, 0, 1⟩ := by simp [ι] at hb; exact hb.symm
      subst hb'
      refine ⟨fun i v hv => ?_, Nat.le_refl _, fun i hi => ?_, (fun hq => nomatch hq), (fun hq => nomatch hq)⟩
      · have : i = 0 := by
          have := (List.getElem?_eq_some_iff.1 hv).1
          simp at this; exact this
        subst this
        simp at hv; subst hv
        refine ⟨_, hc, ?_⟩
        simp only [VR]
        exact ⟨_, 23, a.off, ι11, rfl, .inl rfl, Nat.le_refl _, Nat.le_refl _, Nat.le_refl _, fun _ => rfl⟩
      · have h0 : i = 0 := by have : i < 1 := hi; omega
        subst h0
        exact ⟨_, hc, rfl⟩
    · split at hx
      · rename_i h1; subst h1
        cases hx
        have hb' : L = ⟨1, 0, 256⟩ := by simp [ι] at hb; exact hb.symm
        subst hb'
        refine ⟨fun i v hv => ?_, by rw [nasp]; exact Nat.le_refl _, fun i hi => ?_, (fun hq => nomatch hq), (fun hq => nomatch hq)⟩
        · obtain ⟨cv, h2, h3, _⟩ := hasp ι i v hv; exact ⟨cv, h2, h3⟩
        · have hi' : i < asp.length := by rw [nasp]; exact hi
          obtain ⟨cv, h2, _, h4⟩ := hasp ι i _ (List.getElem?_eq_getElem hi'); exact ⟨cv, h2, h4⟩
      · split at hx
        · rename_i h1; subst h1
          cases hx
          rw [ι11] at hb; cases hb
          refine ⟨fun i v hv => ?_, by rw [nsig]; exact Nat.le_refl _, fun i hi => ?_, (fun hq => nomatch hq), (fun hq => nomatch hq)⟩
          · obtain ⟨cv, h2, h3, _⟩ := hsig ι i v hv; exact ⟨cv, h2, h3⟩
          · have hi' : i < sigs.length := by rw [nsig]; exact hi
            obtain ⟨cv, h2, _, h4⟩ := hsig ι i _ (List.getElem?_eq_getElem hi'); exact ⟨cv, h2, h4⟩
        · cases hx
  · rw [hown _ _ hx] at ho; cases ho
  · rw [nGlob] at hg
    exact ⟨_, by simp only [ι]; rw [if_pos hg]⟩
end Go.Proofs.YtcpknphdancjjaaGreatDoor.Ev
