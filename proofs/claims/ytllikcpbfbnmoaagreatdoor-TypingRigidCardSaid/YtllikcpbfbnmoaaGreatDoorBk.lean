/- A range over the closure of slices.Backward, and the function plain at a variable: the last binding of that name. -/
import Derived.RangeFuncBox
import Derived.RangeFuncLeaves
import Derived.RangeFuncNested
import Derived.Shelf.Abstract
import Derived.WalkKit
import Derived.OwnWalkIn
import Derived.TacticsInMore
import Derived.LoopNIn
import Derived.LoopIn
import Derived.Test.YtllikcpbfbnmoaaGreatDoorProg
set_option linter.unusedVariables false
namespace Go.Proofs.YtllikcpbfbnmoaaGreatDoor
open Go Go.RowKit Go.Shelf
attribute [local go_sem] Oper.semAt_some
/-- what has come when k rounds are over, from the end -/
def down {α : Type} (f : Nat → α) (n k : Nat) : List α := (List.range k).map fun j => f (n - 1 - j)
theorem down_succ {α : Type} (f : Nat → α) (n k : Nat) : down f n (k + 1) = down f n k ++ [f (n - 1 - k)] := by simp [down, List.range_succ]
theorem down_length {α : Type} (f : Nat → α) (n k : Nat) : (down f n k).length = k := by simp [down]
set_option maxRecDepth 100000 in
set_option maxHeartbeats 2000000 in
theorem back1_in (F : Fence) (n : Nat) (h8 : F.fn 225) (hro : F.round = none) (hn : 1 ≤ n) (l Bs n₀ b off len cap : Nat) (zs : Nat → ByteArray × Option Addr × Nat × Nat × Int) (hreach : len * 3 * 16 ≤ 140737488351232) (hb : b < n₀) (hbs : Bs < n₀) (J Jx : List (Nat × ByteArray × Option Addr × Nat × Nat × Int) → World → Prop)
    (hY : ∀ pre x W, J pre W → pre.length < len → YieldAt F (n - 1) Tryz.prog l #[.int .i64 (x.1 : Int), .agg #[.string x.2.1, .slice x.2.2.1 x.2.2.2.1 x.2.2.2.2.1, .int .i64 x.2.2.2.2.2]] W fun e W' =>
      (e = .returned (.bool true) ∧ J (pre ++ [x]) W' ∧ Below n₀ W W') ∨ (e = .returned (.bool false) ∧ Jx (pre ++ [x]) W'))
    (W : World) (hBs : W.cell? ⟨Bs, 0, none⟩ = some (.slice (some ⟨b, off, none⟩) len cap)) (hc : ∀ j, j < len → W.cell? ⟨b, off + j * 3, none⟩ = some (.string (zs j).1) ∧ W.cell? ⟨b, off + j * 3 + 1, none⟩ = some (.slice (zs j).2.1 (zs j).2.2.1 (zs j).2.2.2.1) ∧ W.cell? ⟨b, off + j * 3 + 2, none⟩ = some (.int .i64 (zs j).2.2.2.2)) (h0 : J [] W) :
    CallsIn F n Tryz.prog 225 #[.func (.yield l) #[] #[], .pointer (some ⟨Bs, 0, none⟩)] W fun e W' => (∃ v, e = .returned v) ∧
      ((∃ ys, ys = down (fun j => (j, zs j)) len len ∧ J ys W') ∨ (∃ pre, (∃ k, k < len ∧ pre = down (fun j => (j, zs j)) len (k + 1)) ∧ Jx pre W')) := by
  refine callsIn_of_wp Tryz.func225 rfl h8 ?_ hro
  simp only [Tryz.ntmps225, List.size_toArray, List.length_cons, List.length_nil, Nat.reduceAdd, Nat.reduceSub, Array.replicate_succ, Array.replicate_zero, List.push_toArray, List.append_toArray, List.nil_append, List.cons_append]
  gi_wp2
  gi_loopw [3] (fun i wr => ∃ k : Nat, k ≤ len ∧ i = .int .i64 ((len : Int) - 1 - k) ∧ J (down (fun j => (j, zs j)) len k) wr ∧ Below n₀ W wr)
    (fun i _ => (intOf i + 1).toNat)
  case atStart => exact ⟨0, Nat.zero_le _, by simp, h0, Below.refl _ _⟩
  case round =>
    obtain ⟨k, hk, rfl, hJs, hnx⟩ := hrel
    have hbx := (hnx.cell (p := ⟨Bs, 0, none⟩) hbs).trans hBs
    by_cases hlt : k < len
    · have e : ((len : Int) - 1 - k) = ((len - 1 - k : Nat) : Int) := by omega
      obtain ⟨fn, tmps, assign, body, hy, hR⟩ := hY _ (len - 1 - k, zs (len - 1 - k)) wr hJs (by rw [down_length]; exact hlt)
      dsimp only at hy
      obtain ⟨c0, c1, c2⟩ := hc (len - 1 - k) (by omega)
      have d0 := (hnx.cell (p := ⟨b, off + (len - 1 - k) * 3, none⟩) hb).trans c0
      have d1 := (hnx.cell (p := ⟨b, off + (len - 1 - k) * 3 + 1, none⟩) hb).trans c1
      have d2 := (hnx.cell (p := ⟨b, off + (len - 1 - k) * 3 + 2, none⟩) hb).trans c2
      have hj : len - 1 - k < len := by omega
      rw [e]
      have back : ∀ W3, J (down (fun j => (j, zs j)) len k ++ [(len - 1 - k, zs (len - 1 - k))]) W3 → J (down (fun j => (j, zs j)) len (k + 1)) W3 := fun W3 h => by rw [down_succ]; exact h
      have backx : ∀ W3, Jx (down (fun j => (j, zs j)) len k ++ [(len - 1 - k, zs (len - 1 - k))]) W3 → Jx (down (fun j => (j, zs j)) len (k + 1)) W3 := fun W3 h => by rw [down_succ]; exact h
      generalize hjj : len - 1 - k = j at *
      gi_wp2
      refine hR.mono ?_
      rintro e W3 (⟨rfl, hJ3, hk3⟩ | ⟨rfl, hJx3⟩)
      · gi_wp2
        go_roundw
        case rel => exact ⟨k + 1, by omega, by rw [show (j : Int) - 1 = (len : Int) - 1 - ((k + 1 : Nat) : Int) from by omega], back _ hJ3, hnx.trans hk3⟩
        case measure => simp [intOf]
      · gi_wp2
        refine bodyPost_ret (results_none rfl _ _ _) rfl ?_
        exact ⟨⟨_, rfl⟩, .inr ⟨_, ⟨k, by omega, rfl⟩, backx _ hJx3⟩⟩
    · obtain rfl : k = len := by omega
      gi_wp2
      go_end0
      exact ⟨⟨_, rfl⟩, .inl ⟨_, rfl, hJs⟩⟩
set_option maxHeartbeats 1000000 in
theorem back_in (F : Fence) (n : Nat) (h6 : F.fn 174) (hro : F.round = none) (a : Option Addr) (len cap : Nat) (w : World) :
    CallsIn F n Tryz.prog 174 #[.slice a len cap] w fun e w' => e = .returned (.func (.func 225) #[] #[.pointer (some ⟨w.heap.size, 0, none⟩)]) ∧ w' = w.alloc (.cells #[.slice a len cap] 106) := by
  refine callsIn_of_wp Tryz.func174 rfl h6 ?_ hro
  simp only [Tryz.ntmps174, List.size_toArray, List.length_cons, List.length_nil, Nat.reduceAdd, Nat.reduceSub, Array.replicate_succ, Array.replicate_zero, List.push_toArray, List.append_toArray, List.nil_append, List.cons_append]
  gi_wp2
  go_ret
  exact ⟨rfl, rfl⟩
theorem back_stops (F : Fence) (n : Nat) (h8 : F.fn 225) (hro : F.round = none) (hn : 1 ≤ n) (Bs b off len cap n₀ : Nat) (zs : Nat → ByteArray × Option Addr × Nat × Nat × Int) (hreach : len * 3 * 16 ≤ 140737488351232) (w : World) (hBs : Bs < n₀) (hb : b < n₀) (hn₀ : n₀ ≤ w.heap.size)
    (hbx : w.cell? ⟨Bs, 0, none⟩ = some (.slice (some ⟨b, off, none⟩) len cap))
    (hc : ∀ j, j < len → w.cell? ⟨b, off + j * 3, none⟩ = some (.string (zs j).1) ∧ w.cell? ⟨b, off + j * 3 + 1, none⟩ = some (.slice (zs j).2.1 (zs j).2.2.1 (zs j).2.2.2.1) ∧ w.cell? ⟨b, off + j * 3 + 2, none⟩ = some (.int .i64 (zs j).2.2.2.2)) :
    SeqStopsK F n Tryz.prog 225 #[.pointer (some ⟨Bs, 0, none⟩)] (fun x : Nat × ByteArray × Option Addr × Nat × Nat × Int => #[.int .i64 (x.1 : Int), .agg #[.string x.2.1, .slice x.2.2.1 x.2.2.2.1 x.2.2.2.2.1, .int .i64 x.2.2.2.2.2]]) (Below n₀) (fun ys => ys = down (fun j => (j, zs j)) len len)
      (fun pre => ∃ k, k < len ∧ pre = down (fun j => (j, zs j)) len (k + 1)) len w := fun l J Jx W hW _ _ hY h0 =>
  back1_in F n h8 hro hn l Bs n₀ b off len cap zs hreach hb hBs J Jx hY W ((hW.cell (p := ⟨Bs, 0, none⟩) (by simp; omega)).trans hbx)
    (fun j hj => ⟨(hW.cell (p := ⟨b, off + j * 3, none⟩) (by simp; omega)).trans (hc j hj).1, (hW.cell (p := ⟨b, off + j * 3 + 1, none⟩) (by simp; omega)).trans (hc j hj).2.1, (hW.cell (p := ⟨b, off + j * 3 + 2, none⟩) (by simp; omega)).trans (hc j hj).2.2⟩) h0
theorem wpIn_gen {F : Fence} {n : Nat} {P : Program} {c : Code} {Q : Exit → Act → World → Prop} {a : Act} {w : World} (h : ∀ a0, a0 = a → c.wpIn F n P Q a0 w) : c.wpIn F n P Q a w := h a rfl
theorem wpIn_genW {F : Fence} {n : Nat} {P : Program} {c : Code} {Q : Exit → Act → World → Prop} {a : Act} {w : World} (h : ∀ w0, w0 = w → c.wpIn F n P Q a w0) : c.wpIn F n P Q a w := h w rfl
theorem mem_down {α : Type} (f : Nat → α) (n k j : Nat) (hj : j < n) (hk : n - 1 - j < k) : f j ∈ down f n k := List.mem_map.2 ⟨n - 1 - j, List.mem_range.2 hk, by congr 1; omega⟩
set_option maxRecDepth 100000 in
set_option maxHeartbeats 4000000 in
theorem plain_in (F : Fence) (n : Nat) (h3 : F.fn 105) (h5 : F.fn 174) (h7 : F.fn 225) (hro : F.round = none) (hn : 3 ≤ n) (x k1 k2 k4 k5 k6 k7 k8 k9 : Value) (s : ByteArray) (b off len cap : Nat) (nm : Nat → ByteArray) (ty : Nat → Option Addr × Nat × Nat × Int)
    (m : Nat) (hm : m < len) (hmt : (nm m).toList = s.toList) (hrest : ∀ j, m < j → j < len → (nm j).toList ≠ s.toList) (hreach : len * 3 * 16 ≤ 140737488351232) (w : World) (hb : b < w.heap.size)
    (hc : ∀ j, j < len → w.cell? ⟨b, off + j * 3, none⟩ = some (.string (nm j)) ∧ w.cell? ⟨b, off + j * 3 + 1, none⟩ = some (.slice (ty j).1 (ty j).2.1 (ty j).2.2.1) ∧ w.cell? ⟨b, off + j * 3 + 2, none⟩ = some (.int .i64 (ty j).2.2.2)) :
    CallsIn F n Tryz.prog 105 #[x, .slice (some ⟨b, off, none⟩) len cap, .agg #[.int .i64 5, k1, k2, .string s, k4, k5, k6, k7, k8, k9]] w fun e W' => e = .returned (.agg #[.slice (ty m).1 (ty m).2.1 (ty m).2.2.1, .int .i64 (ty m).2.2.2]) ∧ Below w.heap.size w W' := by
  have h1 : 1 ≤ n := by omega
  refine callsIn_of_wp_marks Tryz.func105 rfl h3 ?_ hro
  simp only [Tryz.ntmps105, List.size_toArray, List.length_cons, List.length_nil, Nat.reduceAdd, Nat.reduceSub, Array.replicate_succ, Array.replicate_zero, List.push_toArray, List.append_toArray, List.nil_append, List.cons_append]
  gi_wp2_with (gi_at_call 174; refine (back_in F (n - 1) h5 hro _ _ _ _).mono ?_; rintro e w' ⟨rfl, rfl⟩)
  refine wpIn_gen fun a0 ha => wpIn_genW fun wR hwR => ?_
  have hBR : Below w.heap.size w wR := by rw [hwR]; exact (((Below.refl _ w).alloc (Nat.le_refl _) _).alloc (by simp) _).alloc (by simp; omega) _
  have hsz : wR.heap.size = w.heap.size + 3 := by rw [hwR]; simp
  have p1 : wR.heap[w.heap.size]? = some (.cells #[.int .i64 5, k1, k2, .string s, k4, k5, k6, k7, k8, k9] 64) := by
    rw [hwR, Below.heap_alloc _ _ _ (by rw [World.size_alloc, World.size_alloc]; omega), Below.heap_alloc _ _ _ (by simp)]; exact World.alloc_heap_new _ _
  have p2 : wR.heap[w.heap.size + 1]? = some (.cells #[.slice none 0 0, .int .i64 0] 24) := by
    rw [hwR, Below.heap_alloc _ _ _ (by simp)]
    have := World.alloc_heap_new (w.alloc (.cells #[.int .i64 5, k1, k2, .string s, k4, k5, k6, k7, k8, k9] 64)) (.cells #[.slice none 0 0, .int .i64 0] 24)
    rwa [World.size_alloc] at this
  have p3 : wR.heap[w.heap.size + 2]? = some (.cells #[.slice (some ⟨b, off, none⟩) len cap] 106) := by
    rw [hwR]
    have := World.alloc_heap_new ((w.alloc (.cells #[.int .i64 5, k1, k2, .string s, k4, k5, k6, k7, k8, k9] 64)).alloc (.cells #[.slice none 0 0, .int .i64 0] 24)) (.cells #[.slice (some ⟨b, off, none⟩) len cap] 106)
    rwa [World.size_alloc, World.size_alloc] at this
  have box : wR.cell? ⟨w.heap.size + 2, 0, none⟩ = some (.slice (some ⟨b, off, none⟩) len cap) := by unfold World.cell?; rw [p3]; rfl
  have txt : wR.cell? ⟨w.heap.size, 3, none⟩ = some (.string s) := by unfold World.cell?; rw [p1]; rfl
  have res0 : wR.cell? ⟨w.heap.size + 1, 0, none⟩ = some (.slice none 0 0) := by unfold World.cell?; rw [p2]; rfl
  have res1 : wR.cell? ⟨w.heap.size + 1, 1, none⟩ = some (.int .i64 0) := by unfold World.cell?; rw [p2]; rfl
  have fz0 : wR.frozen? ⟨w.heap.size + 1, 0, none⟩ = false := by unfold World.frozen?; rw [p2]; rfl
  have fz1 : wR.frozen? ⟨w.heap.size + 1, 1, none⟩ = false := by unfold World.frozen?; rw [p2]; rfl
  refine wpIn_rangeFunc_ownH hro h1 (gf := 225) (lb := #[.pointer (some ⟨w.heap.size + 2, 0, none⟩)]) (by rw [ha]; rfl) h7 (enters_of Tryz.func225 (by kernel_rfl) rfl)
    (back_stops F (n - 1) h7 hro (by omega) (w.heap.size + 2) b off len cap (w.heap.size + 3) (fun j => (nm j, ty j)) hreach wR (by omega) (by omega) (by omega) box
      (fun j hj => ⟨(hBR.cell (p := ⟨b, off + j * 3, none⟩) hb).trans (hc j hj).1, (hBR.cell (p := ⟨b, off + j * 3 + 1, none⟩) hb).trans (hc j hj).2.1, (hBR.cell (p := ⟨b, off + j * 3 + 2, none⟩) hb).trans (hc j hj).2.2⟩))
    (fun h k => belowK_t h k) (belowK_b (by omega)) (Below.refl _ _) (fun _ => rfl)
    (fun pre W => (∀ p ∈ pre, p.2.1.toList ≠ s.toList) ∧ Below (w.heap.size + 3) wR W)
    (fun c pre W => (c = .ret ∧ ∃ ini last, pre = ini ++ [last] ∧ (∀ p ∈ ini, p.2.1.toList ≠ s.toList) ∧ last.2.1.toList = s.toList ∧ W.cell? ⟨w.heap.size + 1, 0, none⟩ = some (.slice last.2.2.1 last.2.2.2.1 last.2.2.2.2.1) ∧ W.cell? ⟨w.heap.size + 1, 1, none⟩ = some (.int .i64 last.2.2.2.2.2)) ∧ Below w.heap.size w W)
    (OwnFrom.and (Own.from (fun s A B row hs hg hr => hs) _) (ownFrom_below (by omega) (by omega)))
    (fun c => OwnFrom.and (Own.from (fun s A B row hs hg hr => by obtain ⟨hc, ini, last, e1, e2, e3, e4, e5⟩ := hs; exact ⟨hc, ini, last, e1, e2, e3, cell_kept e4 hg hr, cell_kept e5 hg hr⟩) _) (ownFrom_below (by omega) (by omega)))
    ⟨(by simp), Below.refl _ _⟩
    (fun x a' W => ∃ q, a' = { tmps := ((a0.tmps.setIfInBounds 49 (.int .i64 (x.1 : Int))).setIfInBounds 50 (.agg #[.string x.2.1, .slice x.2.2.1 x.2.2.2.1 x.2.2.2.2.1, .int .i64 x.2.2.2.2.2])).setIfInBounds 8 (.pointer (some ⟨q, 0, none⟩)), defers := [] } ∧ W.cell? ⟨q, 0, none⟩ = some (.string x.2.1) ∧ W.cell? ⟨q, 1, none⟩ = some (.slice x.2.2.1 x.2.2.2.1 x.2.2.2.2.1) ∧ W.cell? ⟨q, 2, none⟩ = some (.int .i64 x.2.2.2.2.2))
    (fun x a' _ A B row hs hg hr => by obtain ⟨q, e1, e2, e3, e4⟩ := hs; exact ⟨q, e1, cell_kept e2 hg (fun r e => (hr r e).2), cell_kept e3 hg (fun r e => (hr r e).2), cell_kept e4 hg (fun r e => (hr r e).2)⟩) ?assign ?body ?done ?stop
  case assign =>
    intro l pre x W K hI hK
    subst ha
    have hWs := hI.2.size
    gi_wp2
    have hh := World.alloc_heap_new W (.cells #[.string x.2.1, .slice x.2.2.1 x.2.2.2.1 x.2.2.2.2.1, .int .i64 x.2.2.2.2.2] 136)
    exact hK _ _ ((KeepsOthers.alloc _ _).from _) ((Below.refl _ W).alloc (by omega) _) ⟨hI.1, hI.2.alloc (by omega) _⟩ ⟨W.heap.size, rfl, by unfold World.cell?; rw [hh]; rfl, by unfold World.cell?; rw [hh]; rfl, by unfold World.cell?; rw [hh]; rfl⟩
  case body =>
    rintro l pre x a' W hl _ ⟨hp, hB⟩ ⟨q, rfl, q0, q1, q2⟩ _
    subst ha
    have txt' := (hB.cell (p := ⟨w.heap.size, 3, none⟩) (by simp)).trans txt
    have res0' := (hB.cell (p := ⟨w.heap.size + 1, 0, none⟩) (by simp)).trans res0
    have res1' := (hB.cell (p := ⟨w.heap.size + 1, 1, none⟩) (by simp)).trans res1
    have fz0' := (hB.frozen (p := ⟨w.heap.size + 1, 0, none⟩) (by simp)).trans fz0
    have fz1' := (hB.frozen (p := ⟨w.heap.size + 1, 1, none⟩) (by simp)).trans fz1
    have hBW : Below w.heap.size w W := hBR.trans (hB.mono (by omega))
    gi_wp2
    · have hx : x.2.1.toList = s.toList := by
        have h : (x.2.1.toList == s.toList) = true := by assumption
        simpa using h
      refine ⟨((KeepsOthers.setCell _ _ _).trans (KeepsOthers.setCell _ _ _)).from _, ⟨rfl, pre, x, rfl, hp, hx, ?_, ?_⟩, ?_⟩
      · exact (World.cell?_setCell_other _ ⟨w.heap.size + 1, 1, none⟩ ⟨w.heap.size + 1, 0, none⟩ _ (by simp)).trans (World.cell?_setCell_same' _ _ _ (by rw [res0']; rfl))
      · exact World.cell?_setCell_same' _ _ _ (by rw [(World.cell?_setCell_other _ ⟨w.heap.size + 1, 0, none⟩ ⟨w.heap.size + 1, 1, none⟩ _ (by simp)).trans res1']; rfl)
      · exact (hBW.setCell (p := ⟨w.heap.size + 1, 0, none⟩) (by simp) _).setCell (p := ⟨w.heap.size + 1, 1, none⟩) (by simp) _
    · have hx : ¬ x.2.1.toList = s.toList := by
        have h : (x.2.1.toList == s.toList) = false := by assumption
        simpa using h
      exact ⟨KeepsFrom.refl _ _, Below.refl _ _, ⟨fun p hp' => (List.mem_append.1 hp').elim (hp p) (fun e => by simp at e; subst e; exact hx), hB⟩⟩
  case done =>
    rintro D xs W hD rfl ⟨hne, _⟩ _
    exact absurd (by simp [hmt]) (hne (m, nm m, ty m) (mem_down (fun j => (j, nm j, ty j)) len len m hm (by omega)))
  case stop =>
    rintro D c pre W hD ⟨k, hk, rfl⟩ ⟨⟨rfl, ini, last, e1, e2, e3, hcr, hcs⟩, hB⟩ hK
    subst ha
    gi_wp2
    refine ⟨by simp, .inl ⟨_, _, rfl, run_takeDeferred hK, ?_⟩⟩
    have hc5 := cell_kept hcr (grownBy_putObj' _ D (.deferred none)) (fun r e => by cases e; exact ⟨_, hK, rfl⟩)
    have hc6 := cell_kept hcs (grownBy_putObj' _ D (.deferred none)) (fun r e => by cases e; exact ⟨_, hK, rfl⟩)
    rw [down_succ] at e1
    obtain ⟨rfl, e5⟩ := List.append_inj' e1 rfl
    have e6 : (len - 1 - k, nm (len - 1 - k), ty (len - 1 - k)) = last := by simpa using e5
    subst e6
    have e3' : (nm (len - 1 - k)).toList = s.toList := e3
    have hkm : len - 1 - k = m := by
      rcases Nat.lt_trichotomy m (len - 1 - k) with h | h | h
      · exact absurd e3' (hrest _ h (by omega))
      · exact h.symm
      · exact absurd hmt (e2 (m, nm m, ty m) (mem_down (fun j => (j, nm j, ty j)) len k m hm (by omega)))
    rw [hkm] at hc5 hc6
    refine ⟨.agg #[.slice (ty m).1 (ty m).2.1 (ty m).2.2.1, .int .i64 (ty m).2.2.2], ?_, rfl, hB.trans (belowK_b (w := w) (Nat.le_refl _) W D _ _ (by omega) hK rfl rfl)⟩
    simp [results, Tryz.f105, go_sem, hc5, hc6]
end Go.Proofs.YtllikcpbfbnmoaaGreatDoor
