/- The function plain, its branch of a variable told. -/
import Derived.Test.YtllikcpbfbnmoaaGreatDoorBk
import Derived.Test.YtllikcpbfbnmoaaGreatDoorEvE
set_option maxRecDepth 100000
set_option linter.unusedVariables false
namespace Go.Proofs.YtllikcpbfbnmoaaGreatDoor.Ev
open GoEv
open Go (IntKind Value World Addr Calls)
open Go.RowKit (Below)
/-- what was there reads as it did: so the abstract memory still fits. -/
theorem keep_of_below {P : Go.Program} {ι : Inj} {h : H} {w w' : World} (hr : HR P ι h w) (hb : Below w.heap.size w w') : HR P ι h w' ∧ Ext h ι w h ι w' :=
  ⟨⟨hr.dom, fun c L hc => Nat.lt_of_lt_of_le (hr.lt c L hc) hb.size, fun c L x hc hg2 => (hr.blk c L x hc hg2).same (Sub.refl _) (hb.block _ (hr.lt c L hc)), hr.apart, hr.wf⟩,
   ⟨Sub.refl _, Nat.le_refl _, fun c x _ h2 h3 => ⟨x, h2, h3⟩, hb.os, hb.tape, hb.output, hb.size, fun c hc _ => hb.block c hc, fun _ _ _ => rfl, fun c L h2 h3 => by rw [h2] at h3; cases h3⟩⟩
theorem plain_snd {F : Sm → List V → H → A} (hF : FSnd Tryz.prog 105 F) : FSnd Tryz.prog 105 (plainV F) := by
  intro S hS args h v h' hh
  have hh0 := hh
  unfold plainV at hh
  rw [un_some] at hh; obtain ⟨x, r1, rfl, hh⟩ := hh
  rw [un_some] at hh; obtain ⟨env, r2, rfl, hh⟩ := hh
  rw [un_some] at hh; obtain ⟨e, r3, rfl, hh⟩ := hh
  rw [nl_some'] at hh; obtain ⟨rfl, hh⟩ := hh
  rw [toA_some] at hh; obtain ⟨l, rfl, hh⟩ := hh
  rw [un_some] at hh; obtain ⟨kd, l1, rfl, hh⟩ := hh
  rw [toI_some] at hh; obtain ⟨z, rfl, hh⟩ := hh
  rw [cnd_some] at hh
  rcases hh with ⟨hz, hh⟩ | ⟨_, hh⟩
  · rw [eqZ_eq] at hz
    have hz5 : z = 5 := by simpa using hz
    subst hz5
    rw [un_some] at hh; obtain ⟨k1, l2, rfl, hh⟩ := hh
    rw [un_some] at hh; obtain ⟨k2, l3, rfl, hh⟩ := hh
    rw [un_some] at hh; obtain ⟨tx, l4, rfl, hh⟩ := hh
    rw [toS_some] at hh; obtain ⟨sl, sn, rfl, hh⟩ := hh
    rw [lnc_some] at hh; obtain ⟨h15, hh⟩ := hh
    rw [toSl_some] at hh
    rcases hh with ⟨b, o, len, c, s, k, rfl, hh⟩ | ⟨_, hh⟩
    case inr => cases hh
    cases hle : Nat.ble len 1000 with
    | false => rw [hle] at hh; cases hh
    | true =>
      have hle' : len ≤ 1000 := Nat.le_of_ble_eq_true hle
      rw [hle] at hh
      obtain ⟨hk, hall⟩ := bkC_some len hh
      obtain ⟨m, hm, a, c', ns, zt, hel, hsq, hr0, hrest⟩ := bkL_some len hk
      obtain ⟨rfl, rfl⟩ := Prod.mk.inj hr0
      intro ι w cargs hr ha hg
      -- the arguments
      obtain ⟨cx, t1, e1, _, ha1⟩ := ha
      obtain ⟨cenv, t2, rfl, henv, ha2⟩ := ha1
      obtain ⟨ce, t3, rfl, hce, ha3⟩ := ha2
      have : t3 = [] := ha3
      subst this
      have hca : cargs = #[cx, cenv, ce] := by cases cargs; simp_all
      subst hca
      simp only [VR] at henv hce
      obtain ⟨L, cc, off, hL, rfl, hoff, hroom, hlc, hcc, _⟩ := henv
      have hoff' : off = L.base + o := by
        rcases hoff with h1 | h1
        · exact h1
        · omega
      subst hoff'
      obtain ⟨ca, rfl, hva, _⟩ := hce
      obtain ⟨y0, u0, f0, g0, hva⟩ := hva
      obtain ⟨y1, u1, rfl, _, hva⟩ := hva
      obtain ⟨y2, u2, rfl, _, hva⟩ := hva
      obtain ⟨y3, u3, rfl, g3, hva⟩ := hva
      simp only [VR] at g0 g3
      subst g0
      obtain ⟨st, rfl, hst⟩ := g3
      have hu0 : u3.length = 6 := by rw [hva.length]; exact h15
      obtain ⟨y4, u4, rfl, hu1⟩ := cons_len hu0
      obtain ⟨y5, u5, rfl, hu2⟩ := cons_len hu1
      obtain ⟨y6, u6, rfl, hu3⟩ := cons_len hu2
      obtain ⟨y7, u7, rfl, hu4⟩ := cons_len hu3
      obtain ⟨y8, u8, rfl, hu5⟩ := cons_len hu4
      obtain ⟨y9, u9, rfl, hu6⟩ := cons_len hu5
      have hu9 : u9 = [] := List.eq_nil_of_length_eq_zero hu6
      subst hu9
      have hca : ca = #[Value.int .i64 5, y1, y2, .string st, y4, y5, y6, y7, y8, y9] := by cases ca; simp_all
      subst hca
      -- the bindings
      have cells : ∀ j, ∃ p : ByteArray × Option Addr × Nat × Nat × Int, j < len → w.cell? ⟨L.cb, L.base + o + j * 3, none⟩ = some (.string p.1) ∧ w.cell? ⟨L.cb, L.base + o + j * 3 + 1, none⟩ = some (.slice p.2.1 p.2.2.1 p.2.2.2.1) ∧ w.cell? ⟨L.cb, L.base + o + j * 3 + 2, none⟩ = some (.int .i64 p.2.2.2.2) := by
        intro j
        by_cases hj : j < len
        · obtain ⟨a, c', ns, z, h1, h2⟩ := hall j hj
          obtain ⟨nm, p, q, r, c0, c1, c2, _, _⟩ := h1.cells hr hL h2
          rw [← Nat.add_assoc] at c0 c1 c2
          exact ⟨(nm, p, q, r, z), fun _ => ⟨c0, c1, c2⟩⟩
        · exact ⟨(ByteArray.empty, none, 0, 0, 0), fun h => absurd h hj⟩
      obtain ⟨f, hf⟩ := Classical.axiomOfChoice cells
      have nameOf : ∀ j a c' ns z, j < len → El h' b o j [.str a c', ns, .i z] → SR a c' (f j).1 ∧ VR ι ns (.slice (f j).2.1 (f j).2.2.1 (f j).2.2.2.1) ∧ (f j).2.2.2.2 = z := by
        intro j a c' ns z hj he
        obtain ⟨a2, c2, ns2, z2, h1, h2⟩ := hall j hj
        obtain h3 := he.uniq h1
        obtain ⟨nm, p, q, r, d0, d1, d2, d3, d4⟩ := h1.cells hr hL h2
        injection h3 with e1 e2
        injection e1 with e3 e4
        injection e2 with e5 e6
        injection e6 with e7 _
        injection e7 with e8
        subst e3; subst e4; subst e5; subst e8
        rw [← Nat.add_assoc] at d0 d1 d2
        obtain ⟨f0, f1, f2⟩ := hf j hj
        rw [d0] at f0; rw [d1] at f1; rw [d2] at f2
        injection f0 with f0; injection f0 with f0
        injection f1 with f1; injection f1 with f1 f1' f1''
        injection f2 with f2; injection f2 with _ f2
        rw [← f0, ← f1, ← f1', ← f1'', ← f2]
        exact ⟨d3, d4, rfl⟩
      have hlt : L.cb < w.heap.size := hr.lt _ _ hL
      obtain ⟨n1, n2, n3⟩ := nameOf m a c' ns zt hm hel
      have hmt : ((f m).1).toList = st.toList := by
        have := sEqL n1 hst
        rw [hsq] at this
        simpa using this.symm
      have hno : ∀ j, m < j → j < len → ((f j).1).toList ≠ st.toList := by
        intro j h1 h2
        obtain ⟨a2, c2, ns2, z2, h3, h4⟩ := hrest j h1 h2
        obtain ⟨n4, _, _⟩ := nameOf j a2 c2 ns2 z2 h2 h3
        have := sEqL n4 hst
        rw [h4] at this
        simpa using this.symm
      have hcall := plain_in Go.Fence.wide 3 trivial trivial trivial rfl (Nat.le_refl _) cx y1 y2 y4 y5 y6 y7 y8 y9 st L.cb (L.base + o) len cc (fun j => (f j).1) (fun j => (f j).2) m hm hmt hno (by omega) w hlt (fun j hj => hf j hj)
      refine (Go.callsIn_wide.1 hcall).mono ?_
      rintro ex w' ⟨rfl, hb⟩
      obtain ⟨q1, q2⟩ := keep_of_below hr hb
      refine ⟨_, ι, rfl, ?_, q1, q2⟩
      simp only [VR]
      refine ⟨_, rfl, VRs.cons n2 (VRs.cons (by simp only [VR]; rw [n3]) VRs.nil), fun y hy => ?_⟩
      simp at hy
      rcases hy with rfl | rfl <;> rfl
  · exact hF S hS _ h v h' hh
end Go.Proofs.YtllikcpbfbnmoaaGreatDoor.Ev
