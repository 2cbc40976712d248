/- The law on the abstract machine: the whole. -/
import Derived.Test.YtdgaheekfeomoaaGreatDoorMb
set_option linter.unusedVariables false
set_option linter.unusedSimpArgs false
set_option maxRecDepth 10000
namespace GoEv
open Go (IntKind Value)
theorem nth_z (a : V) (l : List V) (K : V → A) : nth (a :: l) 0 K = K a := rfl
theorem nth_s (a b : V) (l : List V) (K : V → A) : nth (a :: b :: l) 1 K = K b := rfl
theorem two_cells {cs : List V} {j : Nat} {a b : V} (h1 : cs[j]? = some a) (h2 : cs[j + 1]? = some b) : (cs.drop j).take 2 = [a, b] := by
  have l2 := (List.getElem?_eq_some_iff.1 h2).1
  apply List.ext_getElem?
  intro i
  match i with
  | 0 => simp [h1]
  | 1 => simp [h2]
  | i + 2 => simp; omega
def SameOK (n d : Nat) : Prop := ∀ (h : H) (G1 G2 : Nat → Prop) (l1 l2 : List V) (p : PTree), PT d G1 h l1 p → PT d G2 h l2 p → ∃ h', GoEv.Sem tbl n 5 [.agg l1, .agg l2] h = some (.bool true, h') ∧ Ks h h'
theorem KR.ln {d : Nat} {G : Nat → Prop} {h : H} {kids : V} {ps : List PTree} (hk : KR d G h kids ps) (K : Int → A) : GoEv.ln kids K = K (ps.length : Int) := by
  rcases hk with ⟨rfl, rfl⟩ | ⟨b, o, cap, ck, ro, cs, rfl, _⟩
  · exact ln_nils K
  · exact ln_sl _ _ _ _ _ _ K
theorem QR.ln {G : Nat → Prop} {h : H} {keys : V} {qs : List (Int × Nat × Nat)} (hk : QR G h keys qs) (K : Int → A) : GoEv.ln keys K = K (qs.length : Int) := by
  rcases hk with ⟨rfl, rfl⟩ | ⟨b, o, cap, ck, ro, cs, rfl, _⟩
  · exact ln_nils K
  · exact ln_sl _ _ _ _ _ _ K
theorem KR.at {d : Nat} {G : Nat → Prop} {h : H} {kids : V} {ps : List PTree} (hk : KR d G h kids ps) {i : Nat} {p : PTree} (hi : ps[i]? = some p) : ∃ l, PT d G h l p ∧ ∀ (hX : H), Ks h hX → ∀ K : List V → A, (ix kids 5 (i : Int) fun b o => ldN hX b o 5 K) = K l := by
  rcases hk with ⟨_, rfl⟩ | ⟨b, o, cap, ck, ro, cs, rfl, g1, g2, g3, g4, g5⟩
  · simp at hi
  · have hip := (List.getElem?_eq_some_iff.1 hi).1
    refine ⟨_, g5 i p hi, fun hX hk K => ?_⟩
    rw [ix_of hip, ldN_of ((hk.2 b g2).trans g3) (by have := hk.1; omega) (by omega)]
theorem QR.at {G : Nat → Prop} {h : H} {keys : V} {qs : List (Int × Nat × Nat)} (hk : QR G h keys qs) {i : Nat} {q : Int × Nat × Nat} (hi : qs[i]? = some q) (K : List V → A) : (ix keys 2 (i : Int) fun b o => ldN h b o 2 K) = K [.i q.1, .str q.2.1 q.2.2] := by
  rcases hk with ⟨_, rfl⟩ | ⟨b, o, cap, ck, ro, cs, rfl, g1, g2, g3, g4, g5⟩
  · simp at hi
  · have hip := (List.getElem?_eq_some_iff.1 hi).1
    obtain ⟨a1, a2⟩ := g5 i q hi
    rw [ix_of hip, ldN_of g3 g2 (by omega), two_cells a1 a2]
theorem QR.ks {G : Nat → Prop} {h h' : H} {keys : V} {qs : List (Int × Nat × Nat)} (hq : QR G h keys qs) (hk : Ks h h') : QR G h' keys qs := hq.upd (fun _ g _ => g) (fun b _ _ _ _ hb hg _ => by rw [hk.2 b hb]; exact hg) hk.1
theorem sEq_refl (a t : Nat) : sEq a t a t = true := by rw [sEq_eq]; simp
theorem eqZ_refl (z : Int) : eqZ z z = true := by rw [eqZ_eq]; simp
theorem same_spec : ∀ (d m : Nat), SameOK (m + d + 1) d
  | 0, m => fun h G1 G2 l1 l2 p hp => hp.elim
  | d + 1, m => by
    intro h G1 G2 l1 l2 p hp1 hp2
    have ih := same_spec d m
    obtain ⟨k, z, a, t, ps, qs⟩ := p
    obtain ⟨kids1, keys1, rfl, hq1, hsm, hk1⟩ := hp1
    obtain ⟨kids2, keys2, rfl, hq2, _, hk2⟩ := hp2
    have hk1 : KR d G1 h kids1 ps := hk1
    have hk2 : KR d G2 h kids2 ps := hk2
    rw [S5]
    unfold F5
    simp only [un_c, nl_n, toA_a, nB_eq]
    generalize hh1 : (h.push (.cells false 43 [.i k, .i z, .str a t, kids1, keys1])).push (.cells false 43 [.i k, .i z, .str a t, kids2, keys2]) = h1
    have n0 : (h.push (.cells false 43 [.i k, .i z, .str a t, kids1, keys1])).n = h.n + 1 := H.n_push _ _
    have n1 : h1.n = h.n + 2 := by rw [← hh1]; simp only [H.n_push]
    have k1 : Ks h h1 := by rw [← hh1]; exact (Ks.push _ _).trans (Ks.push _ _)
    have g1 : h1.get h.n = some (.cells false 43 [.i k, .i z, .str a t, kids1, keys1]) := by rw [← hh1, H.get_push_lt _ _ (by omega)]; exact H.get_push_self _ _
    have g2 : h1.get (h.n + 1) = some (.cells false 43 [.i k, .i z, .str a t, kids2, keys2]) := by rw [← hh1, ← n0]; exact H.get_push_self _ _
    have eZ : ∀ z : Int, notB (eqZ z z) = false := fun z => by rw [eqZ_refl]; rfl
    have eS : notB (sEq a t a t) = false := by rw [sEq_refl]; rfl
    have w1 : h.n < h1.n := by omega
    have w2 : h.n + 1 < h1.n := by omega
    rw [n0, ld_of g1 w1 (v := .i k) rfl]
    simp only [toI_i]
    rw [ld_of g2 w2 (v := .i k) rfl]
    simp only [toI_i, eZ, grd_ff, toP_p]
    rw [ld_of g1 w1 (v := .i z) rfl]
    simp only [toI_i]
    rw [ld_of g2 w2 (v := .i z) rfl]
    simp only [toI_i, eZ, pkV_f, toB_b, grd_ff, toP_p]
    rw [ld_of g1 w1 (v := .str a t) rfl]
    simp only [toS_s]
    rw [ld_of g2 w2 (v := .str a t) rfl]
    simp only [toS_s, eS, pkV_f, toB_b, grd_ff, toP_p]
    rw [ld_of g1 w1 (v := kids1) rfl, hk1.ln]
    rw [ld_of g2 w2 (v := kids2) rfl, hk2.ln]
    simp only [toI_i, eZ, pkV_f, toB_b, grd_ff, toP_p]
    rw [ld_of g1 w1 (v := keys1) rfl, hq1.ln]
    rw [ld_of g2 w2 (v := keys2) rfl, hq2.ln]
    simp only [toI_i, eZ, pkV_f, toB_b, cnd_f]
    rw [ld_of g1 w1 (v := keys1) rfl, hq1.ln]
    refine jn_abs (Q := fun z => ∃ h', z = some (.bool true, h') ∧ Ks h h') fun k184 hk184 => ?_
    refine lp_abs (Q := fun z => ∃ h', z = some (.bool true, h') ∧ Ks h h') fun ST hST => ?_
    -- the kids
    have kids : ∃ h', k184 [.ptr h.n 0, .ptr (h.n + 1) 0] h1 = some (.bool true, h') ∧ Ks h h' := by
      rw [hk184]
      simp only [un_c, toP_p]
      rw [ld_of g1 w1 (o := Nat.add 0 3) (v := kids1) rfl, hk1.ln]
      refine jn_abs (Q := fun z => ∃ h', z = some (.bool true, h') ∧ Ks h h') fun k151 hk151 => ?_
      refine lp_abs (Q := fun z => ∃ h', z = some (.bool true, h') ∧ Ks h h') fun SU hSU => ?_
      have loop : ∀ (c i fuel : Nat) (hX : H), c < fuel → i + c = ps.length → Ks h1 hX → ∃ h', lp fuel SU [.ptr h.n 0, .ptr (h.n + 1) 0, .i (ps.length : Int), .i (i : Int)] hX = some (.bool true, h') ∧ Ks h h' := by
        intro c
        induction c with
        | zero =>
          intro i fuel hX hf hic hkX
          obtain ⟨f, rfl⟩ : ∃ f, fuel = f + 1 := ⟨fuel - 1, by omega⟩
          rw [lp_succ, congrFun hSU]
          simp only [un_c, toI_i]
          have : ltZ (i : Int) (ps.length : Int) = false := by rw [ltZ_eq]; exact decide_eq_false (by omega)
          rw [this, hk151]
          exact ⟨hX, rfl, k1.trans hkX⟩
        | succ c ihc =>
          intro i fuel hX hf hic hkX
          obtain ⟨f, rfl⟩ : ∃ f, fuel = f + 1 := ⟨fuel - 1, by omega⟩
          rw [lp_succ, congrFun hSU]
          simp only [un_c, toI_i]
          have : ltZ (i : Int) (ps.length : Int) = true := by rw [ltZ_eq]; exact decide_eq_true (by omega)
          rw [this]
          simp only [cnd_t, toP_p, toZ_i]
          have hip : i < ps.length := by omega
          obtain ⟨p, hp⟩ : ∃ p, ps[i]? = some p := ⟨ps[i], List.getElem?_eq_getElem hip⟩
          have hnX := hkX.1
          have gX1 := (hkX.2 h.n w1).trans g1
          have gX2 := (hkX.2 (h.n + 1) w2).trans g2
          obtain ⟨x1, px1, ex1⟩ := hk1.at hp
          obtain ⟨x2, px2, ex2⟩ := hk2.at hp
          rw [ld_of gX1 (by omega) (o := Nat.add 0 3) (v := kids1) rfl, ex1 hX (k1.trans hkX)]
          rw [ld_of gX2 (by omega) (o := Nat.add 0 3) (v := kids2) rfl, ex2 hX (k1.trans hkX)]
          obtain ⟨h2, e2, q2⟩ := ih hX G1 G2 x1 x2 p (px1.ks (k1.trans hkX)) (px2.ks (k1.trans hkX))
          have e2' : GoEv.Sem tbl (m + (d + 1)) 5 [.agg x1, .agg x2] hX = some (.bool true, h2) := e2
          rw [e2']
          simp only [cl_s, toB_b]
          have hnb : notB true = false := rfl
          rw [hnb]
          simp only [cnd_f]
          have hsc : addZ (i : Int) (Int.ofNat 1) = ((i + 1 : Nat) : Int) := by rw [addZ_eq, ofN]; omega
          have hb := hsm.1
          rw [bW64_of (by rw [hsc]; omega) (by rw [hsc]; omega), hsc]
          exact ihc (i + 1) f h2 (by omega) (by omega) (hkX.trans q2)
      exact loop ps.length 0 _ h1 (by have := hsm.1; omega) (by omega) (Ks.refl _)
    have loop : ∀ (c i fuel : Nat), c < fuel → i + c = qs.length → ∃ h', lp fuel ST [.ptr h.n 0, .ptr (h.n + 1) 0, .i (qs.length : Int), .i (i : Int)] h1 = some (.bool true, h') ∧ Ks h h' := by
      intro c
      induction c with
      | zero =>
        intro i fuel hf hic
        obtain ⟨f, rfl⟩ : ∃ f, fuel = f + 1 := ⟨fuel - 1, by omega⟩
        rw [lp_succ, congrFun hST]
        simp only [un_c, toI_i]
        have : ltZ (i : Int) (qs.length : Int) = false := by rw [ltZ_eq]; exact decide_eq_false (by omega)
        rw [this]
        simp only [cnd_f]
        exact kids
      | succ c ihc =>
        intro i fuel hf hic
        obtain ⟨f, rfl⟩ : ∃ f, fuel = f + 1 := ⟨fuel - 1, by omega⟩
        rw [lp_succ, congrFun hST]
        simp only [un_c, toI_i]
        have : ltZ (i : Int) (qs.length : Int) = true := by rw [ltZ_eq]; exact decide_eq_true (by omega)
        rw [this]
        simp only [cnd_t, toP_p, toZ_i]
        have hip : i < qs.length := by omega
        obtain ⟨q, hq⟩ : ∃ q, qs[i]? = some q := ⟨qs[i], List.getElem?_eq_getElem hip⟩
        rw [ld_of g1 w1 (o := Nat.add 0 4) (v := keys1) rfl, (hq1.ks k1).at hq]
        rw [ld_of g2 w2 (o := Nat.add 0 4) (v := keys2) rfl, (hq2.ks k1).at hq]
        rw [lnc_of (n := 2) rfl, lnc_of (n := 2) rfl]
        simp only [nth_z, nth_s, toI_i, toS_s]
        have hnb : notB (andB (andB true (eqZ q.1 q.1)) (sEq q.2.1 q.2.2 q.2.1 q.2.2)) = false := by rw [eqZ_refl, sEq_refl]; rfl
        rw [hnb]
        simp only [cnd_f]
        have hsc : addZ (i : Int) (Int.ofNat 1) = ((i + 1 : Nat) : Int) := by rw [addZ_eq, ofN]; omega
        have hb := hsm.2
        rw [bW64_of (by rw [hsc]; omega) (by rw [hsc]; omega), hsc]
        exact ihc (i + 1) f (by omega) (by omega)
    exact loop qs.length 0 _ (by have := hsm.2; omega) (by omega)
end GoEv
namespace GoEv
open Go (IntKind Value)
theorem slc_nils0 {K : V → A} : slc .nils 1 none (some (0 : Int)) none K = K .nils := rfl
theorem slc_hi {b o l c sz e : Nat} {k : Bool} {K : V → A} (he : e ≤ c) : slc (.sl b o l c sz k) sz none (some (e : Int)) none K = K (.sl b o e c sz k) := by
  show (Bool.casesOn (Nat.beq sz sz) none (bnd l c none (some (Int.ofNat e)) none fun a e m => fN (Nat.add o (Nat.mul a sz)) fun o' => fN (Nat.sub e a) fun l' => fN (Nat.sub m a) fun c' => K (.sl b o' l' c' sz (ok3 (none : Option Int) k))) : A) = _
  rw [nbeq]
  show (Bool.casesOn (Nat.ble e c) none _ : A) = _
  rw [Nat.ble_eq_true_of_le he]
  show (fN (Nat.add o (Nat.mul 0 sz)) fun o' => fN (Nat.sub e 0) fun l' => fN (Nat.sub c 0) fun c' => K (.sl b o' l' c' sz k)) = _
  rw [fN_eq, fN_eq, fN_eq]
  have e1 : Nat.add o (Nat.mul 0 sz) = o := by show o + 0 * sz = o; omega
  rw [e1]; rfl
/-- the cells of a clause -/
def CR (h : H) (cells : List V) : Prop := cells.length = 19 ∧ (∀ v ∈ cells, flat v = true) ∧ ∃ kids ps, cells[0]? = some kids ∧ KR 3 (fun _ => True) h kids ps ∧ ps.length ≤ 100
def OL (h : H) (out : V) (n : Nat) : Prop := out = .nils ∧ n = 0 ∨ ∃ b cs, out = .sl b 0 n n 19 false ∧ b < h.n ∧ h.get b = some (.cells false 40 cs) ∧ cs.length = n * 19 ∧ ∀ i, i < n → CR h ((cs.drop (i * 19)).take 19)
theorem CR.upd {h h' : H} {cells : List V} (hc : CR h cells) (hget : ∀ b ro fz cs, b < h.n → h.get b = some (.cells ro fz cs) → fz = 43 ∨ fz = 28 → h'.get b = some (.cells ro fz cs)) (hn : h.n ≤ h'.n) : CR h' cells := by
  obtain ⟨h1, h2, kids, ps, h3, h4, h5⟩ := hc
  refine ⟨h1, h2, kids, ps, h3, h4.imp id ?_, h5⟩
  rintro ⟨b, o, cap, ck, ro, cs, e, g1, g2, g3, g4, g5⟩
  exact ⟨b, o, cap, ck, ro, cs, e, trivial, Nat.lt_of_lt_of_le g2 hn, hget _ _ _ _ g2 g3 (.inl rfl), g4, fun i p hi => PT.upd (fun _ _ _ => trivial) (fun b ro fz cs _ hb hg hf => hget b ro fz cs hb hg hf) hn _ _ _ (g5 i p hi)⟩
theorem CR.kp {h h' : H} {cells : List V} (hc : CR h cells) (hk : Kp h h') : CR h' cells := hc.upd (fun b ro fz cs hb hg hf => hk.2 b ro fz cs hb hg (by omega) (by omega) (by omega)) hk.1
theorem OL.kp {h h' : H} {out : V} {n : Nat} (ho : OL h out n) (hk : Kp h h') : OL h' out n := by
  refine ho.imp id ?_
  rintro ⟨b, cs, e, g1, g2, g3, g4⟩
  exact ⟨b, cs, e, Nat.lt_of_lt_of_le g1 hk.1, hk.2 _ _ _ _ g1 g2 (by omega) (by omega) (by omega), g3, fun i hi => (g4 i hi).kp hk⟩
theorem take19 {l : List V} (h : l.length = 19) : List.take 19 (List.take (1 * 19) (List.drop 0 l)) = l := by
  rw [List.drop_zero, List.take_of_length_le (by simp; omega), List.take_of_length_le (by omega)]
/-- one more clause -/
theorem OL.snoc {h : H} {out : V} {n : Nat} {l : List V} (ho : OL h out n) (hl : CR h l) (hlen : n ≤ 1000) (K : V → H → A) :
    ∃ out' h2, apd (h.push (.cells false 40 l)) out (.sl h.n 0 1 1 19 true) 19 40 K = K out' h2 ∧ OL h2 out' (n + 1) ∧ (∀ bs, Src h bs → Src h2 bs) ∧ h.n ≤ h2.n := by
  have hl19 := hl.1
  rcases ho with ⟨rfl, rfl⟩ | ⟨b, cs, rfl, g1, g2, g3, g4⟩
  · refine ⟨_, _, apd_nils (H.get_push_self _ _) (by simp only [H.n_push]; omega) (by omega) (by omega) (by omega), ?_, ?_, ?_⟩
    · refine .inr ⟨_, _, rfl, by simp only [H.n_push]; omega, H.get_push_self _ _, by simp; omega, fun i hi => ?_⟩
      obtain rfl : i = 0 := by omega
      have e : List.take 19 (List.drop (0 * 19) (List.take (1 * 19) (List.drop 0 l))) = l := take19 hl19
      rw [e]
      exact (hl.kp (Kp.push _ _)).kp (Kp.push _ _)
    · intro bs hs; exact (hs.push _).push _
    · simp only [H.n_push]; omega
  · have gb1 : (h.push (.cells false 40 l)).get b = some (.cells false 40 cs) := (H.get_push_lt _ _ g1).trans g2
    refine ⟨_, _, apd_sl (H.get_push_self _ _) (by simp only [H.n_push]; omega) (by omega) (by omega) gb1 (by simp only [H.n_push]; omega) (by omega) (by omega), ?_, ?_, ?_⟩
    · have hup : ∀ {cells : List V}, CR h cells → CR (((h.push (.cells false 40 l)).put b .dead).push (.cells false 40 (cs.take (n * 19) ++ (l.drop 0).take (1 * 19)))) cells := by
        intro cells hc
        refine hc.upd (fun c ro fz cs' hc hg hf => ?_) (by simp only [H.n_push, H.n_put]; omega)
        have hcb : c ≠ b := fun e => by subst e; rw [g2] at hg; cases hg; omega
        rw [H.get_push_lt _ _ (by simp only [H.n_push, H.n_put]; omega), H.get_put_ne _ _ hcb, H.get_push_lt _ _ hc]; exact hg
      refine .inr ⟨_, _, rfl, by simp only [H.n_push, H.n_put]; omega, by
        have := H.get_push_self ((h.push (.cells false 40 l)).put b .dead) (.cells false 40 (cs.take (n * 19) ++ (l.drop 0).take (1 * 19)))
        rw [H.n_put] at this; exact this, by simp; omega, fun i hi => ?_⟩
      have e1 : cs.take (n * 19) = cs := List.take_of_length_le (by omega)
      by_cases hip : i < n
      · have e : ((cs.take (n * 19) ++ (l.drop 0).take (1 * 19)).drop (i * 19)).take 19 = (cs.drop (i * 19)).take 19 := by
          rw [e1, List.drop_append_of_le_length (by omega), List.take_append_of_le_length (by simp; omega)]
        rw [e]
        exact hup (g4 i hip)
      · obtain rfl : i = n := by omega
        have e : ((cs.take (i * 19) ++ (l.drop 0).take (1 * 19)).drop (i * 19)).take 19 = l := by
          rw [e1, ← g3, List.drop_left]
          exact take19 hl19
        rw [e]
        exact hup hl
    · intro bs hs
      have hne : b ≠ bs := fun e => by obtain ⟨q, hq⟩ := hs.get; subst e; rw [g2] at hq; cases hq
      exact ((hs.push _).put hne gb1 _).push _
    · simp only [H.n_push, H.n_put]; omega
theorem KL.put {d base : Nat} {h : H} {kids : V} {ps : List PTree} (hk : KL d base h kids ps) {c : Nat} (hc : c < base) (x : Blk) : KL d base (h.put c x) kids ps := by
  refine hk.imp id ?_
  rintro ⟨b, cs, e, g1, g2, g3, g4, g5⟩
  refine ⟨b, cs, e, g1, by rw [H.n_put]; exact g2, by rw [H.get_put_ne _ _ (by omega)]; exact g3, g4, fun i p hi => ?_⟩
  exact PT.upd (fun _ g _ => g) (fun c' ro fz cs' (g : base ≤ c' ∧ c' ≠ b) _ hg _ => by rw [H.get_put_ne _ _ (by omega)]; exact hg) (by rw [H.n_put]; exact Nat.le_refl _) _ _ _ (g5 i p hi)
theorem KR.top {d : Nat} {G : Nat → Prop} {h : H} {kids : V} {ps : List PTree} (hk : KR d G h kids ps) : KR d (fun _ => True) h kids ps := by
  refine hk.imp id ?_
  rintro ⟨b, o, cap, ck, ro, cs, e, g1, g2, g3, g4, g5⟩
  exact ⟨b, o, cap, ck, ro, cs, e, trivial, g2, g3, g4, fun i p hi => PT.upd (fun _ _ _ => trivial) (fun _ _ _ _ _ _ hg _ => hg) (Nat.le_refl _) _ _ _ (g5 i p hi)⟩
/-- cells are written into a row, not at its front -/
theorem mid_facts {l vs : List V} {o n N : Nat} (hl : l.length = N) (hv : vs.length = n) (ho : 1 ≤ o) (hon : o + n ≤ N) (hf : ∀ v ∈ l, flat v = true) (hvf : ∀ v ∈ vs, flat v = true) :
    (l.take o ++ (vs ++ l.drop (o + n))).length = N ∧ (l.take o ++ (vs ++ l.drop (o + n)))[0]? = l[0]? ∧ ∀ v ∈ l.take o ++ (vs ++ l.drop (o + n)), flat v = true := by
  refine ⟨by simp; omega, ?_, fun v hm => ?_⟩
  · rw [List.getElem?_append_left (by simp; omega), List.getElem?_take_of_lt (by omega)]
  · rcases List.mem_append.1 hm with h | h
    · exact hf v (List.mem_of_mem_take h)
    · rcases List.mem_append.1 h with h | h
      · exact hvf v h
      · exact hf v (List.mem_of_mem_drop h)
end GoEv
namespace GoEv
open Go (IntKind Value)
/-- the numbers that are given -/
def InS (h : H) (sl : V) : Prop := sl = .nils ∨ ∃ bl o len cap k cs, sl = .sl bl o len cap 1 k ∧ h.get bl = some (.cells true 0 cs) ∧ bl < h.n ∧ o + len ≤ cs.length ∧ len ≤ cap ∧ ∀ v ∈ cs, ∃ z, v = V.i z
def MadeQ (h : H) (z : A) : Prop := ∃ out n h', z = some (out, h') ∧ OL h' out n ∧ n ≤ 10
theorem made_spec {m n : Nat} (hn : n ≤ 3) {h : H} {sl : V} (hin : InS h sl) : MadeQ h (GoEv.Sem tbl (m + 8) 4 [sl, .i (n : Int)] h) := by
  rw [S4]
  unfold F4
  simp only [un_c, nl_n]
  have patOK : PatOK (m + 7) 2 := by have := pat_spec 2 m (by omega); exact this
  have testOK : TestOK (m + 7) 2 := by have := test_spec 2 m (by omega); exact this
  -- the front of the numbers
  obtain ⟨sl', hfront, hsrc⟩ : ∃ sl', (∀ K : V → A, (ln sl fun z7 => bZ (minZ z7 (Int.ofNat 60)) fun z8 => slc sl 1 none (some z8) none fun v9 => one v9 (K v9)) = K sl') ∧ Src (h.push (.cells false 49 [sl', .i (Int.ofNat 0)])) h.n := by
    rcases hin with rfl | ⟨bl, o, len, cap, k, cs, rfl, g1, g2, g3, g4, g5⟩
    · refine ⟨.nils, fun K => rfl, .nils, 0, H.get_push_self _ _, by simp only [H.n_push]; omega, by omega, by omega, .inl rfl⟩
    · have hmin : minZ (len : Int) (Int.ofNat 60) = ((min len 60 : Nat) : Int) := by rw [minZ_eq, ofN]; split <;> omega
      refine ⟨.sl bl o (min len 60) cap 1 k, fun K => ?_, .sl bl o (min len 60) cap 1 k, 0, H.get_push_self _ _, by simp only [H.n_push]; omega, by omega, by omega, .inr ⟨bl, o, min len 60, cap, k, cs, rfl, (H.get_push_lt _ _ g2).trans g1, by simp only [H.n_push]; omega, by omega, by omega, g5⟩⟩
      rw [ln_sl, hmin, bZ_eq, slc_hi (by omega)]; rfl
  rw [hfront]
  simp only [setO_z, setO_s, nB_eq]
  obtain ⟨r, h1, e1, r0, r1, ho1, hs1⟩ := next_at (m := m + 6) hsrc (n := 3) (by omega) (by omega)
  have e1' : GoEv.Sem tbl (m + 7) 9 [.ptr h.n 0, .i (Int.ofNat 3)] (h.push (.cells false 49 [sl', .i (Int.ofNat 0)])) = some (.i r, h1) := e1
  rw [e1']
  simp only [cl_s, toI_i]
  rw [bW64_of (by rw [addZ_eq, ofN]; omega) (by rw [addZ_eq, ofN]; omega)]
  refine jn_abs (Q := MadeQ h) fun k21 hk21 => ?_
  refine lp_abs (Q := MadeQ h) fun ST hST => ?_
  generalize hbs : h.n = bs at *
  have loop : ∀ (c fuel nc : Nat) (hX : H) (out : V), c < fuel → nc + c ≤ 3 → Src hX bs → OL hX out nc → MadeQ h (lp fuel ST [.i (n : Int), .ptr bs 0, out, .i (c : Int)] hX) := by
    intro c
    induction c with
    | zero =>
      intro fuel nc hX out hf hnc hsX hol
      obtain ⟨f, rfl⟩ : ∃ f, fuel = f + 1 := ⟨fuel - 1, by omega⟩
      rw [lp_succ, congrFun hST]
      simp only [un_c, toI_i]
      have : ltZ (Int.ofNat 0) ((0 : Nat) : Int) = false := by rw [ltZ_eq]; rfl
      rw [this, hk21]
      exact ⟨out, nc, hX, rfl, hol, by omega⟩
    | succ c ih =>
      intro fuel nc hX out hf hnc hsX hol
      obtain ⟨f, rfl⟩ : ∃ f, fuel = f + 1 := ⟨fuel - 1, by omega⟩
      rw [lp_succ, congrFun hST]
      simp only [un_c, toI_i]
      have : ltZ (Int.ofNat 0) ((c + 1 : Nat) : Int) = true := by rw [ltZ_eq]; exact decide_eq_true (by rw [ofN]; omega)
      rw [this]
      simp only [cnd_t]
      generalize hl0 : ([.nils, .i (Int.ofNat 0), .str 0 0, .i (Int.ofNat 0), .str 0 0, .i (Int.ofNat 0), .str 0 0, .nils, .i (Int.ofNat 0), .i (Int.ofNat 0), .str 0 0, .str 0 0, .nils, .nils, .nils, .nils, .i (Int.ofNat 0), .i (Int.ofNat 0), .i (Int.ofNat 0)] : List V) = l0
      have len0 : l0.length = 19 := by rw [← hl0]; rfl
      have flat0 : ∀ v ∈ l0, flat v = true := by rw [← hl0]; simp [flat]
      have head0 : l0[0]? = some .nils := by rw [← hl0]; rfl
      rw [one_ptr]
      generalize hh1 : (hX.push (.cells false 40 l0)).push (.cells false 54 [.ptr bs 0, .nils]) = h2
      have nP : (hX.push (.cells false 40 l0)).n = hX.n + 1 := H.n_push _ _
      have n2 : h2.n = hX.n + 2 := by rw [← hh1]; simp only [H.n_push]
      have k2 : Kp hX h2 := by rw [← hh1]; exact (Kp.push _ _).trans (Kp.push _ _)
      have g40 : h2.get hX.n = some (.cells false 40 l0) := by rw [← hh1, H.get_push_lt _ _ (by omega)]; exact H.get_push_self _ _
      have g54 : h2.get (hX.n + 1) = some (.cells false 54 [.ptr bs 0, .nils]) := by rw [← hh1, ← nP]; exact H.get_push_self _ _
      have s2 : Src h2 bs := by rw [← hh1]; exact (hsX.push _).push _
      have m2 : Mk h2 (hX.n + 1) bs 0 := ⟨.nils, g54, by omega, .inl rfl⟩
      have o2 : OL h2 out nc := hol.kp k2
      rw [nP]
      refine jn_abs (Q := MadeQ h) fun k76 hk76 => ?_
      refine lp_abs (Q := MadeQ h) fun SU hSU => ?_
      have inner : ∀ (c2 i fuel2 L : Nat) (hY : H) (kids : V) (ps : List PTree) (cells : List V), c2 < fuel2 → i + c2 = n → ps.length = i → L ≤ i * 13 → hX.n + 2 ≤ hY.n → Src hY bs → Mk hY (hX.n + 1) bs L → Kp hX hY → hY.get hX.n = some (.cells false 40 cells) → cells.length = 19 → (∀ v ∈ cells, flat v = true) → cells[0]? = some kids → KL 3 (hX.n + 2) hY kids ps →
          MadeQ h (lp fuel2 SU [.i (n : Int), .ptr bs 0, out, .i ((c + 1 : Nat) : Int), .ptr hX.n 0, .ptr (hX.n + 1) 0, .i (i : Int)] hY) := by
        intro c2
        induction c2 with
        | zero =>
          intro i fuel2 L hY kids ps cells hf2 hic hpl hL hnY hsY hmY hkY hcY hlen hflat hhead hkl
          obtain ⟨f2, rfl⟩ : ∃ f2, fuel2 = f2 + 1 := ⟨fuel2 - 1, by omega⟩
          rw [lp_succ, congrFun hSU]
          simp only [un_c, toI_i]
          have : ltZ (i : Int) (n : Int) = false := by rw [ltZ_eq]; exact decide_eq_false (by omega)
          rw [this, hk76]
          simp only [cnd_f, un_c, toP_p]
          have hoY : OL hY out nc := hol.kp hkY
          have hmk := hmY
          obtain ⟨nm, q1, q2, q3⟩ := hmY
          rw [ld_of q1 q2 (o := Nat.add 0 1) (v := nm) rfl]
          have hnm : Nm hY nm := by
            refine q3.imp id ?_
            rintro ⟨bn, len, cs, e, p1, p2, p3, p4, p5⟩
            exact ⟨bn, len, len, false, cs, e, ⟨9, p1, by omega, by omega⟩, p2, by omega, by omega, p5⟩
          obtain ⟨l58, h3, e3, t1, t2, t3, t4⟩ := testOK hY bs nm hsY hnm
          have e3' : GoEv.Sem tbl (m + 7) 11 [.ptr bs 0, nm, .i (Int.ofNat 2)] hY = some (.agg l58, h3) := e3
          rw [e3']
          simp only [cl_s, toA_a]
          have kY3 : Kp hY h3 := by obtain ⟨q, hq⟩ := hsY.get; exact t3.fr hq
          have n3 := kY3.1
          have c3 : h3.get hX.n = some (.cells false 40 cells) := kY3.2 _ _ _ _ (by omega) hcY (by omega) (by omega) (by omega)
          rw [stN_at (n := 7) (o := Nat.add 0 1) c3 (by omega) (by show 1 + 7 ≤ _; omega) t1]
          obtain ⟨f1, f2', f3⟩ := mid_facts (o := Nat.add 0 1) (n := 7) (N := 19) hlen t1 (by show 1 ≤ 1; omega) (by show 1 + 7 ≤ 19; omega) hflat t2
          generalize hcl2 : cells.take (Nat.add 0 1) ++ (l58 ++ cells.drop (Nat.add 0 1 + 7)) = cells2 at f1 f2' f3
          have hneB : hX.n ≠ bs := fun e => by obtain ⟨q, hq⟩ := t4.get; rw [e] at c3; rw [c3] at hq; cases hq
          have s4 : Src (h3.put hX.n (.cells false 40 cells2)) bs := t4.put hneB c3 _
          have kl4 : KL 3 (hX.n + 2) (h3.put hX.n (.cells false 40 cells2)) kids ps := (hkl.kp kY3).put (by omega) _
          have o3 : OL h3 out nc := hoY.kp kY3
          have olput : ∀ (hZ : H) (x : Blk) (cz : List V), OL hZ out nc → hZ.get hX.n = some (.cells false 40 cz) → (∀ (b : Nat) (cs : List V), out = .sl b 0 nc nc 19 false → b ≠ hX.n) → OL (hZ.put hX.n x) out nc := by
            intro hZ x cz hoZ hcz hne
            refine hoZ.imp id ?_
            rintro ⟨b, cs, e, p1, p2, p3, p4⟩
            have hb := hne b cs e
            refine ⟨b, cs, e, by rw [H.n_put]; exact p1, by rw [H.get_put_ne _ _ hb]; exact p2, p3, fun i hi => (p4 i hi).upd (fun b' ro fz cs' hb' hg hf => ?_) (by rw [H.n_put]; exact Nat.le_refl _)⟩
            have : b' ≠ hX.n := fun e => by subst e; rw [hcz] at hg; cases hg; omega
            rw [H.get_put_ne _ _ this]; exact hg
          have hne : ∀ (b : Nat) (cs : List V), out = .sl b 0 nc nc 19 false → b ≠ hX.n := by
            intro b cs e
            rcases hol with ⟨e', _⟩ | ⟨b', cs', e', p1, _⟩
            · rw [e] at e'; cases e'
            · rw [e] at e'; cases e'; omega
          have o4 := olput h3 (.cells false 40 cells2) cells o3 c3 hne
          have c4 := H.get_put_self h3 hX.n (.cells false 40 cells2)
          have n4 : (h3.put hX.n (.cells false 40 cells2)).n = h3.n := H.n_put _ _ _
          generalize h3.put hX.n (.cells false 40 cells2) = h4 at *
          rw [stN_at (n := 10) (o := Nat.add 0 8) c4 (by omega) (by show 8 + 10 ≤ _; omega) rfl]
          obtain ⟨f4, f5, f6⟩ := mid_facts (l := cells2) (vs := [.i (Int.ofNat 4), .i (Int.ofNat 0), .str 0 0, .str 0 0, .nils, .nils, .nils, .nils, .i (Int.ofNat 0), .i (Int.ofNat 0)]) (o := Nat.add 0 8) (n := 10) (N := 19) f1 rfl (by show 1 ≤ 8; omega) (by show 8 + 10 ≤ 19; omega) f3 (by simp [flat])
          generalize hcl3 : cells2.take (Nat.add 0 8) ++ ([.i (Int.ofNat 4), .i (Int.ofNat 0), .str 0 0, .str 0 0, .nils, .nils, .nils, .nils, .i (Int.ofNat 0), .i (Int.ofNat 0)] ++ cells2.drop (Nat.add 0 8 + 10)) = cells3 at f4 f5 f6 ⊢
          have s5 : Src (h4.put hX.n (.cells false 40 cells3)) bs := s4.put hneB c4 _
          have kl5 : KL 3 (hX.n + 2) (h4.put hX.n (.cells false 40 cells3)) kids ps := kl4.put (by omega) _
          have o5 := olput h4 (.cells false 40 cells3) cells2 o4 c4 hne
          have c5 := H.get_put_self h4 hX.n (.cells false 40 cells3)
          have n5 : (h4.put hX.n (.cells false 40 cells3)).n = h4.n := H.n_put _ _ _
          generalize h4.put hX.n (.cells false 40 cells3) = h5 at *
          rw [ldN_all c5 (by omega) f4, lnc_of f4, smc_all (by rw [f4, len0])]
          have hcr : CR h5 cells3 := ⟨f4, f6, kids, ps, by rw [f5, f2']; exact hhead, kl5.kr.top, by omega⟩
          try simp only [toI_i, toP_p]
          obtain ⟨out', h6, u1, u2, u3, u4⟩ := o5.snoc hcr (by omega) (fun v72 h73 => bW64 (subZ ((c + 1 : Nat) : Int) (Int.ofNat 1)) fun z75 => lp f ST [.i (n : Int), .ptr bs 0, v72, .i z75] h73)
          rw [u1]
          have hsc : subZ ((c + 1 : Nat) : Int) (Int.ofNat 1) = (c : Int) := by rw [subZ_eq, ofN]; omega
          rw [bW64_of (by rw [hsc]; omega) (by rw [hsc]; omega), hsc]
          exact ih f (nc + 1) h6 out' (by omega) (by omega) (u3 _ s5) u2
        | succ c2 ih2 =>
          intro i fuel2 L hY kids ps cells hf2 hic hpl hL hnY hsY hmY hkY hcY hlen hflat hhead hkl
          obtain ⟨f2, rfl⟩ : ∃ f2, fuel2 = f2 + 1 := ⟨fuel2 - 1, by omega⟩
          rw [lp_succ, congrFun hSU]
          simp only [un_c, toI_i]
          have : ltZ (i : Int) (n : Int) = true := by rw [ltZ_eq]; exact decide_eq_true (by omega)
          rw [this]
          simp only [cnd_t, toP_p]
          rw [ld_of hcY (by omega) (o := Nat.add 0 0) (v := kids) hhead]
          have hN2 : N 2 = 13 := rfl
          obtain ⟨l2, h3, p2, e3, q1, q2, q3, q4⟩ := patOK hY (hX.n + 1) bs L hmY hsY (by omega)
          have e3' : GoEv.Sem tbl (m + 7) 10 [.ptr (hX.n + 1) 0, .i (Int.ofNat 2)] hY = some (.agg l2, h3) := e3
          rw [e3']
          simp only [cl_s, toA_a]
          have n3 := q2.1
          have c3 : h3.get hX.n = some (.cells false 40 cells) := q2.2 _ _ _ _ (by omega) hcY (by omega) (by omega) (by omega)
          have hkf : flat kids = true := by rcases hkl with ⟨rfl, _⟩ | ⟨_, _, rfl, _⟩ <;> rfl
          rw [ld_of c3 (by omega) (o := Nat.add 0 0) (v := kids) hhead, veq_flat hkf]
          have hl2 := q1.len
          rw [lnc_of hl2, smc_all (by rw [hl2]; rfl)]
          try simp only [toI_i, toP_p]
          obtain ⟨kids', h4, u1, u2, u3, u4, u5, u6, u7⟩ := hkl.snoc q2 q1 (by omega) (by omega) (fun v106 h107 => st h107 hX.n (Nat.add 0 0) v106 fun h110 => bW64 (addZ (i : Int) (Int.ofNat 1)) fun z112 => lp f2 SU [.i (n : Int), .ptr bs 0, out, .i ((c + 1 : Nat) : Int), .ptr hX.n 0, .ptr (hX.n + 1) 0, .i z112] h110)
          rw [u1]
          have c4 : h4.get hX.n = some (.cells false 40 cells) := (u7 _ (by omega)).trans c3
          have hkf' : flat kids' = true := by rcases u2 with ⟨rfl, _⟩ | ⟨_, _, rfl, _⟩ <;> rfl
          have hone : isOne kids' = true := by rcases u2 with ⟨rfl, _⟩ | ⟨_, _, rfl, _⟩ <;> rfl
          rw [st_of (o := Nat.add 0 0) c4 (by omega) hone (by show 0 < _; omega)]
          have hsc : addZ (i : Int) (Int.ofNat 1) = ((i + 1 : Nat) : Int) := by rw [addZ_eq, ofN]; omega
          rw [bW64_of (by rw [hsc]; omega) (by rw [hsc]; omega), hsc]
          have s4 := u5 _ q4
          have m4 := u4 _ _ _ q3
          have hneB : hX.n ≠ bs := fun e => by obtain ⟨q, hq⟩ := s4.get; rw [e] at c4; rw [c4] at hq; cases hq
          have e0 : cells.set (Nat.add 0 0) kids' = cells.set 0 kids' := rfl
          rw [e0]
          refine ih2 (i + 1) f2 (L + 13) (h4.put hX.n (.cells false 40 (cells.set 0 kids'))) kids' (ps ++ [p2]) (cells.set 0 kids') (by omega) (by omega) (by simp; omega) (by omega) (by rw [H.n_put]; omega) (s4.put hneB c4 _) (m4.put c4 (by omega) (by omega) _) ((u3 hX (by omega) (hkY.trans q2)).putN (Nat.le_refl _) _) (H.get_put_self _ _ _) (by simp; omega) (fun v hv => ?_) (by rw [List.getElem?_set_self (by omega)]) (u2.put (by omega) _)
          rcases List.mem_or_eq_of_mem_set hv with h | h
          · exact hflat v h
          · rw [h]; exact hkf'
      exact inner n 0 _ 0 h2 .nils [] l0 (by omega) (by omega) rfl (by omega) (by omega) s2 m2 k2 g40 len0 flat0 head0 (KL.nil _ _ _)
  have hz : addZ (Int.ofNat 1) r = ((1 + r.toNat : Nat) : Int) := by rw [addZ_eq, ofN]; omega
  rw [hz]
  refine loop (1 + r.toNat) _ 0 h1 .nils (by omega) (by omega) hs1 (.inl ⟨rfl, rfl⟩)
end GoEv
namespace GoEv
open Go (IntKind Value)
theorem whole6 {m : Nat} {h : H} {G : Nat → Prop} {cells : List V} {kids : V} {ps : List PTree} (h0 : cells[0]? = some kids) (hk : KR 3 G h kids ps) (hps : ps.length ≤ 100) :
    ∃ l h', GoEv.Sem tbl (m + 9) 6 [.agg cells] h = some (.agg l, h') ∧ PT 4 (fun _ => True) h' l (.mk 7 0 0 0 ps []) ∧ Ks h h' := by
  rw [S6]
  unfold F6
  simp only [un_c, nl_n, toA_a, nB_eq]
  generalize hh1 : (h.push (.cells false 40 cells)).push (.cells false 43 [.i (Int.ofNat 0), .i (Int.ofNat 0), .str 0 0, .nils, .nils]) = h1
  have n0 : (h.push (.cells false 40 cells)).n = h.n + 1 := H.n_push _ _
  have n1 : h1.n = h.n + 2 := by rw [← hh1]; simp only [H.n_push]
  have k1 : Ks h h1 := by rw [← hh1]; exact (Ks.push _ _).trans (Ks.push _ _)
  have g1 : h1.get h.n = some (.cells false 40 cells) := by rw [← hh1, H.get_push_lt _ _ (by omega)]; exact H.get_push_self _ _
  have g2 : h1.get (h.n + 1) = some (.cells false 43 [.i (Int.ofNat 0), .i (Int.ofNat 0), .str 0 0, .nils, .nils]) := by rw [← hh1, ← n0]; exact H.get_push_self _ _
  rw [n0, ld_of g1 (by omega) h0]
  obtain ⟨kids', h2, e2, q1, q2⟩ := each_spec (m := m + 7) (by have := clone_spec 3 m; rw [show 2 * 3 + m + 1 = m + 7 by omega] at this; exact this) (hk.kp k1.kp) (by omega)
  rw [e2]
  simp only [cl_s, setO_z]
  have n2 := q2.1
  rw [q1.one]
  simp only [setO_z, setO_s]
  have g2' := (q2.2 _ (by omega)).trans g2
  rw [stN_all (n := 5) g2' (by omega) rfl rfl, ldN_all (n := 5) (H.get_put_self _ _ _) (by rw [H.n_put]; omega) rfl]
  refine ⟨_, _, rfl, ?_, (k1.trans q2).putN (by omega) _⟩
  have hpt := KR.pt (q1.put (show h.n + 1 < h1.n by omega) (.cells false 43 [.i (Int.ofNat 7), .i (Int.ofNat 0), .str 0 0, kids', .nils])).kr.top (QR.nil _ _) ⟨hps, by simp⟩ 7 0 0 0
  exact hpt
theorem whole7 {m : Nat} {h : H} {G : Nat → Prop} {cells : List V} {kids : V} {ps : List PTree} (h0 : cells[0]? = some kids) (hk : KR 3 G h kids ps) (hps : ps.length ≤ 100) :
    ∃ l h', GoEv.Sem tbl (m + 1) 7 [.agg cells] h = some (.agg l, h') ∧ PT 4 (fun _ => True) h' l (.mk 7 0 0 0 ps []) ∧ Ks h h' := by
  rw [S7]
  unfold F7
  simp only [un_c, nl_n, toA_a, nB_eq]
  generalize hh1 : (h.push (.cells false 40 cells)).push (.cells false 43 [.i (Int.ofNat 0), .i (Int.ofNat 0), .str 0 0, .nils, .nils]) = h1
  have n0 : (h.push (.cells false 40 cells)).n = h.n + 1 := H.n_push _ _
  have n1 : h1.n = h.n + 2 := by rw [← hh1]; simp only [H.n_push]
  have k1 : Ks h h1 := by rw [← hh1]; exact (Ks.push _ _).trans (Ks.push _ _)
  have g1 : h1.get h.n = some (.cells false 40 cells) := by rw [← hh1, H.get_push_lt _ _ (by omega)]; exact H.get_push_self _ _
  have g2 : h1.get (h.n + 1) = some (.cells false 43 [.i (Int.ofNat 0), .i (Int.ofNat 0), .str 0 0, .nils, .nils]) := by rw [← hh1, ← n0]; exact H.get_push_self _ _
  rw [n0, ld_of g1 (by omega) h0]
  simp only [setO_z]
  have hone : ∀ K : A, one kids K = K := by intro K; rcases hk with ⟨rfl, _⟩ | ⟨_, _, _, _, _, _, rfl, _⟩ <;> rfl
  rw [hone]
  simp only [setO_z, setO_s]
  rw [stN_all (n := 5) g2 (by omega) rfl rfl, ldN_all (n := 5) (H.get_put_self _ _ _) (by rw [H.n_put]; omega) rfl]
  have kk := k1.putN (show h.n ≤ h.n + 1 by omega) (.cells false 43 [.i (Int.ofNat 7), .i (Int.ofNat 0), .str 0 0, kids, .nils])
  refine ⟨_, _, rfl, ?_, kk⟩
  exact KR.pt (hk.kp kk.kp).top (QR.nil _ _) ⟨hps, by simp⟩ 7 0 0 0
theorem wrap_u64 (a : Int) : IntKind.u64.wrap a = a % 18446744073709551616 := by simp [IntKind.wrap, IntKind.bits, IntKind.signed]
/-- the whole statement, on the abstract machine -/
theorem law_spec {m : Nat} {h : H} {sl : V} (hin : InS h sl) (n : Int) : ∃ h', GoEv.Sem tbl (m + 10) 3 [sl, .i n] h = some (.bool true, h') := by
  rw [S3]
  unfold F3
  simp only [un_c, nl_n, toI_i]
  rw [bW_eq, nz_of (by rw [ofN]; omega), bZ_eq]
  obtain ⟨k, hk, ek⟩ : ∃ k : Nat, k ≤ 3 ∧ modZ (IntKind.u64.wrap n) (Int.ofNat 4) = (k : Int) := by
    refine ⟨((n % 18446744073709551616) % 4).toNat, by omega, ?_⟩
    rw [modZ_eq, wrap_u64, ofN, Int.tmod_eq_emod_of_nonneg (by omega)]
    omega
  rw [ek, bW64_of (by omega) (by omega)]
  obtain ⟨out, nc, h1, e1, ho, hnc⟩ := made_spec (m := m + 1) hk hin
  rw [e1]
  simp only [cl_s]
  have hln : ∀ K : Int → A, ln out K = K (nc : Int) := by
    intro K
    rcases ho with ⟨rfl, rfl⟩ | ⟨b, cs, rfl, _⟩
    · exact ln_nils K
    · exact ln_sl _ _ _ _ _ _ K
  rw [hln]
  refine jn_abs (Q := fun z => ∃ h', z = some (.bool true, h')) fun k19 hk19 => ?_
  refine lp_abs (Q := fun z => ∃ h', z = some (.bool true, h')) fun ST hST => ?_
  have loop : ∀ (c i fuel : Nat) (hX : H), c < fuel → i + c = nc → Ks h1 hX → ∃ h', lp fuel ST [out, .i (nc : Int), .i (i : Int)] hX = some (.bool true, h') := by
    intro c
    induction c with
    | zero =>
      intro i fuel hX hf hic hkX
      obtain ⟨f, rfl⟩ : ∃ f, fuel = f + 1 := ⟨fuel - 1, by omega⟩
      rw [lp_succ, congrFun hST]
      simp only [un_c, toI_i]
      have : ltZ (i : Int) (nc : Int) = false := by rw [ltZ_eq]; exact decide_eq_false (by omega)
      rw [this, hk19]
      simp only [cnd_f]
      rw [S8]
      exact ⟨hX, rfl⟩
    | succ c ih =>
      intro i fuel hX hf hic hkX
      obtain ⟨f, rfl⟩ : ∃ f, fuel = f + 1 := ⟨fuel - 1, by omega⟩
      rw [lp_succ, congrFun hST]
      simp only [un_c, toI_i]
      have : ltZ (i : Int) (nc : Int) = true := by rw [ltZ_eq]; exact decide_eq_true (by omega)
      rw [this]
      simp only [cnd_t, toZ_i]
      rcases ho with ⟨_, h0⟩ | ⟨b, cs, rfl, p1, p2, p3, p4⟩
      · omega
      · have hin' : i < nc := by omega
        have hnX := hkX.1
        rw [ix_of hin', ldN_of ((hkX.2 b p1).trans p2) (by omega) (by omega)]
        obtain ⟨c1, c2, kids, ps, c3, c4, c5⟩ := (p4 i hin').kp hkX.kp
        rw [show 0 + i * 19 = i * 19 by omega]
        generalize (cs.drop (i * 19)).take 19 = cells at c1 c2 c3 ⊢
        simp only [nB_eq]
        rw [stN_all (n := 19) (H.get_push_self _ _) (by simp only [H.n_push]; omega) rfl c1]
        generalize hh2 : (hX.push (.cells false 40 [.nils, .i (Int.ofNat 0), .str 0 0, .i (Int.ofNat 0), .str 0 0, .i (Int.ofNat 0), .str 0 0, .nils, .i (Int.ofNat 0), .i (Int.ofNat 0), .str 0 0, .str 0 0, .nils, .nils, .nils, .nils, .i (Int.ofNat 0), .i (Int.ofNat 0), .i (Int.ofNat 0)])).put hX.n (.cells false 40 cells) = h2
        have k2 : Ks hX h2 := by rw [← hh2]; exact (Ks.push _ _).putN (Nat.le_refl _) _
        have n2 : h2.n = hX.n + 1 := by rw [← hh2]; simp only [H.n_put, H.n_push]
        have g2 : h2.get hX.n = some (.cells false 40 cells) := by rw [← hh2]; exact H.get_put_self _ _ _
        rw [ldN_all g2 (by omega) c1, ldN_all g2 (by omega) c1]
        obtain ⟨l3, h3, e3, q1, q2⟩ := whole6 (m := m) c3 (c4.kp k2.kp) c5
        rw [e3]
        simp only [cl_s, toA_a]
        have n3 := q2.1
        rw [ldN_all ((q2.2 _ (by omega)).trans g2) (by omega) c1, veq_agg c2]
        obtain ⟨l4, h4, e4, r1, r2⟩ := whole7 (m := m + 8) c3 ((c4.kp k2.kp).kp q2.kp) c5
        rw [e4]
        simp only [cl_s, toA_a]
        obtain ⟨h5, e5, t2⟩ := same_spec 4 (m + 4) h4 _ _ l3 l4 _ (q1.ks r2) r1
        have e5' : GoEv.Sem tbl (m + 9) 5 [.agg l3, .agg l4] h4 = some (.bool true, h5) := e5
        rw [e5']
        simp only [cl_s, toB_b]
        have hnb : notB true = false := rfl
        rw [hnb]
        simp only [cnd_f]
        have hsc : addZ (i : Int) (Int.ofNat 1) = ((i + 1 : Nat) : Int) := by rw [addZ_eq, ofN]; omega
        rw [bW64_of (by rw [hsc]; omega) (by rw [hsc]; omega), hsc]
        exact ih (i + 1) f h5 (by omega) (by omega) (((hkX.trans k2).trans q2).trans (r2.trans t2))
  exact loop nc 0 _ h1 (by omega) (by omega) (Ks.refl _)
end GoEv
