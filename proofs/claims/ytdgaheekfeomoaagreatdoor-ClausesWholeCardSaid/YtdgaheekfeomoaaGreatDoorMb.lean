/- The law on the abstract machine: clauses of a pattern. -/
import Derived.Test.YtdgaheekfeomoaaGreatDoorMa
set_option linter.unusedVariables false
set_option linter.unusedSimpArgs false
set_option maxRecDepth 10000
namespace GoEv
open Go (IntKind Value)
inductive PTree where
  | mk (k z : Int) (a t : Nat) (ps : List PTree) (qs : List (Int × Nat × Nat))
/-- keys as they lie in memory -/
def QR (G : Nat → Prop) (h : H) (keys : V) (qs : List (Int × Nat × Nat)) : Prop := keys = .nils ∧ qs = [] ∨ ∃ b o cap ck ro cs, keys = .sl b o qs.length cap 2 ck ∧ G b ∧ b < h.n ∧ h.get b = some (.cells ro 28 cs) ∧ o + qs.length * 2 ≤ cs.length ∧
  ∀ i q, qs[i]? = some q → cs[o + i * 2]? = some (.i q.1) ∧ cs[o + i * 2 + 1]? = some (.str q.2.1 q.2.2)
def sm (ps : List PTree) (qs : List (Int × Nat × Nat)) : Prop := ps.length ≤ 100 ∧ qs.length ≤ 100
/-- a pattern as it lies in memory, of at most a depth, its blocks within G -/
def PT : Nat → (Nat → Prop) → H → List V → PTree → Prop
  | 0, _, _, _, _ => False
  | d + 1, G, h, l, .mk k z a t ps qs => ∃ kids keys, l = [.i k, .i z, .str a t, kids, keys] ∧ QR G h keys qs ∧ sm ps qs ∧
    (kids = .nils ∧ ps = [] ∨ ∃ b o cap ck ro cs, kids = .sl b o ps.length cap 5 ck ∧ G b ∧ b < h.n ∧ h.get b = some (.cells ro 43 cs) ∧ o + ps.length * 5 ≤ cs.length ∧ ∀ i p, ps[i]? = some p → PT d G h ((cs.drop (o + i * 5)).take 5) p)
theorem QR.upd {G G' : Nat → Prop} {h h' : H} {keys : V} {qs : List (Int × Nat × Nat)} (hq : QR G h keys qs) (hG : ∀ b, G b → b < h.n → G' b) (hget : ∀ b ro fz cs, G b → b < h.n → h.get b = some (.cells ro fz cs) → fz = 43 ∨ fz = 28 → h'.get b = some (.cells ro fz cs)) (hn : h.n ≤ h'.n) : QR G' h' keys qs := by
  refine hq.imp id ?_
  rintro ⟨b, o, cap, ck, ro, cs, e, g1, g2, g3, g4, g5⟩
  exact ⟨b, o, cap, ck, ro, cs, e, hG b g1 g2, Nat.lt_of_lt_of_le g2 hn, hget _ _ _ _ g1 g2 g3 (.inr rfl), g4, g5⟩
theorem PT.upd {G G' : Nat → Prop} {h h' : H} (hG : ∀ b, G b → b < h.n → G' b) (hget : ∀ b ro fz cs, G b → b < h.n → h.get b = some (.cells ro fz cs) → fz = 43 ∨ fz = 28 → h'.get b = some (.cells ro fz cs)) (hn : h.n ≤ h'.n) : ∀ (d : Nat) (l : List V) (p : PTree), PT d G h l p → PT d G' h' l p
  | 0, _, _, h => h.elim
  | d + 1, l, .mk k z a t ps qs, hp => by
    obtain ⟨kids, keys, e, hq, hsm, hk⟩ := hp
    refine ⟨kids, keys, e, hq.upd hG hget hn, hsm, hk.imp id ?_⟩
    rintro ⟨b, o, cap, ck, ro, cs, e, g1, g2, g3, g4, g5⟩
    exact ⟨b, o, cap, ck, ro, cs, e, hG b g1 g2, Nat.lt_of_lt_of_le g2 hn, hget _ _ _ _ g1 g2 g3 (.inl rfl), g4, fun i p hi => PT.upd hG hget hn d _ p (g5 i p hi)⟩
theorem PT.succ {G : Nat → Prop} {h : H} : ∀ (d : Nat) (l : List V) (p : PTree), PT d G h l p → PT (d + 1) G h l p
  | 0, _, _, h => h.elim
  | d + 1, l, .mk k z a t ps qs, hp => by
    obtain ⟨kids, keys, e, hq, hsm, hk⟩ := hp
    refine ⟨kids, keys, e, hq, hsm, hk.imp id ?_⟩
    rintro ⟨b, o, cap, ck, ro, cs, e, g1, g2, g3, g4, g5⟩
    exact ⟨b, o, cap, ck, ro, cs, e, g1, g2, g3, g4, fun i p hi => PT.succ d _ p (g5 i p hi)⟩
theorem PT.le {G : Nat → Prop} {h : H} {d d' : Nat} (hd : d ≤ d') {l : List V} {p : PTree} (hp : PT d G h l p) : PT d' G h l p := by
  induction hd with
  | refl => exact hp
  | step _ ih => exact PT.succ _ _ _ ih
theorem PT.len {G : Nat → Prop} {h : H} : ∀ {d : Nat} {l : List V} {p : PTree}, PT d G h l p → l.length = 5
  | 0, _, _, h => h.elim
  | d + 1, l, .mk .., hp => by obtain ⟨_, _, rfl, _⟩ := hp; rfl
theorem PT.flat {G : Nat → Prop} {h : H} : ∀ {d : Nat} {l : List V} {p : PTree}, PT d G h l p → ∀ v ∈ l, flat v = true
  | 0, _, _, h => h.elim
  | d + 1, l, .mk .., hp => by
    obtain ⟨kids, keys, rfl, hq, hsm, hk⟩ := hp
    have h1 : GoEv.flat keys = true := by rcases hq with ⟨rfl, _⟩ | ⟨_, _, _, _, _, _, rfl, _⟩ <;> rfl
    have h2 : GoEv.flat kids = true := by rcases hk with ⟨rfl, _⟩ | ⟨_, _, _, _, _, _, rfl, _⟩ <;> rfl
    intro v hv
    simp only [List.mem_cons, List.not_mem_nil, or_false] at hv
    rcases hv with rfl | rfl | rfl | rfl | rfl <;> first | rfl | assumption
theorem PT.kp {G : Nat → Prop} {h h' : H} {d : Nat} {l : List V} {p : PTree} (hp : PT d G h l p) (hk : Kp h h') : PT d G h' l p :=
  PT.upd (fun _ g _ => g) (fun b ro fz cs _ hb hg hf => hk.2 b ro fz cs hb hg (by omega) (by omega) (by omega)) hk.1 _ _ _ hp
theorem PT.put {base : Nat} {h : H} {d : Nat} {l : List V} {p : PTree} (hp : PT d (fun c => base ≤ c) h l p) {b : Nat} (hb : b < base) (x : Blk) {base' : Nat} (hb' : base' ≤ base) : PT d (fun c => base' ≤ c) (h.put b x) l p :=
  PT.upd (fun c (g : base ≤ c) _ => Nat.le_trans hb' g) (fun c ro fz cs (g : base ≤ c) _ hg _ => by rw [H.get_put_ne _ _ (by omega)]; exact hg) (by rw [H.n_put]; exact Nat.le_refl _) _ _ _ hp
/-- a list of patterns that is being made -/
def KL (d base : Nat) (h : H) (kids : V) (ps : List PTree) : Prop := kids = .nils ∧ ps = [] ∨ ∃ b cs, kids = .sl b 0 ps.length ps.length 5 false ∧ base ≤ b ∧ b < h.n ∧ h.get b = some (.cells false 43 cs) ∧ cs.length = ps.length * 5 ∧
  ∀ i p, ps[i]? = some p → PT d (fun c => base ≤ c ∧ c ≠ b) h ((cs.drop (i * 5)).take 5) p
theorem KL.pt {d base : Nat} {h : H} {kids keys : V} {ps : List PTree} {qs : List (Int × Nat × Nat)} (hk : KL d base h kids ps) (hq : QR (fun c => base ≤ c) h keys qs) (hsm : sm ps qs) (k z : Int) (a t : Nat) : PT (d + 1) (fun c => base ≤ c) h [.i k, .i z, .str a t, kids, keys] (.mk k z a t ps qs) := by
  refine ⟨kids, keys, rfl, hq, hsm, hk.imp id ?_⟩
  rintro ⟨b, cs, e, g1, g2, g3, g4, g5⟩
  refine ⟨b, 0, ps.length, false, false, cs, e, g1, g2, g3, by omega, fun i p hi => ?_⟩
  rw [Nat.zero_add]
  exact PT.upd (fun c g _ => g.1) (fun _ _ _ _ _ _ hg _ => hg) (Nat.le_refl _) _ _ _ (g5 i p hi)
theorem KL.nil (d base : Nat) (h : H) : KL d base h .nils [] := .inl ⟨rfl, rfl⟩
theorem QR.nil (G : Nat → Prop) (h : H) : QR G h .nils [] := .inl ⟨rfl, rfl⟩
theorem KL.kp {d base : Nat} {h h' : H} {kids : V} {ps : List PTree} (hk : KL d base h kids ps) (hkp : Kp h h') : KL d base h' kids ps := by
  refine hk.imp id ?_
  rintro ⟨b, cs, e, g1, g2, g3, g4, g5⟩
  exact ⟨b, cs, e, g1, Nat.lt_of_lt_of_le g2 hkp.1, hkp.2 _ _ _ _ g2 g3 (by omega) (by omega) (by omega), g4, fun i p hi => (g5 i p hi).kp hkp⟩
theorem take5 {l : List V} (h : l.length = 5) : List.take 5 (List.take (1 * 5) (List.drop 0 l)) = l := by
  rw [List.drop_zero, List.take_of_length_le (by simp; omega), List.take_of_length_le (by omega)]
/-- one more -/
theorem KL.snoc {d base : Nat} {hp h : H} {kids : V} {ps : List PTree} {l : List V} {p : PTree} (hk : KL d base hp kids ps) (hkp : Kp hp h) (hpt : PT d (fun c => hp.n ≤ c) h l p) (hbase : base ≤ hp.n) (hlen : ps.length ≤ 4000000000) (K : V → H → A) :
    ∃ kids' h2, apd (h.push (.cells false 43 l)) kids (.sl h.n 0 1 1 5 true) 5 43 K = K kids' h2 ∧ KL d base h2 kids' (ps ++ [p]) ∧ (∀ h0 : H, h0.n ≤ base → Kp h0 h → Kp h0 h2) ∧ (∀ bm bs L, Mk h bm bs L → Mk h2 bm bs L) ∧ (∀ bs, Src h bs → Src h2 bs) ∧ h.n ≤ h2.n ∧
      (∀ c, c < base → h2.get c = h.get c) := by
  have hl5 := hpt.len
  have hn1 := hkp.1
  rcases hk with ⟨rfl, rfl⟩ | ⟨b, cs, rfl, g1, g2, g3, g4, g5⟩
  · refine ⟨_, _, apd_nils (H.get_push_self _ _) (by simp only [H.n_push, H.n_put]; omega) (by omega) (by omega) (by omega), ?_, ?_, ?_, ?_, ?_, ?_⟩
    · refine .inr ⟨_, _, rfl, by simp only [H.n_push, H.n_put]; omega, by simp only [H.n_push, H.n_put]; omega, H.get_push_self _ _, by simp; omega, fun i p' hi => ?_⟩
      cases i with
      | succ i => simp at hi
      | zero =>
        simp at hi
        subst hi
        have e : List.take 5 (List.drop (0 * 5) (List.take (1 * 5) (List.drop 0 l))) = l := take5 hl5
        rw [e]
        refine PT.upd (fun c (g : hp.n ≤ c) hc => ⟨by omega, by simp only [H.n_push, H.n_put]; omega⟩) (fun c ro fz cs g hc hg _ => ?_) (by simp only [H.n_push, H.n_put]; omega) _ _ _ hpt
        rw [H.get_push_lt _ _ (by simp only [H.n_push, H.n_put]; omega), H.get_push_lt _ _ hc]; exact hg
    · intro h0 hb0 hk0; exact (hk0.trans (Kp.push _ _)).trans (Kp.push _ _)
    · intro bm bs L hm; exact (hm.push _).push _
    · intro bs hs; exact (hs.push _).push _
    · simp only [H.n_push]; omega
    · intro c hc; rw [H.get_push_lt _ _ (by simp only [H.n_push, H.n_put]; omega), H.get_push_lt _ _ (by omega)]
  · have gb : h.get b = some (.cells false 43 cs) := hkp.2 _ _ _ _ g2 g3 (by omega) (by omega) (by omega)
    have gb1 : (h.push (.cells false 43 l)).get b = some (.cells false 43 cs) := (H.get_push_lt _ _ (by omega)).trans gb
    refine ⟨_, _, apd_sl (H.get_push_self _ _) (by simp only [H.n_push, H.n_put]; omega) (by omega) (by omega) gb1 (by simp only [H.n_push, H.n_put]; omega) (by omega) (by omega), ?_, ?_, ?_, ?_, ?_, ?_⟩
    · refine .inr ⟨_, _, by rw [List.length_append]; rfl, by simp only [H.n_push, H.n_put]; omega, by simp only [H.n_push, H.n_put]; omega, by
          have := H.get_push_self ((h.push (.cells false 43 l)).put b .dead) (.cells false 43 (cs.take (ps.length * 5) ++ (l.drop 0).take (1 * 5)))
          rw [H.n_put] at this; exact this, by simp; omega, fun i p' hi => ?_⟩
      have hget : ∀ c ro fz cs', c ≠ b → c < h.n → h.get c = some (.cells ro fz cs') → (((h.push (.cells false 43 l)).put b .dead).push (.cells false 43 (cs.take (ps.length * 5) ++ (l.drop 0).take (1 * 5)))).get c = some (.cells ro fz cs') := by
        intro c ro fz cs' hcb hc hg
        rw [H.get_push_lt _ _ (by simp only [H.n_push, H.n_put]; omega), H.get_put_ne _ _ hcb, H.get_push_lt _ _ hc]; exact hg
      have hnn : (((h.push (.cells false 43 l)).put b .dead).push (.cells false 43 (cs.take (ps.length * 5) ++ (l.drop 0).take (1 * 5)))).n = h.n + 2 := by rw [H.n_push, H.n_put, H.n_push]
      by_cases hip : i < ps.length
      · rw [List.getElem?_append_left hip] at hi
        have e : ((cs.take (ps.length * 5) ++ (l.drop 0).take (1 * 5)).drop (i * 5)).take 5 = (cs.drop (i * 5)).take 5 := by
          have e1 : cs.take (ps.length * 5) = cs := List.take_of_length_le (by omega)
          rw [e1, List.drop_append_of_le_length (by omega), List.take_append_of_le_length (by simp; omega)]
        rw [e]
        have hq := (g5 i p' hi).kp hkp
        exact PT.upd (fun c g hc => ⟨g.1, by simp only [H.n_push, H.n_put]; omega⟩) (fun c ro fz cs' g hc hg _ => hget c ro fz cs' g.2 hc hg) (by rw [hnn]; omega) _ _ _ hq
      · have hie : i = ps.length := by have := (List.getElem?_eq_some_iff.1 hi).1; simp at this; omega
        subst hie
        rw [List.getElem?_append_right (Nat.le_refl _)] at hi
        simp at hi
        subst hi
        have e : ((cs.take (ps.length * 5) ++ (l.drop 0).take (1 * 5)).drop (ps.length * 5)).take 5 = l := by
          have e1 : cs.take (ps.length * 5) = cs := List.take_of_length_le (by omega)
          rw [e1, ← g4, List.drop_left]
          exact take5 hl5
        rw [e]
        exact PT.upd (fun c (g : hp.n ≤ c) hc => ⟨by omega, by simp only [H.n_push, H.n_put]; omega⟩) (fun c ro fz cs' (g : hp.n ≤ c) hc hg _ => hget c ro fz cs' (by omega) hc hg) (by rw [hnn]; omega) _ _ _ hpt
    · intro h0 hb0 hk0
      exact ((hk0.trans (Kp.push _ _)).putN (by omega) _).trans (Kp.push _ _)
    · intro bm bs L hm; exact ((hm.push _).put gb1 (by omega) (by omega) _).push _
    · intro bs hs
      have hne : b ≠ bs := fun e => by obtain ⟨q, hq⟩ := hs.get; subst e; rw [gb] at hq; cases hq
      exact ((hs.push _).put hne gb1 _).push _
    · simp only [H.n_push, H.n_put]; omega
    · intro c hc; rw [H.get_push_lt _ _ (by simp only [H.n_push, H.n_put]; omega), H.get_put_ne _ _ (by omega), H.get_push_lt _ _ (by omega)]
end GoEv
namespace GoEv
open Go (IntKind Value)
theorem jn_abs {f : List V → H → A} {K : (List V → H → A) → A} {Q : A → Prop} (h : ∀ k, k = f → Q (K k)) : Q (jn f K) := h f rfl
theorem lp_abs {n : Nat} {B : (List V → H → A) → List V → H → A} {l : List V} {h : H} {Q : A → Prop} (hh : ∀ S, S = B → Q (lp n S l h)) : Q (lp n B l h) := hh B rfl
theorem cnd_all {b : Bool} {x y : A} {Q : A → Prop} (h1 : b = true → Q x) (h2 : b = false → Q y) : Q (cnd b x y) := by
  cases b
  · exact h2 rfl
  · exact h1 rfl
def N : Nat → Nat
  | 0 => 1
  | d + 1 => 1 + 3 * N d
theorem N_pos (d : Nat) : 1 ≤ N d := by cases d <;> simp [N] 
theorem eqZ_true {a b : Int} (h : eqZ a b = true) : a = b := by rw [eqZ_eq] at h; exact eq_of_beq h
theorem name_at {m : Nat} {h : H} {bm bs L : Nat} (hm : Mk h bm bs L) (hs : Src h bs) (hL : L ≤ 10000) : ∃ a t h', GoEv.Sem tbl (m + 1) 22 [.ptr bm 0] h = some (.str a t, h') ∧ Kp h h' ∧ Mk h' bm bs (L + 1) ∧ Src h' bs := by
  rw [S22]; exact name_spec hm hs hL
def PatQ (h : H) (bm bs L d : Nat) (z : A) : Prop := ∃ l h' p, z = some (.agg l, h') ∧ PT (d + 1) (fun b => h.n ≤ b) h' l p ∧ Kp h h' ∧ Mk h' bm bs (L + N d) ∧ Src h' bs
def PatOK (n d : Nat) : Prop := ∀ (h : H) (bm bs L : Nat), Mk h bm bs L → Src h bs → L + N d ≤ 10000 → PatQ h bm bs L d (GoEv.Sem tbl n 10 [.ptr bm 0, .i (d : Int)] h)
theorem fin43 {h hX : H} {bm bs L L' d : Nat} {l0 l : List V} {p : PTree} (h0 : l0.length = 5) (hk : Kp (h.push (.cells false 43 l0)) hX) (hm : Mk hX bm bs L') (hL : L' ≤ L + N d) (hs : Src hX bs) (hp : PT (d + 1) (fun b => h.n + 1 ≤ b) hX l p) :
    PatQ h bm bs L d (stN hX h.n 0 5 l fun h' => ldN h' h.n 0 5 fun l' => ret (.agg l') h') := by
  have hl := hp.len
  have hg : hX.get h.n = some (.cells false 43 l0) := hk.2 _ _ _ _ (by simp only [H.n_push]; omega) (H.get_push_self _ _) (by omega) (by omega) (by omega)
  have hn : h.n < hX.n := by have := hk.1; simp only [H.n_push] at this; omega
  have hne : h.n ≠ bs := fun e => by obtain ⟨q, hq⟩ := hs.get; rw [e] at hg; rw [hg] at hq; cases hq
  rw [stN_all hg hn h0 hl, ldN_all (H.get_put_self _ _ _) (by rw [H.n_put]; exact hn) hl]
  exact ⟨l, _, p, rfl, hp.put (by omega) _ (by omega), ((Kp.push _ _).trans hk).putN (Nat.le_refl _) _, (hm.put hg (by omega) (by omega) _).le hL, hs.put hne hg _⟩
theorem PT.leaf {d : Nat} {G : Nat → Prop} {h : H} (k z : Int) (a t : Nat) : PT (d + 1) G h [.i k, .i z, .str a t, .nils, .nils] (.mk k z a t [] []) := ⟨.nils, .nils, rfl, QR.nil _ _, ⟨by simp, by simp⟩, .inl ⟨rfl, rfl⟩⟩
theorem KL.one {d base : Nat} {h : H} {kids : V} {ps : List PTree} (hk : KL d base h kids ps) (K : A) : one kids K = K := by
  rcases hk with ⟨rfl, _⟩ | ⟨_, _, rfl, _⟩ <;> rfl
theorem PT.kid1 {d base : Nat} {h : H} {keys : V} {qs : List (Int × Nat × Nat)} {l : List V} {p : PTree} {b : Nat} (hg : h.get b = some (.cells false 43 l)) (hb : b < h.n) (hbase : base ≤ b) (hp : PT d (fun c => base ≤ c) h l p) (hq : QR (fun c => base ≤ c) h keys qs) (hsm : qs.length ≤ 100) (k z : Int) (a t : Nat) (cap : Nat) (ck : Bool) :
    PT (d + 1) (fun c => base ≤ c) h [.i k, .i z, .str a t, .sl b 0 1 cap 5 ck, keys] (.mk k z a t [p] qs) := by
  have hl := hp.len
  refine ⟨_, keys, rfl, hq, ⟨by simp, hsm⟩, .inr ⟨b, 0, cap, ck, false, l, rfl, hbase, hb, hg, by simp; omega, fun i p' hi => ?_⟩⟩
  cases i with
  | succ i => simp at hi
  | zero =>
    simp at hi
    subst hi
    have e : List.take 5 (List.drop (0 + 0 * 5) l) = l := by rw [show 0 + 0 * 5 = 0 by omega, List.drop_zero, List.take_of_length_le (by omega)]
    rw [e]; exact hp
theorem PT.kid2 {d base : Nat} {h : H} {keys : V} {qs : List (Int × Nat × Nat)} {l l2 : List V} {p p2 : PTree} {b : Nat} (hg : h.get b = some (.cells false 43 (l ++ l2))) (hb : b < h.n) (hbase : base ≤ b) (hp : PT d (fun c => base ≤ c) h l p) (hp2 : PT d (fun c => base ≤ c) h l2 p2) (hq : QR (fun c => base ≤ c) h keys qs) (hsm : qs.length ≤ 100) (k z : Int) (a t : Nat) (cap : Nat) (ck : Bool) :
    PT (d + 1) (fun c => base ≤ c) h [.i k, .i z, .str a t, .sl b 0 2 cap 5 ck, keys] (.mk k z a t [p, p2] qs) := by
  have hl := hp.len
  have hl2 := hp2.len
  refine ⟨_, keys, rfl, hq, ⟨by simp, hsm⟩, .inr ⟨b, 0, cap, ck, false, l ++ l2, rfl, hbase, hb, hg, by simp; omega, fun i p' hi => ?_⟩⟩
  match i, hi with
  | 0, hi =>
    simp at hi
    subst hi
    have e : List.take 5 (List.drop (0 + 0 * 5) (l ++ l2)) = l := by rw [show 0 + 0 * 5 = 0 by omega, List.drop_zero, List.take_append_of_le_length (by omega), List.take_of_length_le (by omega)]
    rw [e]; exact hp
  | 1, hi =>
    simp at hi
    subst hi
    have e : List.take 5 (List.drop (0 + 1 * 5) (l ++ l2)) = l2 := by rw [show 0 + 1 * 5 = l.length by omega, List.drop_left, List.take_of_length_le (by omega)]
    rw [e]; exact hp2
  | i + 2, hi => simp at hi
theorem PT.weak {d base base' : Nat} {h : H} {l : List V} {p : PTree} (hp : PT d (fun c => base ≤ c) h l p) (hb : base' ≤ base) : PT d (fun c => base' ≤ c) h l p :=
  PT.upd (fun c (g : base ≤ c) _ => Nat.le_trans hb g) (fun _ _ _ _ _ _ hg _ => hg) (Nat.le_refl _) _ _ _ hp
theorem smcA {l z : List V} {K : List V → A} (hl : l.length = 5) (hz : z.length = 5) (y : List V) : smc 0 l (z ++ y) K = K (l ++ y) := by
  rw [smc_of (by simp; omega)]
  have : (z ++ y).drop (0 + l.length) = y := by rw [Nat.zero_add, hl, ← hz, List.drop_left]
  rw [this]; simp
theorem smcB {l z l2 : List V} {K : List V → A} (hl : l.length = 5) (hz : z.length = 5) (h2 : l2.length = 5) : smc 5 l2 (l ++ z) K = K (l ++ l2) := by
  rw [smc_of (by simp; omega)]
  have e1 : (l ++ z).drop (5 + l2.length) = [] := List.drop_eq_nil_of_le (by simp; omega)
  have e2 : (l ++ z).take 5 = l := by rw [← hl, List.take_left]
  rw [e1, e2]; simp
theorem pat_step (d m : Nat) (hd : d ≤ 10) (rec : ∀ d', d = d' + 1 → PatOK (m + 4) d') : PatOK (m + 5) d := by
  intro h bm bs L hm hs hL
  have hN := N_pos d
  rw [S10]
  unfold F10
  simp only [un_c, nl_n, nB_eq, toP_p]
  generalize hl0 : ([.i (Int.ofNat 0), .i (Int.ofNat 0), .str 0 0, .nils, .nils] : List V) = l0
  have h0 : l0.length = 5 := by rw [← hl0]; rfl
  have hm1 : Mk (h.push (.cells false 43 l0)) bm bs L := hm.push _
  have hs1 : Src (h.push (.cells false 43 l0)) bs := hs.push _
  obtain ⟨nm, g1, g2, _⟩ := hm1
  rw [ld_of g1 g2 (v := .ptr bs 0) rfl]
  obtain ⟨r, h1, e1, r0, r1, ho1, hs1'⟩ := next_at (m := m + 3) hs1 (n := 9) (by omega) (by omega)
  have e1' : GoEv.Sem tbl (m + 4) 9 [.ptr bs 0, .i (Int.ofNat 9)] (h.push (.cells false 43 l0)) = some (.i r, h1) := e1
  rw [e1']
  simp only [cl_s, toI_i]
  have hm2 : Mk h1 bm bs L := (hm.push _).only hs1 ho1
  have hk1 : Kp (h.push (.cells false 43 l0)) h1 := by obtain ⟨q, hq⟩ := hs1.get; exact ho1.fr hq
  have hn1 : h.n + 1 ≤ h1.n := by have := ho1.1; simp only [H.n_push] at this; omega
  refine jn_abs (Q := PatQ h bm bs L d) fun k hk => ?_
  have key : ∀ z : Int, (z ≤ 4 ∨ 1 ≤ d) → PatQ h bm bs L d (k [.ptr bm 0, .i (d : Int), .ptr h.n 0, .i z] h1) := by
    intro z hzd
    rw [hk]
    simp only [un_c, toI_i]
    have ldm : ∀ {hX : H} {L' : Nat} (hm : Mk hX bm bs L') (K : V → A), ld hX bm (Nat.add 0 0) K = K (.ptr bs 0) := by
      intro hX L' hm K
      obtain ⟨nm, g1, g2, _⟩ := hm
      exact ld_of g1 g2 rfl
    refine cnd_all (Q := PatQ h bm bs L d) (fun _ => ?_) fun _ => ?_
    · obtain ⟨a, t, h2, e2, hk2, hm3, hs3⟩ := name_at (m := m + 3) hm2 hs1' (by omega)
      rw [e2, ← hl0]
      simp only [cl_s, toS_s, setO_z, setO_s, toP_p]
      exact fin43 h0 (hk1.trans hk2) hm3 (by omega) hs3 (PT.leaf _ _ _ _)
    refine cnd_all (Q := PatQ h bm bs L d) (fun _ => ?_) fun _ => ?_
    · simp only [toP_p]
      rw [ldm hm2]
      obtain ⟨z2, h2, e2, ho2, hs3⟩ := number_at (m := m + 2) hs1'
      have hk2 : Kp h1 h2 := by obtain ⟨q, hq⟩ := hs1'.get; exact ho2.fr hq
      rw [e2, ← hl0]
      simp only [cl_s, toI_i, setO_z, setO_s, toP_p]
      exact fin43 h0 (hk1.trans hk2) (hm2.only hs1' ho2) (by omega) hs3 (PT.leaf _ _ _ _)
    refine cnd_all (Q := PatQ h bm bs L d) (fun _ => ?_) fun _ => ?_
    · simp only [toP_p]
      rw [ldm hm2]
      obtain ⟨a, t, h2, e2, ho2, hs3⟩ := atom_at (m := m + 2) hs1'
      have hk2 : Kp h1 h2 := by obtain ⟨q, hq⟩ := hs1'.get; exact ho2.fr hq
      rw [e2, ← hl0]
      simp only [cl_s, toS_s, setO_z, setO_s, toP_p]
      exact fin43 h0 (hk1.trans hk2) (hm2.only hs1' ho2) (by omega) hs3 (PT.leaf _ _ _ _)
    refine cnd_all (Q := PatQ h bm bs L d) (fun _ => ?_) fun _ => ?_
    · rw [← hl0]
      simp only [setO_z, setO_s, toP_p]
      exact fin43 h0 hk1 hm2 (by omega) hs1' (PT.leaf _ _ _ _)
    -- a tuple
    refine cnd_all (Q := PatQ h bm bs L d) (fun hz5 => ?_) fun _ => ?_
    · have hz5 := eqZ_true hz5
      rw [ofN] at hz5
      obtain ⟨d', rfl⟩ : ∃ d', d = d' + 1 := ⟨d - 1, by omega⟩
      have hsub : subZ ((d' + 1 : Nat) : Int) (Int.ofNat 1) = (d' : Int) := by rw [subZ_eq, ofN]; omega
      have hNd : N (d' + 1) = 1 + 3 * N d' := rfl
      have hNp := N_pos d'
      have rec' := rec d' rfl
      simp only [toP_p]
      rw [ldm hm2]
      obtain ⟨r2, h2, e2, p0, p1, ho2, hs2⟩ := next_at (m := m + 3) hs1' (n := 4) (by omega) (by omega)
      have e2' : GoEv.Sem tbl (m + 4) 9 [.ptr bs 0, .i (Int.ofNat 4)] h1 = some (.i r2, h2) := e2
      rw [e2']
      simp only [cl_s, toI_i]
      have hk2 : Kp h1 h2 := by obtain ⟨q, hq⟩ := hs1'.get; exact ho2.fr hq
      have hm3 := hm2.only hs1' ho2
      refine jn_abs (Q := PatQ h bm bs L (d' + 1)) fun k98 hk98 => ?_
      refine lp_abs (Q := PatQ h bm bs L (d' + 1)) fun ST hST => ?_
      have loop : ∀ (c fuel : Nat) (hX : H) (kids : V) (ps : List PTree), c < fuel → ps.length + c ≤ 3 → Kp (h.push (.cells false 43 l0)) hX → Mk hX bm bs (L + ps.length * N d') → Src hX bs → KL (d' + 1) (h.n + 1) hX kids ps →
          PatQ h bm bs L (d' + 1) (lp fuel ST [.ptr bm 0, .i ((d' + 1 : Nat) : Int), .ptr h.n 0, kids, .i (c : Int)] hX) := by
        intro c
        induction c with
        | zero =>
          intro fuel hX kids ps hf hps hkX hmX hsX hkl
          obtain ⟨f, rfl⟩ : ∃ f, fuel = f + 1 := ⟨fuel - 1, by omega⟩
          rw [lp_succ, congrFun hST]
          simp only [un_c, toI_i]
          have : ltZ (Int.ofNat 0) ((0 : Nat) : Int) = false := by rw [ltZ_eq]; rfl
          rw [this, hk98, ← hl0]
          simp only [cnd_f, un_c, setO_z, setO_s, toP_p]
          rw [hkl.one]
          refine fin43 h0 hkX hmX ?_ hsX (hkl.pt (QR.nil _ _) ⟨by omega, by simp⟩ _ _ _ _)
          have h3 : ps.length * N d' ≤ 3 * N d' := Nat.mul_le_mul_right _ (by omega)
          omega
        | succ c ih =>
          intro fuel hX kids ps hf hps hkX hmX hsX hkl
          obtain ⟨f, rfl⟩ : ∃ f, fuel = f + 1 := ⟨fuel - 1, by omega⟩
          rw [lp_succ, congrFun hST]
          simp only [un_c, toI_i]
          have : ltZ (Int.ofNat 0) ((c + 1 : Nat) : Int) = true := by rw [ltZ_eq]; exact decide_eq_true (by rw [ofN]; omega)
          rw [this]
          simp only [cnd_t]
          rw [bW64_of (by rw [hsub]; omega) (by rw [hsub]; omega), hsub]
          have hmul : ps.length * N d' ≤ 2 * N d' := Nat.mul_le_mul_right _ (by omega)
          obtain ⟨l2, h3, p2, e3, q1, q2, q3, q4⟩ := rec' hX bm bs _ hmX hsX (by omega)
          rw [e3]
          simp only [cl_s, toA_a]
          have hl2 := q1.len
          rw [lnc_of hl2, smc_all (by rw [hl2, h0])]
          have hnX : h.n + 1 ≤ hX.n := by have := hkX.1; simp only [H.n_push] at this; omega
          obtain ⟨kids', h4, f1, f2, f3, f4, f5, f6, f7⟩ := hkl.snoc q2 q1 hnX (by omega) (fun v121 h122 => bW64 (subZ ((c + 1 : Nat) : Int) (Int.ofNat 1)) fun z124 => lp f ST [.ptr bm 0, .i ((d' + 1 : Nat) : Int), .ptr h.n 0, v121, .i z124] h122)
          rw [f1]
          have hsc : subZ ((c + 1 : Nat) : Int) (Int.ofNat 1) = (c : Int) := by rw [subZ_eq, ofN]; omega
          rw [bW64_of (by rw [hsc]; omega) (by rw [hsc]; omega), hsc]
          refine ih f h4 kids' (ps ++ [p2]) (by omega) (by simp; omega) (f3 _ (by simp only [H.n_push]; omega) (hkX.trans q2)) ?_ (f5 _ q4) f2
          have := f4 _ _ _ q3
          rw [List.length_append, Nat.add_mul, ← Nat.add_assoc]
          simpa using this
      obtain ⟨c, rfl⟩ := Int.eq_ofNat_of_zero_le p0
      exact loop c _ h2 .nils [] (by omega) (by simp; omega) (hk1.trans hk2) (by simpa using hm3) hs2 (KL.nil _ _ _)
    refine cnd_all (Q := PatQ h bm bs L d) (fun hz5 => ?_) fun _ => ?_
    · have hz5 := eqZ_true hz5
      rw [ofN] at hz5
      obtain ⟨d', rfl⟩ : ∃ d', d = d' + 1 := ⟨d - 1, by omega⟩
      have hsub : subZ ((d' + 1 : Nat) : Int) (Int.ofNat 1) = (d' : Int) := by rw [subZ_eq, ofN]; omega
      have hNd : N (d' + 1) = 1 + 3 * N d' := rfl
      have hNp := N_pos d'
      have rec' := rec d' rfl
      rw [bW64_of (by rw [hsub]; omega) (by rw [hsub]; omega), hsub]
      obtain ⟨l1, h2, p1, e2, q1, q2, q3, q4⟩ := rec' h1 bm bs _ hm2 hs1' (by omega)
      rw [e2]
      simp only [cl_s, toA_a]
      have hl1 := q1.len
      rw [stN_all (H.get_push_self _ _) (by simp only [H.n_push]; omega) h0 hl1]
      have hk3 : Kp h2 ((h2.push (.cells false 43 l0)).put h2.n (.cells false 43 l1)) := (Kp.push _ _).putN (Nat.le_refl _) _
      generalize hh3 : (h2.push (.cells false 43 l0)).put h2.n (.cells false 43 l1) = h3 at hk3 ⊢
      have n3 : h3.n = h2.n + 1 := by rw [← hh3]; simp only [H.n_push, H.n_put]
      have g3 : h3.get h2.n = some (.cells false 43 l1) := by rw [← hh3]; exact H.get_put_self _ _ _
      have hm3 : Mk h3 bm bs (L + N d') := by rw [← hh3]; exact (q3.push _).put (H.get_push_self _ _) (by omega) (by omega) _
      have hs3 : Src h3 bs := by
        rw [← hh3]
        exact (q4.push _).put (by have := q4.lt; omega) (H.get_push_self _ _) _
      try rw [bW64_of (z := (d' : Int)) (by omega) (by omega)]
      obtain ⟨l2, h4, p2, e4, r1', r2', r3', r4'⟩ := rec' h3 bm bs _ hm3 hs3 (by omega)
      rw [e4]
      simp only [cl_s, toA_a]
      have hl2 := r1'.len
      rw [stN_all (H.get_push_self _ _) (by simp only [H.n_push]; omega) h0 hl2]
      have hk5 : Kp h4 ((h4.push (.cells false 43 l0)).put h4.n (.cells false 43 l2)) := (Kp.push _ _).putN (Nat.le_refl _) _
      generalize hh5 : (h4.push (.cells false 43 l0)).put h4.n (.cells false 43 l2) = h5 at hk5 ⊢
      have n5 : h5.n = h4.n + 1 := by rw [← hh5]; simp only [H.n_push, H.n_put]
      have n34 := r2'.1
      have n12 := q2.1
      have g5 : h5.get h4.n = some (.cells false 43 l2) := by rw [← hh5]; exact H.get_put_self _ _ _
      have g5' : h5.get h2.n = some (.cells false 43 l1) := hk5.2 _ _ _ _ (by omega) (r2'.2 _ _ _ _ (by omega) g3 (by omega) (by omega) (by omega)) (by omega) (by omega) (by omega)
      rw [ldN_all g5' (by omega) hl1, ldN_all g5 (by omega) hl2]
      have hm5 : Mk h5 bm bs (L + N d' + N d') := by rw [← hh5]; exact (r3'.push _).put (H.get_push_self _ _) (by omega) (by omega) _
      have hs5 : Src h5 bs := by
        rw [← hh5]
        exact (r4'.push _).put (by have := r4'.lt; omega) (H.get_push_self _ _) _
      rw [lnc_of hl1]
      have e10 : ∀ K : List V → A, smc 0 l1 (.i (Int.ofNat 0) :: .i (Int.ofNat 0) :: .str 0 0 :: .nils :: .nils :: l0) K = K (l1 ++ l0) := fun K => smcA hl1 (z := [.i (Int.ofNat 0), .i (Int.ofNat 0), .str 0 0, .nils, .nils]) rfl l0
      rw [e10]
      rw [lnc_of hl2, smcB hl1 h0 hl2, ← hl0]
      simp only [setO_z, setO_s, toP_p]
      have hk6 : Kp (h.push (.cells false 43 l0)) (h5.push (.cells false 43 (l1 ++ l2))) := ((((hk1.trans q2).trans hk3).trans r2').trans hk5).trans (Kp.push _ _)
      have P1 : PT (d' + 1) (fun c => h.n + 1 ≤ c) (h5.push (.cells false 43 (l1 ++ l2))) l1 p1 := ((((q1.kp hk3).kp r2').kp hk5).kp (Kp.push _ _)).weak (by omega)
      have P2 : PT (d' + 1) (fun c => h.n + 1 ≤ c) (h5.push (.cells false 43 (l1 ++ l2))) l2 p2 := ((r1'.kp hk5).kp (Kp.push _ _)).weak (by omega)
      exact fin43 h0 hk6 (hm5.push _) (by omega) (hs5.push _) (PT.kid2 (H.get_push_self _ _) (by simp only [H.n_push]; omega) (by omega) P1 P2 (QR.nil _ _) (by simp) _ _ _ _ _ _)
    refine cnd_all (Q := PatQ h bm bs L d) (fun hz5 => ?_) fun _ => ?_
    · have hz5 := eqZ_true hz5
      rw [ofN] at hz5
      obtain ⟨d', rfl⟩ : ∃ d', d = d' + 1 := ⟨d - 1, by omega⟩
      have hsub : subZ ((d' + 1 : Nat) : Int) (Int.ofNat 1) = (d' : Int) := by rw [subZ_eq, ofN]; omega
      have hNd : N (d' + 1) = 1 + 3 * N d' := rfl
      have hNp := N_pos d'
      have rec' := rec d' rfl
      simp only [toP_p]
      rw [ldm hm2]
      obtain ⟨z7, a7, t7, h2, e2, ho2, hs2⟩ := key_at (m := m + 1) hs1'
      rw [e2]
      simp only [cl_s, toA_a]
      have hk2 : Kp h1 h2 := by obtain ⟨q, hq⟩ := hs1'.get; exact ho2.fr hq
      have hm3 := hm2.only hs1' ho2
      have n12 := ho2.1
      rw [stN_all (n := 2) (H.get_push_self _ _) (by simp only [H.n_push]; omega) rfl rfl]
      have hk3 : Kp h2 ((h2.push (.cells false 28 [.i (Int.ofNat 0), .str 0 0])).put h2.n (.cells false 28 [.i z7, .str a7 t7])) := (Kp.push _ _).putN (Nat.le_refl _) _
      generalize hh3 : (h2.push (.cells false 28 [.i (Int.ofNat 0), .str 0 0])).put h2.n (.cells false 28 [.i z7, .str a7 t7]) = h3 at hk3 ⊢
      have n3 : h3.n = h2.n + 1 := by rw [← hh3]; simp only [H.n_push, H.n_put]
      have g3 : h3.get h2.n = some (.cells false 28 [.i z7, .str a7 t7]) := by rw [← hh3]; exact H.get_put_self _ _ _
      have hm4 : Mk h3 bm bs L := by rw [← hh3]; exact (hm3.push _).put (H.get_push_self _ _) (by omega) (by omega) _
      have hs3 : Src h3 bs := by
        rw [← hh3]
        exact (hs2.push _).put (by have := hs2.lt; omega) (H.get_push_self _ _) _
      rw [ldN_all (n := 2) g3 (by omega) rfl, lnc_of (n := 2) rfl, smc_all (by rfl)]
      rw [bW64_of (by rw [hsub]; omega) (by rw [hsub]; omega), hsub]
      have g4 := H.get_push_self h3 (.cells false 28 [.i z7, .str a7 t7])
      have hk4 : Kp h3 (h3.push (.cells false 28 [.i z7, .str a7 t7])) := Kp.push _ _
      obtain ⟨l1, h5, p1, e5, q1, q2, q3, q4⟩ := rec' (h3.push (.cells false 28 [.i z7, .str a7 t7])) bm bs _ (hm4.push _) (hs3.push _) (by omega)
      rw [e5]
      simp only [cl_s, toA_a]
      have n45 := q2.1
      simp only [H.n_push] at n45
      have hl1 := q1.len
      have g5 : h5.get h2.n = some (.cells false 28 [.i z7, .str a7 t7]) := q2.2 _ _ _ _ (by simp only [H.n_push]; omega) (hk4.2 _ _ _ _ (by omega) g3 (by omega) (by omega) (by omega)) (by omega) (by omega) (by omega)
      have g5k : h5.get h3.n = some (.cells false 28 [.i z7, .str a7 t7]) := q2.2 _ _ _ _ (by simp only [H.n_push]; omega) g4 (by omega) (by omega) (by omega)
      rw [ldN_all (n := 2) g5 (by omega) rfl, veq_agg (by simp [flat]), lnc_of hl1, smc_all (by rw [hl1, h0]), ← hl0]
      simp only [setO_z, setO_s, toP_p]
      have hk6 : Kp (h.push (.cells false 43 l0)) (h5.push (.cells false 43 l1)) := (((((hk1.trans hk2).trans hk3).trans hk4)).trans q2).trans (Kp.push _ _)
      have P1 : PT (d' + 1) (fun c => h.n + 1 ≤ c) (h5.push (.cells false 43 l1)) l1 p1 := (q1.kp (Kp.push _ _)).weak (by simp only [H.n_push]; omega)
      have Q1 : QR (fun c => h.n + 1 ≤ c) (h5.push (.cells false 43 l1)) (.sl h3.n 0 1 1 2 true) [(z7, a7, t7)] := by
        refine .inr ⟨h3.n, 0, 1, true, false, _, rfl, by omega, by simp only [H.n_push]; omega, (H.get_push_lt _ _ (by omega)).trans g5k, by simp, fun i q hi => ?_⟩
        cases i with
        | succ i => simp at hi
        | zero => simp at hi; subst hi; exact ⟨rfl, rfl⟩
      exact fin43 h0 hk6 (q3.push _) (by omega) (q4.push _) (PT.kid1 (H.get_push_self _ _) (by simp only [H.n_push]; omega) (by omega) P1 Q1 (by simp) _ _ _ _ _ _)
    refine cnd_all (Q := PatQ h bm bs L d) (fun hz5 => ?_) fun _ => ?_
    · have hz5 := eqZ_true hz5
      rw [ofN] at hz5
      obtain ⟨d', rfl⟩ : ∃ d', d = d' + 1 := ⟨d - 1, by omega⟩
      have hsub : subZ ((d' + 1 : Nat) : Int) (Int.ofNat 1) = (d' : Int) := by rw [subZ_eq, ofN]; omega
      have hNd : N (d' + 1) = 1 + 3 * N d' := rfl
      have hNp := N_pos d'
      have rec' := rec d' rfl
      obtain ⟨a, t, h2, e2, hk2, hm3, hs3⟩ := name_at (m := m + 3) hm2 hs1' (by omega)
      rw [e2]
      simp only [cl_s, toS_s]
      rw [bW64_of (by rw [hsub]; omega) (by rw [hsub]; omega), hsub]
      obtain ⟨l1, h3, p1, e3, q1, q2, q3, q4⟩ := rec' h2 bm bs _ hm3 hs3 (by omega)
      rw [e3]
      simp only [cl_s, toA_a]
      have hl1 := q1.len
      have n12 := hk2.1
      have n23 := q2.1
      rw [lnc_of hl1, smc_all (by rw [hl1, h0]), ← hl0]
      simp only [setO_z, setO_s, toP_p]
      have hk6 : Kp (h.push (.cells false 43 l0)) (h3.push (.cells false 43 l1)) := ((hk1.trans hk2).trans q2).trans (Kp.push _ _)
      have P1 : PT (d' + 1) (fun c => h.n + 1 ≤ c) (h3.push (.cells false 43 l1)) l1 p1 := (q1.kp (Kp.push _ _)).weak (by omega)
      exact fin43 h0 hk6 (q3.push _) (by omega) (q4.push _) (PT.kid1 (H.get_push_self _ _) (by simp only [H.n_push]; omega) (by omega) P1 (QR.nil _ _) (by simp) _ _ _ _ _ _)
    rw [← hl0]
    simp only [setO_z, setO_s, toP_p]
    exact fin43 h0 hk1 hm2 (by omega) hs1' (PT.leaf _ _ _ _)
  cases hd0 : eqZ (d : Int) (Int.ofNat 0) with
  | false =>
    simp only [grd_ft, pkV_f, toB_b, cnd_f]
    refine key r (.inr ?_)
    rcases Nat.eq_zero_or_pos d with h | h
    · subst h; cases hd0
    · exact h
  | true =>
    simp only [grd_tt, pkV_t, toB_b, toI_i]
    refine cnd_all (Q := PatQ h bm bs L d) (fun _ => key _ (.inl (by rw [ofN]; omega))) fun h4 => key _ (.inl ?_)
    rw [ltZ_eq] at h4
    have h4 := of_decide_eq_false h4
    rw [ofN] at h4
    omega
theorem pat_spec : ∀ (d m : Nat), d ≤ 10 → PatOK (m + d + 5) d
  | 0, m, hd => pat_step 0 m hd fun d' h => by omega
  | d + 1, m, hd => by
    rw [show m + (d + 1) + 5 = (m + d + 1) + 5 by omega]
    refine pat_step (d + 1) (m + d + 1) hd fun d' h => ?_
    obtain rfl : d = d' := by omega
    rw [show m + d + 1 + 4 = m + d + 5 by omega]
    exact pat_spec d m (by omega)
end GoEv
namespace GoEv
open Go (IntKind Value)
/-- nothing that was there is changed -/
def Ks (h h' : H) : Prop := h.n ≤ h'.n ∧ ∀ b, b < h.n → h'.get b = h.get b
theorem Ks.refl (h : H) : Ks h h := ⟨Nat.le_refl _, fun _ _ => rfl⟩
theorem Ks.trans {a b c : H} (h1 : Ks a b) (h2 : Ks b c) : Ks a c := ⟨Nat.le_trans h1.1 h2.1, fun k hk => (h2.2 k (Nat.lt_of_lt_of_le hk h1.1)).trans (h1.2 k hk)⟩
theorem Ks.push (h : H) (x : Blk) : Ks h (h.push x) := ⟨by rw [H.n_push]; omega, fun b hb => H.get_push_lt h x hb⟩
theorem Ks.putN {h h1 : H} (ho : Ks h h1) {b : Nat} (hb : h.n ≤ b) (x : Blk) : Ks h (h1.put b x) := ⟨by rw [H.n_put]; exact ho.1, fun c hc => by rw [H.get_put_ne h1 x (by omega)]; exact ho.2 c hc⟩
theorem Ks.kp {h h' : H} (hk : Ks h h') : Kp h h' := ⟨hk.1, fun b ro fz l hb hg _ _ _ => by rw [hk.2 b hb]; exact hg⟩
theorem PT.ks {G : Nat → Prop} {h h' : H} {d : Nat} {l : List V} {p : PTree} (hp : PT d G h l p) (hk : Ks h h') : PT d G h' l p := hp.kp hk.kp
/-- a list of patterns as it lies in memory -/
def KR (d : Nat) (G : Nat → Prop) (h : H) (kids : V) (ps : List PTree) : Prop := kids = .nils ∧ ps = [] ∨ ∃ b o cap ck ro cs, kids = .sl b o ps.length cap 5 ck ∧ G b ∧ b < h.n ∧ h.get b = some (.cells ro 43 cs) ∧ o + ps.length * 5 ≤ cs.length ∧ ∀ i p, ps[i]? = some p → PT d G h ((cs.drop (o + i * 5)).take 5) p
theorem KR.kp {d : Nat} {G : Nat → Prop} {h h' : H} {kids : V} {ps : List PTree} (hk : KR d G h kids ps) (hkp : Kp h h') : KR d G h' kids ps := by
  refine hk.imp id ?_
  rintro ⟨b, o, cap, ck, ro, cs, e, g1, g2, g3, g4, g5⟩
  exact ⟨b, o, cap, ck, ro, cs, e, g1, Nat.lt_of_lt_of_le g2 hkp.1, hkp.2 _ _ _ _ g2 g3 (by omega) (by omega) (by omega), g4, fun i p hi => (g5 i p hi).kp hkp⟩
theorem KL.kr {d base : Nat} {h : H} {kids : V} {ps : List PTree} (hk : KL d base h kids ps) : KR d (fun c => base ≤ c) h kids ps := by
  refine hk.imp id ?_
  rintro ⟨b, cs, e, g1, g2, g3, g4, g5⟩
  refine ⟨b, 0, ps.length, false, false, cs, e, g1, g2, g3, by omega, fun i p hi => ?_⟩
  rw [Nat.zero_add]
  exact PT.upd (fun c g _ => g.1) (fun _ _ _ _ _ _ hg _ => hg) (Nat.le_refl _) _ _ _ (g5 i p hi)
theorem KR.pt {d : Nat} {G : Nat → Prop} {h : H} {kids keys : V} {ps : List PTree} {qs : List (Int × Nat × Nat)} (hk : KR d G h kids ps) (hq : QR G h keys qs) (hsm : sm ps qs) (k z : Int) (a t : Nat) : PT (d + 1) G h [.i k, .i z, .str a t, kids, keys] (.mk k z a t ps qs) := ⟨kids, keys, rfl, hq, hsm, hk⟩
def CloneOK (n d : Nat) : Prop := ∀ (h : H) (G : Nat → Prop) (l : List V) (p : PTree), PT d G h l p → ∃ l' h', GoEv.Sem tbl n 13 [.agg l] h = some (.agg l', h') ∧ PT d (fun b => h.n ≤ b) h' l' p ∧ Ks h h'
theorem each_spec {d m : Nat} (hc : CloneOK m d) {h : H} {G : Nat → Prop} {kids : V} {ps : List PTree} (hk : KR d G h kids ps) (hps : ps.length ≤ 1000) :
    ∃ kids' h', GoEv.Sem tbl (m + 1) 12 [kids, .fn 13 [] []] h = some (kids', h') ∧ KL d h.n h' kids' ps ∧ Ks h h' := by
  rw [S12]
  unfold F12
  simp only [un_c, nl_n]
  have hln : ∀ K : Int → A, ln kids K = K (ps.length : Int) := by
    intro K
    rcases hk with ⟨rfl, rfl⟩ | ⟨b, o, cap, ck, ro, cs, rfl, _⟩
    · exact ln_nils K
    · exact ln_sl _ _ _ _ _ _ K
  rw [hln]
  refine jn_abs (Q := fun z => ∃ kids' h', z = some (kids', h') ∧ KL d h.n h' kids' ps ∧ Ks h h') fun k12 hk12 => ?_
  refine lp_abs (Q := fun z => ∃ kids' h', z = some (kids', h') ∧ KL d h.n h' kids' ps ∧ Ks h h') fun ST hST => ?_
  have loop : ∀ (c i fuel : Nat) (hX : H) (out : V), c < fuel → i + c = ps.length → Ks h hX → KL d h.n hX out (ps.take i) →
      ∃ kids' h', lp fuel ST [.fn 13 [] [], out, kids, .i (ps.length : Int), .i (i : Int)] hX = some (kids', h') ∧ KL d h.n h' kids' ps ∧ Ks h h' := by
    intro c
    induction c with
    | zero =>
      intro i fuel hX out hf hic hkX hkl
      obtain ⟨f, rfl⟩ : ∃ f, fuel = f + 1 := ⟨fuel - 1, by omega⟩
      rw [lp_succ, congrFun hST]
      simp only [un_c, toI_i]
      have : ltZ (i : Int) (ps.length : Int) = false := by rw [ltZ_eq]; exact decide_eq_false (by omega)
      rw [this, hk12]
      simp only [cnd_f, un_c]
      refine ⟨out, hX, rfl, ?_, hkX⟩
      rw [List.take_of_length_le (by omega)] at hkl; exact hkl
    | succ c ih =>
      intro i fuel hX out hf hic hkX hkl
      obtain ⟨f, rfl⟩ : ∃ f, fuel = f + 1 := ⟨fuel - 1, by omega⟩
      rw [lp_succ, congrFun hST]
      simp only [un_c, toI_i]
      have : ltZ (i : Int) (ps.length : Int) = true := by rw [ltZ_eq]; exact decide_eq_true (by omega)
      rw [this]
      simp only [cnd_t, toZ_i]
      rcases hk with ⟨_, hnil⟩ | ⟨b, o, cap, ck, ro, cs, rfl, g1, g2, g3, g4, g5⟩
      · subst hnil; simp at hic
      · have hip : i < ps.length := by omega
        rw [ix_of hip]
        have hi5 : i * 5 + 5 ≤ ps.length * 5 := by omega
        have gX : hX.get b = some (.cells ro 43 cs) := (hkX.2 b g2).trans g3
        have hnX := hkX.1
        rw [ldN_of gX (by omega) (by omega)]
        obtain ⟨p, hp⟩ : ∃ p, ps[i]? = some p := ⟨ps[i], List.getElem?_eq_getElem hip⟩
        have hpt := (g5 i p hp).ks hkX
        have hl := hpt.len
        generalize (cs.drop (o + i * 5)).take 5 = l at hpt hl ⊢
        simp only [nB_eq]
        rw [stN_all (n := 5) (H.get_push_self _ _) (by simp only [H.n_push]; omega) rfl hl, ldN_all (H.get_put_self _ _ _) (by simp only [H.n_put, H.n_push]; omega) hl]
        generalize hh1 : (hX.push (.cells false 43 [.i (Int.ofNat 0), .i (Int.ofNat 0), .str 0 0, .nils, .nils])).put hX.n (.cells false 43 l) = h1
        have k1 : Ks hX h1 := by rw [← hh1]; exact (Ks.push _ _).putN (Nat.le_refl _) _
        have n1 : h1.n = hX.n + 1 := by rw [← hh1]; simp only [H.n_put, H.n_push]
        simp only [toF_f, X13, cnd_t]
        obtain ⟨l', h2, e2, q1, q2⟩ := hc h1 G l p (hpt.ks k1)
        have e2' : GoEv.Sem tbl m 13 (app [] (app [.agg l] [])) h1 = some (.agg l', h2) := e2
        rw [e2']
        simp only [cl_s, toA_a]
        have hl' := q1.len
        rw [lnc_of hl', smc_all (by rw [hl']; rfl)]
        have n2 := q2.1
        obtain ⟨kids', h4, f1, f2, f3, f4, f5, f6, f7⟩ := hkl.snoc ((k1.trans q2).kp) (q1.weak (by omega)) (by omega) (by simp; omega) (fun v45 h46 => bW64 (addZ (i : Int) (Int.ofNat 1)) fun z48 => lp f ST [.fn 13 [] [], v45, .sl b o ps.length cap 5 ck, .i (ps.length : Int), .i z48] h46)
        rw [f1]
        have hsc : addZ (i : Int) (Int.ofNat 1) = ((i + 1 : Nat) : Int) := by rw [addZ_eq, ofN]; omega
        rw [bW64_of (by rw [hsc]; omega) (by rw [hsc]; omega), hsc]
        refine ih (i + 1) f h4 kids' (by omega) (by omega) ⟨by omega, fun c hc => ?_⟩ ?_
        · rw [f7 c hc, q2.2 c (by omega), k1.2 c (by omega), hkX.2 c hc]
        · rw [List.take_add_one, hp]; exact f2
  exact loop ps.length 0 _ h .nils (by omega) (by omega) (Ks.refl _) (by simpa using KL.nil _ _ _)
theorem keys_spec {m : Nat} {h : H} {G : Nat → Prop} {keys : V} {qs : List (Int × Nat × Nat)} (hq : QR G h keys qs) (hlen : qs.length ≤ 1000) : ∃ keys' h', GoEv.Sem tbl (m + 1) 26 [keys] h = some (keys', h') ∧ QR (fun c => h.n ≤ c) h' keys' qs ∧ Ks h h' := by
  rw [S26]
  unfold F26
  simp only [un_c, nl_n, nB_eq]
  rcases hq with ⟨rfl, rfl⟩ | ⟨b, o, cap, ck, ro, cs, rfl, g1, g2, g3, g4, g5⟩
  · exact ⟨.nils, h, rfl, QR.nil _ _, Ks.refl _⟩
  · show ∃ keys' h', (apd (h.push (.cells false 28 [])) (.sl h.n 0 0 0 2 true) (.sl b o qs.length cap 2 ck) 2 28 fun v8 h9 => ret v8 h9) = some (keys', h') ∧ _
    rcases Nat.eq_zero_or_pos qs.length with h0 | h0
    · have hqs : qs = [] := List.eq_nil_of_length_eq_zero h0
      subst hqs
      refine ⟨.sl h.n 0 0 0 2 true, h.push (.cells false 28 []), ?_, .inr ⟨h.n, 0, 0, true, false, [], rfl, Nat.le_refl _, by simp only [H.n_push]; omega, H.get_push_self _ _, by simp, fun i q hi => by simp at hi⟩, Ks.push _ _⟩
      show gB (h.push (.cells false 28 [])) b (fun _ _ cs => tkc cs o (Nat.mul 0 2) _) = _
      rw [gB_of ((H.get_push_lt _ _ g2).trans g3) (by simp only [H.n_push]; omega)]
      show tkc cs o (Nat.mul 0 2) _ = _
      unfold tkc
      rw [len_eq, takeN_eq, dropN_eq]
      have : ((cs.drop o).take (Nat.mul 0 2)).length = 0 := by simp
      rw [this]
      rfl
    · rw [apd_slk (ro' := false) (fz' := 28) (cs' := []) ((H.get_push_lt _ _ g2).trans g3) (by simp only [H.n_push]; omega) g4 h0 (H.get_push_self _ _) (by simp only [H.n_push]; omega) (by simp) (by omega) (by omega)]
      refine ⟨_, _, rfl, .inr ⟨(h.push (.cells false 28 [])).n, 0, qs.length, false, false, _, by rw [Nat.zero_add], by simp only [H.n_push]; omega, by simp only [H.n_push]; omega, H.get_push_self _ _, by simp; omega, fun i q hi => ?_⟩, (Ks.push _ _).trans (Ks.push _ _)⟩
      have hil := (List.getElem?_eq_some_iff.1 hi).1
      obtain ⟨a1, a2⟩ := g5 i q hi
      have e0 : (([] : List V).drop 0).take (0 * 2) ++ (cs.drop o).take (qs.length * 2) = (cs.drop o).take (qs.length * 2) := by simp
      rw [e0, List.getElem?_take_of_lt (by omega), List.getElem?_take_of_lt (by omega), List.getElem?_drop, List.getElem?_drop]
      rw [show o + (0 + i * 2) = o + i * 2 by omega, show o + (0 + i * 2 + 1) = o + i * 2 + 1 by omega]
      exact ⟨a1, a2⟩
theorem clone_spec : ∀ (d m : Nat), CloneOK (2 * d + m + 1) d
  | 0, m => fun h G l p hp => hp.elim
  | d + 1, m => by
    intro h G l p hp
    have ih := clone_spec d m
    obtain ⟨k, z, a, t, ps, qs⟩ := p
    obtain ⟨kids, keys, rfl, hq, hsm, hk⟩ := hp
    have hk : KR d G h kids ps := hk
    rw [S13]
    unfold F13
    simp only [un_c, nl_n, toA_a, nB_eq]
    generalize hh1 : (h.push (.cells false 43 [.i k, .i z, .str a t, kids, keys])).push (.cells false 43 [.i (Int.ofNat 0), .i (Int.ofNat 0), .str 0 0, .nils, .nils]) = h1
    have n0 : (h.push (.cells false 43 [.i k, .i z, .str a t, kids, keys])).n = h.n + 1 := H.n_push _ _
    have n1 : h1.n = h.n + 2 := by rw [← hh1]; simp only [H.n_push]
    have k1 : Ks h h1 := by rw [← hh1]; exact (Ks.push _ _).trans (Ks.push _ _)
    have g1 : h1.get h.n = some (.cells false 43 [.i k, .i z, .str a t, kids, keys]) := by rw [← hh1, H.get_push_lt _ _ (by omega)]; exact H.get_push_self _ _
    have g2 : h1.get (h.n + 1) = some (.cells false 43 [.i (Int.ofNat 0), .i (Int.ofNat 0), .str 0 0, .nils, .nils]) := by rw [← hh1, ← n0]; exact H.get_push_self _ _
    rw [n0, ld_of g1 (by omega) (v := kids) rfl, ld_of g1 (by omega) (v := keys) rfl]
    obtain ⟨kids', h2, e2, q1, q2⟩ := each_spec (m := 2 * d + m + 1) ih (hk.kp k1.kp) (by have := hsm.1; omega)
    rw [show 2 * (d + 1) + m = 2 * d + m + 1 + 1 by omega, e2]
    simp only [cl_s]
    have n2 := q2.1
    have g1' : h2.get h.n = some (.cells false 43 [.i k, .i z, .str a t, kids, keys]) := (q2.2 _ (by omega)).trans g1
    have hflat : flat keys = true := by rcases hq with ⟨rfl, _⟩ | ⟨_, _, _, _, _, _, rfl, _⟩ <;> rfl
    rw [ld_of g1' (by omega) (v := keys) rfl, veq_flat hflat]
    have hq2 : QR G h2 keys qs := hq.upd (fun _ g _ => g) (fun b ro fz cs _ hb hg _ => by rw [q2.2 b (by omega), k1.2 b hb]; exact hg) (by omega)
    obtain ⟨keys', h3, e3, r1, r2⟩ := keys_spec (m := 2 * d + m + 1) hq2 (by have := hsm.2; omega)
    rw [e3]
    simp only [cl_s]
    have n3 := r2.1
    have g1'' : h3.get h.n = some (.cells false 43 [.i k, .i z, .str a t, kids, keys]) := (r2.2 _ (by omega)).trans g1'
    have g2'' : h3.get (h.n + 1) = some (.cells false 43 [.i (Int.ofNat 0), .i (Int.ofNat 0), .str 0 0, .nils, .nils]) := (r2.2 _ (by omega)).trans ((q2.2 _ (by omega)).trans g2)
    have o1 : isOne kids' = true := by rcases q1 with ⟨rfl, _⟩ | ⟨_, _, rfl, _⟩ <;> rfl
    have o2 : isOne keys' = true := by rcases r1 with ⟨rfl, _⟩ | ⟨_, _, _, _, _, _, rfl, _⟩ <;> rfl
    rw [st_of g1'' (by omega) o1 (by simp)]
    rw [st_of (H.get_put_self _ _ _) (by rw [H.n_put]; omega) o2 (by simp)]
    rw [ldN_all (n := 5) (H.get_put_self _ _ _) (by simp only [H.n_put]; omega) rfl]
    rw [stN_all (n := 5) (b := h.n + 1) (l := [.i (Int.ofNat 0), .i (Int.ofNat 0), .str 0 0, .nils, .nils]) (by rw [H.get_put_ne _ _ (by omega), H.get_put_ne _ _ (by omega)]; exact g2'') (by simp only [H.n_put]; omega) rfl rfl]
    rw [ldN_all (n := 5) (H.get_put_self _ _ _) (by simp only [H.n_put]; omega) rfl]
    refine ⟨_, _, rfl, ?_, ?_⟩
    · have hkr : KR d (fun c => h1.n ≤ c) h3 kids' ps := q1.kr.kp r2.kp
      have hpt := KR.pt (d := d) (G := fun c => h1.n ≤ c) hkr (r1.upd (fun c (g : h2.n ≤ c) _ => by omega) (fun _ _ _ _ _ _ hg _ => hg) (Nat.le_refl _)) hsm k z a t
      exact ((hpt.put (by omega) _ (Nat.le_refl _)).put (by omega) _ (Nat.le_refl _)).put (by omega) _ (by omega)
    · exact (((k1.trans q2).trans r2).putN (Nat.le_refl _) _ |>.putN (Nat.le_refl _) _).putN (by omega) _
end GoEv
