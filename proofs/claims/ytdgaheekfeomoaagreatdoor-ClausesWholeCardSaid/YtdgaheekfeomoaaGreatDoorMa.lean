/- The law on the abstract machine: how the maker makes a pattern of the input. -/
import Derived.Test.YtdgaheekfeomoaaGreatDoorEvO
import Derived.Test.YtdgaheekfeomoaaGreatDoorTb
import Derived.Test.YtdgaheekfeomoaaGreatDoorTl
import Derived.KernelRfl
set_option linter.unusedVariables false
set_option linter.unusedSimpArgs false
set_option maxRecDepth 100000
namespace GoEv
open Go (IntKind Value)

/-- only one block is changed -/
def Only (bs : Nat) (h h' : H) : Prop := h.n ≤ h'.n ∧ ∀ b, b < h.n → b ≠ bs → h'.get b = h.get b
theorem Only.refl (bs : Nat) (h : H) : Only bs h h := ⟨Nat.le_refl _, fun _ _ _ => rfl⟩
theorem Only.trans {bs : Nat} {a b c : H} (h1 : Only bs a b) (h2 : Only bs b c) : Only bs a c := ⟨Nat.le_trans h1.1 h2.1, fun k hk hne => (h2.2 k (Nat.lt_of_lt_of_le hk h1.1) hne).trans (h1.2 k hk hne)⟩
theorem Only.put (h : H) (bs : Nat) (x : Blk) : Only bs h (h.put bs x) := ⟨by rw [H.n_put]; exact Nat.le_refl _, fun b _ hne => H.get_put_ne h x hne⟩
theorem Only.push (bs : Nat) (h : H) (x : Blk) : Only bs h (h.push x) := ⟨by rw [H.n_push]; omega, fun b hb _ => H.get_push_lt h x hb⟩
/-- a put of a block that is new since -/
theorem Only.putN {bs : Nat} {h h1 : H} (ho : Only bs h h1) {b : Nat} (hb : h.n ≤ b) (x : Blk) : Only bs h (h1.put b x) := ⟨by rw [H.n_put]; exact ho.1, fun c hc hne => by rw [H.get_put_ne h1 x (by omega)]; exact ho.2 c hc hne⟩
/-- blocks of all but three types are kept -/
def Kp (h h' : H) : Prop := h.n ≤ h'.n ∧ ∀ b ro fz l, b < h.n → h.get b = some (.cells ro fz l) → fz ≠ 49 → fz ≠ 54 → fz ≠ 9 → h'.get b = some (.cells ro fz l)
theorem Kp.refl (h : H) : Kp h h := ⟨Nat.le_refl _, fun _ _ _ _ _ h _ _ _ => h⟩
theorem Kp.trans {a b c : H} (h1 : Kp a b) (h2 : Kp b c) : Kp a c := ⟨Nat.le_trans h1.1 h2.1, fun k ro fz l hk hg a1 a2 a3 => h2.2 k ro fz l (Nat.lt_of_lt_of_le hk h1.1) (h1.2 k ro fz l hk hg a1 a2 a3) a1 a2 a3⟩
theorem Kp.push (h : H) (x : Blk) : Kp h (h.push x) := ⟨by rw [H.n_push]; omega, fun b _ _ _ hb hg _ _ _ => by rw [H.get_push_lt h x hb]; exact hg⟩
theorem Kp.putN {h h1 : H} (ho : Kp h h1) {b : Nat} (hb : h.n ≤ b) (x : Blk) : Kp h (h1.put b x) := ⟨by rw [H.n_put]; exact ho.1, fun c ro fz l hc hg a1 a2 a3 => by rw [H.get_put_ne h1 x (by omega)]; exact ho.2 c ro fz l hc hg a1 a2 a3⟩
theorem Kp.put {h : H} {b : Nat} {x : Blk} {ro : Bool} {fz : Nat} {l : List V} (hg : h.get b = some (.cells ro fz l)) (hf : fz = 49 ∨ fz = 54 ∨ fz = 9) : Kp h (h.put b x) := ⟨by rw [H.n_put]; exact Nat.le_refl _, fun c ro' fz' l' hc hg' a1 a2 a3 => by
  have : c ≠ b := fun e => by subst e; rw [hg] at hg'; cases hg'; rcases hf with h | h | h <;> contradiction
  rw [H.get_put_ne h x this]; exact hg'⟩
theorem Only.fr {bs : Nat} {h h' : H} (ho : Only bs h h') {ro : Bool} {l : List V} (hg : h.get bs = some (.cells ro 49 l)) : Kp h h' := ⟨ho.1, fun b ro' fz l' hb hg' a1 _ _ => by
  rw [ho.2 b hb (fun e => by subst e; rw [hg] at hg'; cases hg'; exact a1 rfl)]; exact hg'⟩
/-- the source of numbers -/
def Src (h : H) (bs : Nat) : Prop := ∃ sl at', h.get bs = some (.cells false 49 [sl, .i at']) ∧ bs < h.n ∧ 0 ≤ at' ∧ at' ≤ 60 ∧
  (sl = .nils ∨ ∃ bl o len cap k cs, sl = .sl bl o len cap 1 k ∧ h.get bl = some (.cells true 0 cs) ∧ bl < h.n ∧ o + len ≤ cs.length ∧ len ≤ 60 ∧ ∀ v ∈ cs, ∃ z, v = .i z)
theorem Src.only {h h' : H} {bs : Nat} (hs : Src h bs) (ho : Only bs h h') (hg : h'.get bs = h.get bs) : Src h' bs := by
  obtain ⟨sl, a, h1, h2, h3, h4, h5⟩ := hs
  refine ⟨sl, a, hg.trans h1, Nat.lt_of_lt_of_le h2 ho.1, h3, h4, ?_⟩
  rcases h5 with rfl | ⟨bl, o, len, cap, k, cs, rfl, g1, g2, g3, g4, g5⟩
  · exact .inl rfl
  · refine .inr ⟨bl, o, len, cap, k, cs, rfl, ?_, Nat.lt_of_lt_of_le g2 ho.1, g3, g4, g5⟩
    rw [ho.2 bl g2 (fun e => by subst e; rw [h1] at g1; cases g1)]; exact g1
theorem Src.lt {h : H} {bs : Nat} (hs : Src h bs) : bs < h.n := by obtain ⟨_, _, _, h2, _⟩ := hs; exact h2
theorem Src.get {h : H} {bs : Nat} (hs : Src h bs) : ∃ l, h.get bs = some (.cells false 49 l) := by obtain ⟨_, _, h1, _⟩ := hs; exact ⟨_, h1⟩
/-- what came before is new or as it was; the source is as it was -/
theorem Src.fr {h h' : H} {bs : Nat} (hs : Src h bs) (hf : Kp h h') (hg : h'.get bs = h.get bs) : Src h' bs := by
  obtain ⟨sl, a, h1, h2, h3, h4, h5⟩ := hs
  refine ⟨sl, a, hg.trans h1, Nat.lt_of_lt_of_le h2 hf.1, h3, h4, ?_⟩
  rcases h5 with rfl | ⟨bl, o, len, cap, k, cs, rfl, g1, g2, g3, g4, g5⟩
  · exact .inl rfl
  · exact .inr ⟨bl, o, len, cap, k, cs, rfl, hf.2 _ _ _ _ g2 g1 (by omega) (by omega) (by omega), Nat.lt_of_lt_of_le g2 hf.1, g3, g4, g5⟩
theorem Src.put {h : H} {bs c : Nat} (hs : Src h bs) (hc : c ≠ bs) {fz : Nat} {l : List V} (hgc : h.get c = some (.cells false fz l)) (x : Blk) : Src (h.put c x) bs := by
  obtain ⟨sl, a, h1, h2, h3, h4, h5⟩ := hs
  refine ⟨sl, a, by rw [H.get_put_ne _ _ (Ne.symm hc)]; exact h1, by rw [H.n_put]; exact h2, h3, h4, ?_⟩
  rcases h5 with rfl | ⟨bl, o, len, cap, k, cs, rfl, g1, g2, g3, g4, g5⟩
  · exact .inl rfl
  · exact .inr ⟨bl, o, len, cap, k, cs, rfl, by rw [H.get_put_ne _ _ (fun e => by subst e; rw [hgc] at g1; cases g1)]; exact g1, by rw [H.n_put]; exact g2, g3, g4, g5⟩
theorem ofN (n : Nat) : Int.ofNat n = (n : Int) := rfl
theorem next_spec {S : Sm} {h : H} {bs : Nat} {n : Int} (hs : Src h bs) (h1 : 1 ≤ n) (h2 : n ≤ 1000) : ∃ r h', F9 S [.ptr bs 0, .i n] h = some (.i r, h') ∧ 0 ≤ r ∧ r < n ∧ Only bs h h' ∧ Src h' bs := by
  obtain ⟨sl, at', hg, hb, h3, h4, h5⟩ := hs
  have hlt : ltZ n (Int.ofNat 1) = false := by rw [ltZ_eq]; exact decide_eq_false (by rw [ofN]; omega)
  have hsrc : Src h bs := ⟨sl, at', hg, hb, h3, h4, h5⟩
  unfold F9
  simp only [un_c, nl_n, toI_i, hlt, grd_ff, toP_p]
  rw [ld_of hg hb rfl]
  simp only [toI_i]
  rw [ld_of hg hb rfl]
  rcases h5 with rfl | ⟨bl, o, len, cap, k, cs, rfl, g1, g2, g3, g4, g5⟩
  · simp only [ln_nils, toI_i]
    have hle : leZ 0 at' = true := by rw [leZ_eq]; exact decide_eq_true h3
    rw [hle]
    simp only [pkV_f, toB_b, cnd_t]
    exact ⟨0, h, rfl, by omega, by omega, Only.refl _ _, hsrc⟩
  · simp only [ln_sl, toI_i]
    cases hle : leZ (len : Int) at' with
    | true =>
      simp only [pkV_f, toB_b, cnd_t]
      exact ⟨0, h, rfl, by omega, by omega, Only.refl _ _, hsrc⟩
    | false =>
      rw [leZ_eq] at hle
      have hle : ¬ (len : Int) ≤ at' := of_decide_eq_false hle
      simp only [pkV_f, toB_b, cnd_f, toP_p]
      rw [ld_of hg hb rfl, ld_of hg hb rfl]
      simp only [toI_i]
      obtain ⟨i, rfl⟩ := Int.eq_ofNat_of_zero_le h3
      have hi : i < len := by omega
      rw [ix_of hi]
      have hic : o + i * 1 < cs.length := by omega
      obtain ⟨z, hz⟩ := g5 cs[o + i * 1] (List.getElem_mem _)
      rw [ld_of g1 g2 (v := .i z) (by rw [List.getElem?_eq_getElem hic, hz])]
      simp only [toI_i]
      rw [nz_of (by omega), bZ_eq]
      rw [ld_of hg hb rfl]
      simp only [toI_i]
      rw [bW64_of (by rw [addZ_eq, ofN]; omega) (by rw [addZ_eq, ofN]; omega)]
      rw [st_of hg hb rfl (by simp)]
      simp only [jn_e]
      have hm : modZ z n = z.tmod n := modZ_eq _ _
      have hsrc' : Src (h.put bs (.cells false 49 [.sl bl o len cap 1 k, .i (addZ (i : Int) (Int.ofNat 1))])) bs := by
        refine ⟨_, _, H.get_put_self _ _ _, by rw [H.n_put]; exact hb, by rw [addZ_eq, ofN]; omega, by rw [addZ_eq, ofN]; omega, .inr ⟨bl, o, len, cap, k, cs, rfl, ?_, by rw [H.n_put]; exact g2, g3, g4, g5⟩⟩
        rw [H.get_put_ne _ _ (fun e => by subst e; rw [hg] at g1; cases g1)]; exact g1
      cases hneg : ltZ (modZ z n) (Int.ofNat 0) with
      | true =>
        rw [ltZ_eq] at hneg
        have hneg := of_decide_eq_true hneg
        rw [hm] at hneg
        have habs : -n < z.tmod n := by
          have := Int.lt_tmod_of_pos z (show 0 < n by omega)
          omega
        simp only [cnd_t]
        rw [bW64_of (by rw [addZ_eq, hm]; omega) (by rw [addZ_eq, hm, ofN] at *; omega)]
        simp only [un_c]
        exact ⟨_, _, rfl, by rw [addZ_eq, hm]; omega, by rw [addZ_eq, hm]; rw [ofN] at hneg; omega, Only.put _ _ _, hsrc'⟩
      | false =>
        rw [ltZ_eq] at hneg
        have hneg := of_decide_eq_false hneg
        rw [hm] at hneg
        simp only [cnd_f, un_c]
        refine ⟨_, _, rfl, by rw [hm]; rw [ofN] at hneg; omega, by rw [hm]; exact Int.tmod_lt_of_pos z (by omega), Only.put _ _ _, hsrc'⟩
end GoEv
namespace GoEv
open Go (IntKind Value)
theorem setO_z (v a : V) (l : List V) (K : List V → A) : setO v (a :: l) 0 K = K (v :: l) := rfl
theorem setO_s (v a : V) (l : List V) (n : Nat) (K : List V → A) : setO v (a :: l) (n + 1) K = setO v l n (fun t => K (a :: t)) := rfl
theorem one_str (a t : Nat) (K : A) : one (.str a t) K = K := rfl
theorem one_sl (b o l c s : Nat) (k : Bool) (K : A) : one (.sl b o l c s k) K = K := rfl
theorem one_nils (K : A) : one .nils K = K := rfl
theorem one_ptr (b o : Nat) (K : A) : one (.ptr b o) K = K := rfl
/-- a list of texts at a place -/
theorem strs_at {h : H} {b : Nat} {ro : Bool} {fz : Nat} {l : List V} (hg : h.get b = some (.cells ro fz l)) (hb : b < h.n) (hl : ∀ v ∈ l, ∃ a t, v = V.str a t) {n c : Nat} (hn : n ≤ l.length) {k : Bool} {r : Int} (h0 : 0 ≤ r) (hr : r < n) {K : Nat → Nat → A} :
    ∃ a t, (ix (.sl b 0 n c 1 k) 1 r fun p q => ld h p q fun v => toS v K) = K a t := by
  obtain ⟨i, rfl⟩ := Int.eq_ofNat_of_zero_le h0
  have hi : i < n := by omega
  have hic : 0 + i * 1 < l.length := by omega
  obtain ⟨a, t, hv⟩ := hl l[0 + i * 1] (List.getElem_mem _)
  refine ⟨a, t, ?_⟩
  rw [ix_of hi, ld_of hg hb (v := .str a t) (by rw [List.getElem?_eq_getElem hic, hv])]
  rfl
theorem ints_at {h : H} {b : Nat} {ro : Bool} {fz : Nat} {l : List V} (hg : h.get b = some (.cells ro fz l)) (hb : b < h.n) (hl : ∀ v ∈ l, ∃ z, v = V.i z) {n c : Nat} (hn : n ≤ l.length) {k : Bool} {r : Int} (h0 : 0 ≤ r) (hr : r < n) {K : Int → A} :
    ∃ z, (ix (.sl b 0 n c 1 k) 1 r fun p q => ld h p q fun v => toI v K) = K z := by
  obtain ⟨i, rfl⟩ := Int.eq_ofNat_of_zero_le h0
  have hi : i < n := by omega
  have hic : 0 + i * 1 < l.length := by omega
  obtain ⟨z, hv⟩ := hl l[0 + i * 1] (List.getElem_mem _)
  refine ⟨z, ?_⟩
  rw [ix_of hi, ld_of hg hb (v := .i z) (by rw [List.getElem?_eq_getElem hic, hv])]
  rfl
theorem Src.push {h : H} {bs : Nat} (hs : Src h bs) (x : Blk) : Src (h.push x) bs := hs.only (Only.push bs h x) (H.get_push_lt h x hs.lt)
theorem word_spec {S : Sm} (hS : ∀ args h, S 9 args h = F9 S args h) {h : H} {bs : Nat} (hs : Src h bs) : ∃ a t h', F45 S [.ptr bs 0] h = some (.str a t, h') ∧ Only bs h h' ∧ Src h' bs := by
  unfold F45
  simp only [un_c, nl_n, setO_z, setO_s, nB_eq]
  obtain ⟨r, h', e, r0, r1, ho, hs'⟩ := next_spec (S := S) (hs.push (.cells false 9 [.str 0 0, .str 1 115, .str 3 7938168, .str 1 97])) (n := 4) (by omega) (by omega)
  have hg : h'.get h.n = some (.cells false 9 [.str 0 0, .str 1 115, .str 3 7938168, .str 1 97]) := by rw [ho.2 _ (by rw [H.n_push]; omega) (fun e => by have := hs.lt; omega)]; exact H.get_push_self _ _
  have hn : h.n < h'.n := by have := ho.1; rw [H.n_push] at this; omega
  have e' : S 9 [.ptr bs 0, .i (Int.ofNat 4)] (h.push (.cells false 9 [.str 0 0, .str 1 115, .str 3 7938168, .str 1 97])) = some (.i r, h') := by rw [hS]; exact e
  rw [e']
  simp only [cl_s, toI_i]
  obtain ⟨a, t, e2⟩ := strs_at (K := fun n17 n18 => ret (.str n17 n18) h') hg hn (by simp) (n := 4) (c := 4) (k := true) (by simp) r0 r1
  exact ⟨a, t, h', e2, (Only.push bs h _).trans ho, hs'⟩
theorem atom_spec {S : Sm} (hS : ∀ args h, S 9 args h = F9 S args h) {h : H} {bs : Nat} (hs : Src h bs) : ∃ a t h', F24 S [.ptr bs 0] h = some (.str a t, h') ∧ Only bs h h' ∧ Src h' bs := by
  unfold F24
  simp only [un_c, nl_n, setO_z, setO_s, nB_eq]
  obtain ⟨r, h', e, r0, r1, ho, hs'⟩ := next_spec (S := S) (hs.push (.cells false 9 [.str 1 97, .str 1 98, .str 2 27503, .str 5 491496043109])) (n := 4) (by omega) (by omega)
  have hg : h'.get h.n = some (.cells false 9 [.str 1 97, .str 1 98, .str 2 27503, .str 5 491496043109]) := by rw [ho.2 _ (by rw [H.n_push]; omega) (fun e => by have := hs.lt; omega)]; exact H.get_push_self _ _
  have hn : h.n < h'.n := by have := ho.1; rw [H.n_push] at this; omega
  have e' : S 9 [.ptr bs 0, .i (Int.ofNat 4)] (h.push (.cells false 9 [.str 1 97, .str 1 98, .str 2 27503, .str 5 491496043109])) = some (.i r, h') := by rw [hS]; exact e
  rw [e']
  simp only [cl_s, toI_i]
  obtain ⟨a, t, e2⟩ := strs_at (K := fun n17 n18 => ret (.str n17 n18) h') hg hn (by simp) (n := 4) (c := 4) (k := true) (by simp) r0 r1
  exact ⟨a, t, h', e2, (Only.push bs h _).trans ho, hs'⟩
theorem number_spec {S : Sm} (hS : ∀ args h, S 9 args h = F9 S args h) {h : H} {bs : Nat} (hs : Src h bs) : ∃ z h', F23 S [.ptr bs 0] h = some (.i z, h') ∧ Only bs h h' ∧ Src h' bs := by
  unfold F23
  simp only [un_c, nl_n, setO_z, setO_s, nB_eq]
  generalize hl : ([.i (Int.ofNat 0), .i (Int.ofNat 1), .i (Int.negSucc 0), .i (Int.ofNat 2), .i (Int.ofNat 3), .i (Int.negSucc 1), .i (Int.ofNat 7), .i (Int.negSucc 9223372036854775807), .i (Int.ofNat 9223372036854775807), .i (Int.ofNat 10)] : List V) = l
  have hlen : l.length = 10 := by rw [← hl]; rfl
  have hall : ∀ v ∈ l, ∃ z, v = V.i z := by rw [← hl]; simp
  obtain ⟨r, h', e, r0, r1, ho, hs'⟩ := next_spec (S := S) (hs.push (.cells false 2 l)) (n := 10) (by omega) (by omega)
  have hg : h'.get h.n = some (.cells false 2 l) := by rw [ho.2 _ (by rw [H.n_push]; omega) (fun e => by have := hs.lt; omega)]; exact H.get_push_self _ _
  have hn : h.n < h'.n := by have := ho.1; rw [H.n_push] at this; omega
  have e' : S 9 [.ptr bs 0, .i (Int.ofNat 10)] (h.push (.cells false 2 l)) = some (.i r, h') := by rw [hS]; exact e
  rw [e']
  simp only [cl_s, toI_i]
  obtain ⟨z, e2⟩ := ints_at (K := fun z => ret (.i z) h') hg hn hall (n := 10) (c := 10) (k := true) (by omega) r0 r1
  exact ⟨z, h', e2, (Only.push bs h _).trans ho, hs'⟩
theorem key_spec {S : Sm} (hS : ∀ args h, S 9 args h = F9 S args h) (h24 : ∃ S', (∀ args h, S 24 args h = F24 S' args h) ∧ ∀ args h, S' 9 args h = F9 S' args h) (h45 : ∃ S', (∀ args h, S 45 args h = F45 S' args h) ∧ ∀ args h, S' 9 args h = F9 S' args h)
    {h : H} {bs : Nat} (hs : Src h bs) : ∃ z a t h', F25 S [.ptr bs 0] h = some (.agg [.i z, .str a t], h') ∧ Only bs h h' ∧ Src h' bs := by
  obtain ⟨S1, q1, q2⟩ := h24
  obtain ⟨S2, p1, p2⟩ := h45
  unfold F25
  simp only [un_c, nl_n, nB_eq]
  obtain ⟨r, h1, e, r0, r1, ho, hs'⟩ := next_spec (S := S) (hs.push (.cells false 28 [.i (Int.ofNat 0), .str 0 0])) (n := 2) (by omega) (by omega)
  have hlt := hs.lt
  have hg : h1.get h.n = some (.cells false 28 [.i (Int.ofNat 0), .str 0 0]) := by rw [ho.2 _ (by rw [H.n_push]; omega) (fun e => by omega)]; exact H.get_push_self _ _
  have hn : h.n < h1.n := by have := ho.1; rw [H.n_push] at this; omega
  have e' : S 9 [.ptr bs 0, .i (Int.ofNat 2)] (h.push (.cells false 28 [.i (Int.ofNat 0), .str 0 0])) = some (.i r, h1) := by rw [hS]; exact e
  rw [e']
  simp only [cl_s, toI_i]
  have fin : ∀ (h2 : H), Only bs h1 h2 → Src h2 bs → ∀ (z : Int) (a t : Nat), (setO (.i z) [.i (Int.ofNat 0), .str 0 0] 0 fun l14 => setO (.str a t) l14 1 fun l15 => stN h2 h.n 0 2 l15 fun h16 => ldN h16 h.n 0 2 fun l17 => ret (.agg l17) h16) = some (.agg [.i z, .str a t], h2.put h.n (.cells false 28 [.i z, .str a t])) ∧ Only bs h (h2.put h.n (.cells false 28 [.i z, .str a t])) ∧ Src (h2.put h.n (.cells false 28 [.i z, .str a t])) bs := by
    intro h2 ho2 hs2 z a t
    have hg2 : h2.get h.n = some (.cells false 28 [.i (Int.ofNat 0), .str 0 0]) := by rw [ho2.2 _ hn (by omega)]; exact hg
    have hn2 : h.n < h2.n := Nat.lt_of_lt_of_le hn ho2.1
    simp only [setO_z, setO_s]
    rw [stN_all (n := 2) hg2 hn2 rfl rfl, ldN_all (n := 2) (H.get_put_self _ _ _) (by rw [H.n_put]; exact hn2) rfl]
    refine ⟨rfl, (((Only.push bs h _).trans ho).trans ho2).putN (Nat.le_refl _) _, ?_⟩
    exact hs2.put (by omega) hg2 _
  cases hz : eqZ r (Int.ofNat 0) with
  | true =>
    simp only [cnd_t]
    obtain ⟨a, t, h2, e2, ho2, hs2⟩ := atom_spec q2 hs'
    rw [q1, e2]
    simp only [cl_s, toS_s]
    obtain ⟨f1, f2, f3⟩ := fin h2 ho2 hs2 0 a t
    exact ⟨_, a, t, _, f1, f2, f3⟩
  | false =>
    simp only [cnd_f]
    obtain ⟨a, t, h2, e2, ho2, hs2⟩ := word_spec p2 hs'
    rw [p1, e2]
    simp only [cl_s, toS_s]
    obtain ⟨f1, f2, f3⟩ := fin h2 ho2 hs2 1 a t
    exact ⟨_, a, t, _, f1, f2, f3⟩
/-- the maker: its source and the names that it has used, at most L -/
def Mk (h : H) (bm bs L : Nat) : Prop := ∃ nm, h.get bm = some (.cells false 54 [.ptr bs 0, nm]) ∧ bm < h.n ∧
  (nm = .nils ∨ ∃ bn len cs, nm = .sl bn 0 len len 1 false ∧ h.get bn = some (.cells false 9 cs) ∧ bn < h.n ∧ cs.length = len ∧ len ≤ L ∧ ∀ v ∈ cs, ∃ a t, v = V.str a t)
theorem Mk.lt {h : H} {bm bs L : Nat} (hm : Mk h bm bs L) : bm < h.n := by obtain ⟨_, _, h2, _⟩ := hm; exact h2
theorem Mk.ne {h : H} {bm bs L : Nat} (hm : Mk h bm bs L) (hs : Src h bs) : bm ≠ bs := by
  obtain ⟨_, h1, _⟩ := hm
  obtain ⟨_, h2⟩ := hs.get
  intro e; subst e; rw [h1] at h2; cases h2
theorem Mk.only {h h' : H} {bm bs L : Nat} (hm : Mk h bm bs L) (hs : Src h bs) (ho : Only bs h h') : Mk h' bm bs L := by
  have hne := hm.ne hs
  obtain ⟨nm, h1, h2, h3⟩ := hm
  obtain ⟨l, hl⟩ := hs.get
  refine ⟨nm, (ho.2 _ h2 hne).trans h1, Nat.lt_of_lt_of_le h2 ho.1, ?_⟩
  rcases h3 with rfl | ⟨bn, len, cs, rfl, g1, g2, g3, g4, g5⟩
  · exact .inl rfl
  · exact .inr ⟨bn, len, cs, rfl, (ho.2 _ g2 (fun e => by subst e; rw [hl] at g1; cases g1)).trans g1, Nat.lt_of_lt_of_le g2 ho.1, g3, g4, g5⟩
theorem Mk.push {h : H} {bm bs L : Nat} (hm : Mk h bm bs L) (x : Blk) : Mk (h.push x) bm bs L := by
  obtain ⟨nm, h1, h2, h3⟩ := hm
  refine ⟨nm, (H.get_push_lt h x h2).trans h1, by rw [H.n_push]; omega, ?_⟩
  rcases h3 with rfl | ⟨bn, len, cs, rfl, g1, g2, g3, g4, g5⟩
  · exact .inl rfl
  · exact .inr ⟨bn, len, cs, rfl, (H.get_push_lt h x g2).trans g1, by rw [H.n_push]; omega, g3, g4, g5⟩
/-- a block of another type is written -/
theorem Mk.put {h : H} {bm bs L c : Nat} (hm : Mk h bm bs L) {ro : Bool} {fz : Nat} {l : List V} (hgc : h.get c = some (.cells ro fz l)) (h54 : fz ≠ 54) (h9 : fz ≠ 9) (x : Blk) : Mk (h.put c x) bm bs L := by
  obtain ⟨nm, h1, h2, h3⟩ := hm
  refine ⟨nm, (H.get_put_ne h x (fun e => by subst e; rw [hgc] at h1; cases h1; exact h54 rfl)).trans h1, by rw [H.n_put]; exact h2, ?_⟩
  rcases h3 with rfl | ⟨bn, len, cs, rfl, g1, g2, g3, g4, g5⟩
  · exact .inl rfl
  · exact .inr ⟨bn, len, cs, rfl, (H.get_put_ne h x (fun e => by subst e; rw [hgc] at g1; cases g1; exact h9 rfl)).trans g1, by rw [H.n_put]; exact g2, g3, g4, g5⟩
theorem Mk.le {h : H} {bm bs L L' : Nat} (hm : Mk h bm bs L) (hl : L ≤ L') : Mk h bm bs L' := by
  obtain ⟨nm, h1, h2, h3⟩ := hm
  refine ⟨nm, h1, h2, h3.imp id ?_⟩
  rintro ⟨bn, len, cs, e, g1, g2, g3, g4, g5⟩
  exact ⟨bn, len, cs, e, g1, g2, g3, by omega, g5⟩
theorem name_spec {S : Sm} {h : H} {bm bs L : Nat} (hm : Mk h bm bs L) (hs : Src h bs) (hL : L ≤ 10000) : ∃ a t h', F22 S [.ptr bm 0] h = some (.str a t, h') ∧ Kp h h' ∧ Mk h' bm bs (L + 1) ∧ Src h' bs := by
  have hne := hm.ne hs
  have hmk := hm
  obtain ⟨nm, h1, h2, h3⟩ := hm
  have hslt := hs.lt
  unfold F22
  simp only [un_c, nl_n, setO_z, setO_s, nB_eq, toP_p]
  generalize hl : ([.str 1 88, .str 1 89, .str 1 90, .str 1 87, .str 1 86, .str 1 85] : List V) = l
  have hlen : l.length = 6 := by rw [← hl]; rfl
  have hall : ∀ v ∈ l, ∃ a t, v = V.str a t := by rw [← hl]; simp
  have hp0 : (h.push (.cells false 9 l)).n = h.n + 1 := H.n_push _ _
  have hg1 : (h.push (.cells false 9 l)).get bm = some (.cells false 54 [.ptr bs 0, nm]) := (H.get_push_lt _ _ h2).trans h1
  rw [ld_of hg1 (by omega) (v := nm) rfl]
  have hlnm : ∃ len : Nat, ∀ K : Int → A, ln nm K = K (len : Int) := by
    rcases h3 with rfl | ⟨bn, len, cs, rfl, g1, g2, g3, g4, g5⟩
    · exact ⟨0, fun K => ln_nils K⟩
    · exact ⟨len, fun K => ln_sl _ _ _ _ _ _ K⟩
  obtain ⟨len, hln⟩ := hlnm
  rw [hln, nz_of (by rw [ofN]; omega), bZ_eq]
  have hm6 : modZ (len : Int) (Int.ofNat 6) = ((len % 6 : Nat) : Int) := by rw [modZ_eq, ofN]; exact Int.ofNat_tmod len 6
  rw [hm6]
  obtain ⟨a, t, e2⟩ := strs_at (h := h.push (.cells false 9 l)) (b := h.n) (ro := false) (fz := 9) (l := l) (H.get_push_self _ _) (by omega) hall (n := 6) (c := 6) (k := true) (by omega) (r := ((len % 6 : Nat) : Int)) (by omega) (by omega)
    (K := fun n21 n22 => ld (h.push (.cells false 9 l)) bm (Nat.add 0 1) fun v25 => apd ((h.push (.cells false 9 l)).push (.cells false 9 [.str n21 n22])) v25 (.sl (h.push (.cells false 9 l)).n 0 1 1 1 true) 1 9 fun v29 h30 => st h30 bm (Nat.add 0 1) v29 fun h33 => ret (.str n21 n22) h33)
  rw [e2, ld_of hg1 (by omega) (v := nm) rfl]
  generalize hh2 : (h.push (.cells false 9 l)).push (.cells false 9 [.str a t]) = hB
  have hBn : hB.n = h.n + 2 := by rw [← hh2, H.n_push, H.n_push]
  have hBg : ∀ c, c < h.n → hB.get c = h.get c := fun c hc => by rw [← hh2, H.get_push_lt _ _ (by omega), H.get_push_lt _ _ hc]
  have hB1 : hB.get (h.n + 1) = some (.cells false 9 [.str a t]) := by rw [← hh2, ← hp0]; exact H.get_push_self _ _
  rw [hp0]
  have hkB : Kp h hB := by rw [← hh2]; exact (Kp.push _ _).trans (Kp.push _ _)
  have hsB : Src hB bs := by rw [← hh2]; exact (hs.push _).push _
  rcases h3 with rfl | ⟨bn, len2, cs, rfl, g1, g2, g3, g4, g5⟩
  · rw [apd_nils hB1 (by omega) (by simp) (by omega) (by omega)]
    rw [st_of (b := bm) (o := Nat.add 0 1) (fz := 54) (l := [.ptr bs 0, .nils]) (by rw [H.get_push_lt _ _ (by omega), hBg _ h2]; exact h1) (by rw [H.n_push]; omega) rfl (by simp)]
    refine ⟨a, t, _, rfl, ?_, ?_, ?_⟩
    · exact (hkB.trans (Kp.push _ _)).trans (Kp.put (b := bm) (fz := 54) (by rw [H.get_push_lt _ _ (by omega), hBg _ h2]; exact h1) (by omega))
    · refine ⟨.sl hB.n 0 1 1 1 false, H.get_put_self _ _ _, by rw [H.n_put, H.n_push]; omega, .inr ⟨hB.n, 1, [.str a t], rfl, ?_, by rw [H.n_put, H.n_push]; omega, rfl, by omega, by simp⟩⟩
      rw [H.get_put_ne _ _ (by omega), H.get_push_self]; rfl
    · exact (hsB.push _).put hne (by rw [H.get_push_lt _ _ (by omega), hBg _ h2]; exact h1) _
  · have hbn : bn ≠ bm := fun e => by subst e; rw [h1] at g1; cases g1
    have hbs : bn ≠ bs := fun e => by obtain ⟨_, q⟩ := hs.get; subst e; rw [q] at g1; cases g1
    rw [apd_sl hB1 (by omega) (by simp) (by omega) (hBg _ g2 ▸ g1) (by omega) (by omega) (by omega)]
    have hgm : ((hB.put bn .dead).push (.cells false 9 (cs.take (len2 * 1) ++ ([V.str a t].drop 0).take (1 * 1)))).get bm = some (.cells false 54 [.ptr bs 0, .sl bn 0 len2 len2 1 false]) := by
      rw [H.get_push_lt _ _ (by rw [H.n_put]; omega), H.get_put_ne _ _ (Ne.symm hbn), hBg _ h2]; exact h1
    rw [st_of (b := bm) (o := Nat.add 0 1) (fz := 54) (l := [.ptr bs 0, .sl bn 0 len2 len2 1 false]) hgm (by rw [H.n_push, H.n_put]; omega) rfl (by simp)]
    refine ⟨a, t, _, rfl, ?_, ?_, ?_⟩
    · exact ((hkB.trans (Kp.put (fz := 9) ((hBg _ g2).trans g1) (by omega))).trans (Kp.push _ _)).trans (Kp.put hgm (by omega))
    · refine ⟨.sl hB.n 0 (len2 + 1) (len2 + 1) 1 false, H.get_put_self _ _ _, by rw [H.n_put, H.n_push, H.n_put]; omega, .inr ⟨hB.n, len2 + 1, cs.take (len2 * 1) ++ ([V.str a t].drop 0).take (1 * 1), rfl, ?_, by rw [H.n_put, H.n_push, H.n_put]; omega, by simp; omega, by omega, ?_⟩⟩
      · rw [H.get_put_ne _ _ (by omega)]
        have := H.get_push_self (hB.put bn .dead) (.cells false 9 (cs.take (len2 * 1) ++ ([V.str a t].drop 0).take (1 * 1)))
        rw [H.n_put] at this; exact this
      · intro v hv
        rcases List.mem_append.1 hv with hv | hv
        · exact g5 v (List.mem_of_mem_take hv)
        · simp at hv; exact ⟨a, t, hv⟩
    · exact ((hsB.put hbs ((hBg _ g2).trans g1) _).push _).put hne hgm _
end GoEv
namespace GoEv
noncomputable def tbl : Tr := tblT (quiet F8) [td28x11611, td28x19469, td28x22270] [td32x5019, td32x17579]
theorem S3 (m : Nat) (args : List V) (h : H) : GoEv.Sem tbl (m + 1) 3 args h = F3 (GoEv.Sem tbl m) args h := by kernel_rfl
theorem S4 (m : Nat) (args : List V) (h : H) : GoEv.Sem tbl (m + 1) 4 args h = F4 (GoEv.Sem tbl m) args h := by kernel_rfl
theorem S5 (m : Nat) (args : List V) (h : H) : GoEv.Sem tbl (m + 1) 5 args h = F5 (GoEv.Sem tbl m) args h := by kernel_rfl
theorem S6 (m : Nat) (args : List V) (h : H) : GoEv.Sem tbl (m + 1) 6 args h = F6 (GoEv.Sem tbl m) args h := by kernel_rfl
theorem S7 (m : Nat) (args : List V) (h : H) : GoEv.Sem tbl (m + 1) 7 args h = F7 (GoEv.Sem tbl m) args h := by kernel_rfl
theorem S8 (m : Nat) (h : H) : GoEv.Sem tbl (m + 1) 8 [] h = some (.bool true, h) := by kernel_rfl
theorem S9 (m : Nat) (args : List V) (h : H) : GoEv.Sem tbl (m + 1) 9 args h = F9 (GoEv.Sem tbl (m + 1)) args h := by kernel_rfl
theorem S10 (m : Nat) (args : List V) (h : H) : GoEv.Sem tbl (m + 1) 10 args h = F10 (GoEv.Sem tbl m) args h := by kernel_rfl
theorem S11 (m : Nat) (args : List V) (h : H) : GoEv.Sem tbl (m + 1) 11 args h = F11 (GoEv.Sem tbl m) args h := by kernel_rfl
theorem S12 (m : Nat) (args : List V) (h : H) : GoEv.Sem tbl (m + 1) 12 args h = F12 (GoEv.Sem tbl m) args h := by kernel_rfl
theorem S13 (m : Nat) (args : List V) (h : H) : GoEv.Sem tbl (m + 1) 13 args h = F13 (GoEv.Sem tbl m) args h := by kernel_rfl
theorem S22 (m : Nat) (args : List V) (h : H) : GoEv.Sem tbl (m + 1) 22 args h = F22 (GoEv.Sem tbl m) args h := by kernel_rfl
theorem S23 (m : Nat) (args : List V) (h : H) : GoEv.Sem tbl (m + 1) 23 args h = F23 (GoEv.Sem tbl m) args h := by kernel_rfl
theorem S24 (m : Nat) (args : List V) (h : H) : GoEv.Sem tbl (m + 1) 24 args h = F24 (GoEv.Sem tbl m) args h := by kernel_rfl
theorem S25 (m : Nat) (args : List V) (h : H) : GoEv.Sem tbl (m + 1) 25 args h = F25 (GoEv.Sem tbl m) args h := by kernel_rfl
theorem S26 (m : Nat) (args : List V) (h : H) : GoEv.Sem tbl (m + 1) 26 args h = F26 (GoEv.Sem tbl m) args h := by kernel_rfl
theorem S45 (m : Nat) (args : List V) (h : H) : GoEv.Sem tbl (m + 1) 45 args h = F45 (GoEv.Sem tbl m) args h := by kernel_rfl
theorem X13 : Nat.beq (X 13) 0 = true := by kernel_rfl
end GoEv
namespace GoEv
open Go (IntKind Value)
theorem apd_slk {h : H} {b' o' l' c' : Nat} {b o n c s : Nat} {k : Bool} {ro ro' : Bool} {fz fz' sz ty : Nat} {cs cs' : List V} {K : V → H → A} (hg : h.get b = some (.cells ro fz cs)) (hb : b < h.n) (hn : o + n * sz ≤ cs.length) (h0 : 0 < n)
    (hg' : h.get b' = some (.cells ro' fz' cs')) (hb' : b' < h.n) (hl : o' + l' * sz ≤ cs'.length) (hc : c' < l' + n) (hs : l' + n ≤ 4294967296) :
    apd h (.sl b' o' l' c' sz true) (.sl b o n c s k) sz ty K = K (.sl h.n 0 (l' + n) (l' + n) sz false) (h.push (.cells false ty ((cs'.drop o').take (l' * sz) ++ (cs.drop o).take (n * sz)))) := by
  show gB h b (fun _ _ cs => tkc cs o (Nat.mul n sz) (fun new => apd2 h (.sl b' o' l' c' sz true) sz ty n new K)) = _
  rw [gB_of hg hb]
  unfold tkc
  rw [len_eq, takeN_eq, dropN_eq]
  have h3 : Nat.mul n sz = n * sz := rfl
  have : ((cs.drop o).take (n * sz)).length = n * sz := by simp; omega
  rw [h3, this]
  have h1 : Nat.beq (n * sz) (n * sz) = true := by rw [beq_eq]; simp
  rw [h1]
  generalize (cs.drop o).take (n * sz) = new
  cases n with
  | zero => omega
  | succ n =>
    show (Bool.casesOn (Nat.ble (n + 1) 4294967296) none (Bool.casesOn (Nat.beq sz sz) none (gB h b' fun ro t cs => fN (Nat.add l' (n + 1)) fun need =>
        Bool.casesOn (Nat.ble need c')
          (tkc cs o' (Nat.mul l' sz) fun old => Bool.casesOn (Nat.ble need 4294967296) none (al h ty (app old new) fun b' h => K (.sl b' 0 need need sz false) h))
          (wr ro (smc (Nat.add o' (Nat.mul l' sz)) new cs fun cs' => pB h b' (.cells ro t cs') fun h => K (.sl b' o' need c' sz true) h)))) : A) = _
    have h4 : Nat.beq sz sz = true := by rw [beq_eq]; simp
    rw [Nat.ble_eq_true_of_le (show n + 1 ≤ 4294967296 by omega), h4]
    show gB h b' _ = _
    rw [gB_of hg' hb', fN_eq]
    have h5 : Nat.ble (Nat.add l' (n + 1)) c' = false := by
      rw [ble_eq]; exact decide_eq_false (by show ¬ l' + (n + 1) ≤ c'; omega)
    rw [h5]
    show tkc cs' o' (Nat.mul l' sz) _ = _
    unfold tkc
    rw [len_eq, takeN_eq, dropN_eq]
    have h6 : Nat.mul l' sz = l' * sz := rfl
    have h7 : ((cs'.drop o').take (l' * sz)).length = l' * sz := by simp; omega
    rw [h6, h7]
    have h8 : Nat.beq (l' * sz) (l' * sz) = true := by rw [beq_eq]; simp
    rw [h8]
    show (Bool.casesOn (Nat.ble (l' + (n + 1)) 4294967296) none _ : A) = _
    rw [Nat.ble_eq_true_of_le hs]
    show al h ty _ _ = _
    rw [al_eq, app_eq]
    rfl
/-- cells that are held against each other by their signs -/
def flat : V → Bool
  | .i _ | .str .. | .nils | .sl .. | .ptr .. | .nilp => true
  | _ => false
theorem nbeq (n : Nat) : Nat.beq n n = true := by rw [beq_eq]; simp
theorem eq0_refl {v : V} (h : flat v = true) : eq0 v v = true := by
  cases v <;> first | (simp [eq0, nbeq]; done) | (exact absurd h (by simp [flat]))
theorem eq1_refl {v : V} (h : flat v = true) : eq1 v v = true := by
  have := eq0_refl h
  cases v <;> first | exact this | (exact absurd h (by simp [flat]))
theorem eqL_refl : ∀ {l : List V}, (∀ v ∈ l, flat v = true) → eqL l l = true
  | [], _ => rfl
  | a :: l, h => by
    show (eq1 a a && eqL l l) = true
    rw [eq1_refl (h a (by simp)), eqL_refl fun v hv => h v (by simp [hv])]; rfl
theorem veq_flat {v : V} {K : A} (h : flat v = true) : veq v v K = K := by
  have : eq2 v v = true := by
    have := eq1_refl h
    cases v <;> first | exact this | (exact absurd h (by simp [flat]))
  unfold veq
  rw [this]
theorem veq_agg {l : List V} {K : A} (h : ∀ v ∈ l, flat v = true) : veq (.agg l) (.agg l) K = K := by
  unfold veq
  have : eq2 (.agg l) (.agg l) = true := eqL_refl h
  rw [this]
/-- names at hand -/
def Nm (h : H) (nm : V) : Prop := nm = .nils ∨ ∃ bn len cap k cs, nm = .sl bn 0 len cap 1 k ∧ (∃ fz, h.get bn = some (.cells false fz cs) ∧ fz ≠ 49 ∧ fz ≠ 31) ∧ bn < h.n ∧ len ≤ cs.length ∧ len ≤ 1000 ∧ ∀ v ∈ cs, ∃ a t, v = V.str a t
theorem Nm.only {h h' : H} {nm : V} {bs : Nat} (hn : Nm h nm) (hs : Src h bs) (ho : Only bs h h') : Nm h' nm := by
  obtain ⟨q, hq⟩ := hs.get
  refine hn.imp id ?_
  rintro ⟨bn, len, cap, k, cs, e, ⟨fz, g1, g2, g3⟩, g4, g5, g6, g7⟩
  exact ⟨bn, len, cap, k, cs, e, ⟨fz, (ho.2 bn g4 (fun e => by subst e; rw [hq] at g1; cases g1; exact g2 rfl)).trans g1, g2, g3⟩, Nat.lt_of_lt_of_le g4 ho.1, g5, g6, g7⟩
theorem fin31 {h hX : H} {bs : Nat} {l0 l : List V} (hs : Src h bs) (ho : Only bs (h.push (.cells false 31 l0)) hX) (h0 : l0.length = 7) (hsX : Src hX bs) (hl : l.length = 7) :
    (stN hX h.n 0 7 l fun h' => ldN h' h.n 0 7 fun l' => ret (.agg l') h') = some (.agg l, hX.put h.n (.cells false 31 l)) ∧ Only bs h (hX.put h.n (.cells false 31 l)) ∧ Src (hX.put h.n (.cells false 31 l)) bs := by
  have hlt := hs.lt
  have hg : hX.get h.n = some (.cells false 31 l0) := (ho.2 _ (by rw [H.n_push]; omega) (by omega)).trans (H.get_push_self _ _)
  have hn : h.n < hX.n := by have := ho.1; rw [H.n_push] at this; omega
  rw [stN_all hg hn h0 hl, ldN_all (H.get_put_self _ _ _) (by rw [H.n_put]; exact hn) hl]
  exact ⟨rfl, ((Only.push bs h _).trans ho).putN (Nat.le_refl _) _, hsX.put (by omega) hg _⟩
theorem h24_of (m : Nat) : ∃ S', (∀ args h, GoEv.Sem tbl (m + 2) 24 args h = F24 S' args h) ∧ ∀ args h, S' 9 args h = F9 S' args h := ⟨_, S24 (m + 1), S9 m⟩
theorem h45_of (m : Nat) : ∃ S', (∀ args h, GoEv.Sem tbl (m + 2) 45 args h = F45 S' args h) ∧ ∀ args h, S' 9 args h = F9 S' args h := ⟨_, S45 (m + 1), S9 m⟩
theorem strs_all {h : H} {b : Nat} {ro : Bool} {fz : Nat} {l : List V} (hg : h.get b = some (.cells ro fz l)) (hb : b < h.n) (hl : ∀ v ∈ l, ∃ a t, v = V.str a t) {n c : Nat} (hn : n ≤ l.length) {k : Bool} {r : Int} (h0 : 0 ≤ r) (hr : r < n) :
    ∃ a t, ∀ K : Nat → Nat → A, (ix (.sl b 0 n c 1 k) 1 r fun p q => ld h p q fun v => toS v K) = K a t := by
  obtain ⟨i, rfl⟩ := Int.eq_ofNat_of_zero_le h0
  have hi : i < n := by omega
  have hic : 0 + i * 1 < l.length := by omega
  obtain ⟨a, t, hv⟩ := hl l[0 + i * 1] (List.getElem_mem _)
  refine ⟨a, t, fun K => ?_⟩
  rw [ix_of hi, ld_of hg hb (v := .str a t) (by rw [List.getElem?_eq_getElem hic, hv])]
  rfl
theorem next_at {m : Nat} {h : H} {bs : Nat} {n : Int} (hs : Src h bs) (h1 : 1 ≤ n) (h2 : n ≤ 1000) : ∃ r h', GoEv.Sem tbl (m + 1) 9 [.ptr bs 0, .i n] h = some (.i r, h') ∧ 0 ≤ r ∧ r < n ∧ Only bs h h' ∧ Src h' bs := by
  rw [S9]; exact next_spec hs h1 h2
theorem number_at {m : Nat} {h : H} {bs : Nat} (hs : Src h bs) : ∃ z h', GoEv.Sem tbl (m + 2) 23 [.ptr bs 0] h = some (.i z, h') ∧ Only bs h h' ∧ Src h' bs := by
  rw [S23]; exact number_spec (S9 m) hs
theorem atom_at {m : Nat} {h : H} {bs : Nat} (hs : Src h bs) : ∃ a t h', GoEv.Sem tbl (m + 2) 24 [.ptr bs 0] h = some (.str a t, h') ∧ Only bs h h' ∧ Src h' bs := by
  rw [S24]; exact atom_spec (S9 m) hs
theorem key_at {m : Nat} {h : H} {bs : Nat} (hs : Src h bs) : ∃ z a t h', GoEv.Sem tbl (m + 3) 25 [.ptr bs 0] h = some (.agg [.i z, .str a t], h') ∧ Only bs h h' ∧ Src h' bs := by
  rw [S25]; exact key_spec (S9 (m + 1)) (h24_of m) (h45_of m) hs
def TestOK (n : Nat) (d : Int) : Prop := ∀ (h : H) (bs : Nat) (nm : V), Src h bs → Nm h nm → ∃ l h', GoEv.Sem tbl n 11 [.ptr bs 0, nm, .i d] h = some (.agg l, h') ∧ l.length = 7 ∧ (∀ v ∈ l, flat v = true) ∧ Only bs h h' ∧ Src h' bs
theorem test_step (d m : Nat) (hd : d ≤ 10) (rec : ∀ d', d = d' + 1 → TestOK (m + 4) d') : TestOK (m + 5) d := by
    intro h bs nm hs hnm
    have hlt := hs.lt
    rw [S11]
    unfold F11
    simp only [un_c, nl_n, nB_eq]
    generalize hl0 : ([.i (Int.ofNat 0), .str 0 0, .i (Int.ofNat 0), .str 0 0, .i (Int.ofNat 0), .str 0 0, .nils] : List V) = l0
    have h0 : l0.length = 7 := by rw [← hl0]; rfl
    have hsP := hs.push (.cells false 31 l0)
    have hnP : Nm (h.push (.cells false 31 l0)) nm := hnm.only hs (Only.push bs h _)
    obtain ⟨r, h1, e1, r0, r1, ho1, hs1⟩ := next_at (m := m + 3) hsP (n := 14) (by omega) (by omega)
    have e1' : GoEv.Sem tbl (m + 4) 9 [.ptr bs 0, .i (Int.ofNat 14)] (h.push (.cells false 31 l0)) = some (.i r, h1) := e1
    rw [e1']
    simp only [cl_s, toI_i]
    have hn1 : Nm h1 nm := hnP.only hsP ho1
    -- the way out
    have out : ∀ (hX : H), Only bs h1 hX → Src hX bs → ∀ l : List V, l.length = 7 → (∀ v ∈ l, flat v = true) → ∃ l' h', (stN hX h.n 0 7 l fun h' => ldN h' h.n 0 7 fun l' => ret (.agg l') h') = some (.agg l', h') ∧ l'.length = 7 ∧ (∀ v ∈ l', flat v = true) ∧ Only bs h h' ∧ Src h' bs := by
      intro hX ho hsX l hl hf
      obtain ⟨f1, f2, f3⟩ := fin31 hs (ho1.trans ho) h0 hsX hl
      exact ⟨l, _, f1, hl, hf, f2, f3⟩
    rcases hn1 with rfl | ⟨bn, len, cap, k, cs, rfl, ⟨fz, g1, g2, g3⟩, g4, g5, g6, g7⟩
    · simp only [ln_nils]
      have hz : eqZ 0 (Int.ofNat 0) = true := by rw [eqZ_eq]; rfl
      rw [hz]
      simp only [grd_tf, pkV_t, toB_b, cnd_t]
      rw [← hl0]
      simp only [setO_z]
      exact out h1 (Only.refl _ _) hs1 _ rfl (by simp [flat])
    · simp only [ln_sl]
      cases hz : eqZ (len : Int) (Int.ofNat 0) with
      | true =>
        simp only [grd_tf, pkV_t, toB_b, cnd_t]
        rw [← hl0]
        simp only [setO_z]
        exact out h1 (Only.refl _ _) hs1 _ rfl (by simp [flat])
      | false =>
        rw [eqZ_eq] at hz
        have hlen : 1 ≤ len := by
          rcases Nat.eq_zero_or_pos len with h | h
          · subst h; cases hz
          · exact h
        simp only [grd_ff, pkV_f, toB_b, toI_i]
        cases hz3 : ltZ r (Int.ofNat 3) with
        | true =>
          simp only [cnd_t]
          rw [← hl0]
          simp only [setO_z]
          exact out h1 (Only.refl _ _) hs1 _ rfl (by simp [flat])
        | false =>
          simp only [cnd_f]
          have leaf : ∃ l' h', (cl (GoEv.Sem tbl (m + 4) 9 [.ptr bs 0, .i (len : Int)] h1) fun v79 h80 => toI v79 fun z81 => ix (.sl bn 0 len cap 1 k) 1 z81 fun n82 n83 => ld h80 n82 n83 fun v84 => toS v84 fun n85 n86 => cl (GoEv.Sem tbl (m + 4) 9 [.ptr bs 0, .i (Int.ofNat 9)] h80) fun v87 h88 => toI v87 fun z89 => cnd (eqZ z89 (Int.ofNat 0)) (setO (.i (Int.ofNat 5)) l0 0 (fun l90 => setO (.str n85 n86) l90 1 fun l91 => stN h88 h.n 0 7 l91 fun h92 => ldN h92 h.n 0 7 fun l93 => ret (.agg l93) h92)) (cnd (eqZ z89 (Int.ofNat 1)) (setO (.i (Int.ofNat 7)) l0 0 (fun l94 => setO (.str n85 n86) l94 1 fun l95 => stN h88 h.n 0 7 l95 fun h96 => ldN h96 h.n 0 7 fun l97 => ret (.agg l97) h96)) (cnd (eqZ z89 (Int.ofNat 2)) (setO (.i (Int.ofNat 9)) l0 0 (fun l98 => setO (.str n85 n86) l98 1 fun l99 => stN h88 h.n 0 7 l99 fun h100 => ldN h100 h.n 0 7 fun l101 => ret (.agg l101) h100)) (cnd (eqZ z89 (Int.ofNat 3)) (cl (GoEv.Sem tbl (m + 4) 9 [.ptr bs 0, .i (Int.ofNat 3)] h88) (fun v102 h103 => toI v102 fun z104 => setO (.i (Int.ofNat 10)) l0 0 fun l105 => setO (.str n85 n86) l105 1 fun l106 => setO (.i z104) l106 2 fun l107 => stN h103 h.n 0 7 l107 fun h108 => ldN h108 h.n 0 7 fun l109 => ret (.agg l109) h108)) (cnd (eqZ z89 (Int.ofNat 4)) (setO (.i (Int.ofNat 11)) l0 0 (fun l110 => setO (.str n85 n86) l110 1 fun l111 => stN h88 h.n 0 7 l111 fun h112 => ldN h112 h.n 0 7 fun l113 => ret (.agg l113) h112)) (cnd (eqZ z89 (Int.ofNat 5)) (cl (GoEv.Sem tbl (m + 4) 9 [.ptr bs 0, .i (Int.ofNat 3)] h88) (fun v114 h115 => toI v114 fun z116 => setO (.i (Int.ofNat 12)) l0 0 fun l117 => setO (.str n85 n86) l117 1 fun l118 => setO (.i z116) l118 2 fun l119 => stN h115 h.n 0 7 l119 fun h120 => ldN h120 h.n 0 7 fun l121 => ret (.agg l121) h120)) (cnd (eqZ z89 (Int.ofNat 6)) (cl (GoEv.Sem tbl (m + 4) 23 [.ptr bs 0] h88) (fun v122 h123 => toI v122 fun z124 => setO (.i (Int.ofNat 16)) l0 0 fun l125 => setO (.str n85 n86) l125 1 fun l126 => setO (.i z124) l126 2 fun l127 => stN h123 h.n 0 7 l127 fun h128 => ldN h128 h.n 0 7 fun l129 => ret (.agg l129) h128)) (cnd (eqZ z89 (Int.ofNat 7)) (cl (GoEv.Sem tbl (m + 4) 24 [.ptr bs 0] h88) (fun v130 h131 => toS v130 fun n132 n133 => setO (.i (Int.ofNat 15)) l0 0 fun l134 => setO (.str n85 n86) l134 1 fun l135 => setO (.str n132 n133) l135 3 fun l136 => stN h131 h.n 0 7 l136 fun h137 => ldN h137 h.n 0 7 fun l138 => ret (.agg l138) h137)) (cl (GoEv.Sem tbl (m + 4) 25 [.ptr bs 0] h88) (fun v139 h140 => toA v139 fun l141 => setO (.i (Int.ofNat 17)) l0 0 fun l142 => setO (.str n85 n86) l142 1 fun l143 => lnc l141 2 (smc 4 l141 l143 (fun l144 => stN h140 h.n 0 7 l144 fun h145 => ldN h145 h.n 0 7 fun l146 => ret (.agg l146) h145)))))))))))) = some (.agg l', h') ∧ l'.length = 7 ∧ (∀ v ∈ l', flat v = true) ∧ Only bs h h' ∧ Src h' bs := by
            obtain ⟨r2, h2, e2, p0, p1, ho2, hs2⟩ := next_at (m := m + 3) hs1 (n := (len : Int)) (by omega) (by omega)
            rw [e2]
            simp only [cl_s, toI_i]
            have hbn : bn ≠ bs := fun e => by obtain ⟨q, hq⟩ := hs1.get; subst e; rw [hq] at g1; cases g1; exact g2 rfl
            obtain ⟨a, t, e3⟩ := strs_all ((ho2.2 bn g4 hbn).trans g1) (Nat.lt_of_lt_of_le g4 ho2.1) g7 (n := len) (c := cap) (k := k) g5 p0 (by omega)
            rw [e3]
            obtain ⟨r3, h3, e4, _, _, ho3, hs3⟩ := next_at (m := m + 3) hs2 (n := 9) (by omega) (by omega)
            have e4' : GoEv.Sem tbl (m + 4) 9 [.ptr bs 0, .i (Int.ofNat 9)] h2 = some (.i r3, h3) := e4
            rw [e4']
            simp only [cl_s, toI_i]
            have ho := ho2.trans ho3
            rw [← hl0]
            simp only [setO_z, setO_s]
            have cs : ∀ (b : Bool) (x y : A) (Q : A → Prop), Q x → Q y → Q (cnd b x y) := fun b x y Q hx hy => by cases b <;> assumption
            refine cs _ _ _ (fun z => ∃ l' h', z = some (.agg l', h') ∧ l'.length = 7 ∧ (∀ v ∈ l', flat v = true) ∧ Only bs h h' ∧ Src h' bs) (out h3 ho hs3 _ rfl (by simp [flat])) ?_
            refine cs _ _ _ (fun z => ∃ l' h', z = some (.agg l', h') ∧ l'.length = 7 ∧ (∀ v ∈ l', flat v = true) ∧ Only bs h h' ∧ Src h' bs) (out h3 ho hs3 _ rfl (by simp [flat])) ?_
            refine cs _ _ _ (fun z => ∃ l' h', z = some (.agg l', h') ∧ l'.length = 7 ∧ (∀ v ∈ l', flat v = true) ∧ Only bs h h' ∧ Src h' bs) (out h3 ho hs3 _ rfl (by simp [flat])) ?_
            have n3 : ∃ r4 h4, GoEv.Sem tbl (m + 4) 9 [.ptr bs 0, .i (Int.ofNat 3)] h3 = some (.i r4, h4) ∧ Only bs h3 h4 ∧ Src h4 bs := by
              obtain ⟨r4, h4, e5, _, _, ho4, hs4⟩ := next_at (m := m + 3) hs3 (n := 3) (by omega) (by omega)
              exact ⟨r4, h4, e5, ho4, hs4⟩
            obtain ⟨r4, h4, e5, ho4, hs4⟩ := n3
            rw [e5]
            simp only [cl_s, toI_i]
            refine cs _ _ _ (fun z => ∃ l' h', z = some (.agg l', h') ∧ l'.length = 7 ∧ (∀ v ∈ l', flat v = true) ∧ Only bs h h' ∧ Src h' bs) (out h4 (ho.trans ho4) hs4 _ rfl (by simp [flat])) ?_
            refine cs _ _ _ (fun z => ∃ l' h', z = some (.agg l', h') ∧ l'.length = 7 ∧ (∀ v ∈ l', flat v = true) ∧ Only bs h h' ∧ Src h' bs) (out h3 ho hs3 _ rfl (by simp [flat])) ?_
            refine cs _ _ _ (fun z => ∃ l' h', z = some (.agg l', h') ∧ l'.length = 7 ∧ (∀ v ∈ l', flat v = true) ∧ Only bs h h' ∧ Src h' bs) (out h4 (ho.trans ho4) hs4 _ rfl (by simp [flat])) ?_
            obtain ⟨z5, h5, e6, ho5, hs5⟩ := number_at (m := m + 2) hs3
            rw [e6]
            simp only [cl_s, toI_i]
            refine cs _ _ _ (fun z => ∃ l' h', z = some (.agg l', h') ∧ l'.length = 7 ∧ (∀ v ∈ l', flat v = true) ∧ Only bs h h' ∧ Src h' bs) (out h5 (ho.trans ho5) hs5 _ rfl (by simp [flat])) ?_
            obtain ⟨a6, t6, h6, e7, ho6, hs6⟩ := atom_at (m := m + 2) hs3
            rw [e7]
            simp only [cl_s, toS_s]
            refine cs _ _ _ (fun z => ∃ l' h', z = some (.agg l', h') ∧ l'.length = 7 ∧ (∀ v ∈ l', flat v = true) ∧ Only bs h h' ∧ Src h' bs) (out h6 (ho.trans ho6) hs6 _ rfl (by simp [flat])) ?_
            obtain ⟨z7, a7, t7, h7, e8, ho7, hs7⟩ := key_at (m := m + 1) hs3
            rw [e8]
            simp only [cl_s, toA_a]
            rw [lnc_of (n := 2) rfl, smc_of (by simp)]
            exact out h7 (ho.trans ho7) hs7 _ rfl (by simp [flat])
          cases hz6 : ltZ r (Int.ofNat 6) with
          | false =>
            simp only [grd_ft, pkV_f, toB_b, cnd_f]
            exact leaf
          | true =>
            simp only [grd_tt, pkV_t, toB_b, toI_i]
            cases hd0 : ltZ (Int.ofNat 0) (d : Int) with
            | false =>
              simp only [cnd_f]
              exact leaf
            | true =>
              rw [ltZ_eq] at hd0
              have hd0 := of_decide_eq_true hd0
              rw [ofN] at hd0
              obtain ⟨d', rfl⟩ : ∃ d', d = d' + 1 := ⟨d - 1, by omega⟩
              simp only [cnd_t]
              rw [bW64_of (by rw [addZ_eq, ofN]; omega) (by rw [addZ_eq, ofN]; omega), bW64_of (by rw [subZ_eq, addZ_eq, ofN, ofN]; omega) (by rw [subZ_eq, addZ_eq, ofN, ofN]; omega), bW64_of (by rw [subZ_eq, ofN]; omega) (by rw [subZ_eq, ofN]; omega)]
              have hsub : subZ ((d' + 1 : Nat) : Int) (Int.ofNat 1) = (d' : Int) := by rw [subZ_eq, ofN]; omega
              rw [hsub]
              have hnm1 : Nm h1 (.sl bn 0 len cap 1 k) := .inr ⟨bn, len, cap, k, cs, rfl, ⟨fz, g1, g2, g3⟩, g4, g5, g6, g7⟩
              obtain ⟨l2, h2, e2, q1, q2, ho2, hs2⟩ := rec d' rfl h1 bs _ hs1 hnm1
              rw [e2]
              simp only [cl_s, toA_a]
              rw [lnc_of q1, smc_all (by rw [q1, h0]), ← hl0]
              simp only [setO_z, setO_s]
              generalize hkind : subZ (addZ (Int.ofNat 2) r) (Int.ofNat 3) = kind
              generalize hp1 : h2.push (.cells false 31 l2) = hA
              generalize hp2 : hA.push (.cells false 31 [.i (Int.ofNat 0), .str 0 0, .i (Int.ofNat 0), .str 0 0, .i (Int.ofNat 0), .str 0 0, .nils]) = hB
              have nA : hA.n = h2.n + 1 := by rw [← hp1, H.n_push]
              have nB' : hB.n = h2.n + 2 := by rw [← hp2, H.n_push, nA]
              have gA : hA.get h2.n = some (.cells false 31 l2) := by rw [← hp1]; exact H.get_push_self _ _
              have gB1 : hB.get h2.n = some (.cells false 31 l2) := by rw [← hp2, H.get_push_lt _ _ (by omega)]; exact gA
              have gB2 : hB.get hA.n = some (.cells false 31 [.i (Int.ofNat 0), .str 0 0, .i (Int.ofNat 0), .str 0 0, .i (Int.ofNat 0), .str 0 0, .nils]) := by rw [← hp2]; exact H.get_push_self _ _
              have oB : Only bs h2 hB := by rw [← hp2, ← hp1]; exact (Only.push _ _ _).trans (Only.push _ _ _)
              have sB : Src hB bs := by rw [← hp2, ← hp1]; exact (hs2.push _).push _
              rw [stN_all (n := 7) gB2 (by omega) rfl rfl]
              generalize hp3 : hB.put hA.n (.cells false 31 [.i kind, .str 0 0, .i (Int.ofNat 0), .str 0 0, .i (Int.ofNat 0), .str 0 0, .sl h2.n 0 1 1 7 true]) = hC
              have nC : hC.n = h2.n + 2 := by rw [← hp3, H.n_put, nB']
              have gC : hC.get hA.n = some (.cells false 31 [.i kind, .str 0 0, .i (Int.ofNat 0), .str 0 0, .i (Int.ofNat 0), .str 0 0, .sl h2.n 0 1 1 7 true]) := by rw [← hp3]; exact H.get_put_self _ _ _
              have gC1 : hC.get h2.n = some (.cells false 31 l2) := by rw [← hp3, H.get_put_ne _ _ (by omega)]; exact gB1
              have hlt2 := hs2.lt
              have oC : Only bs h2 hC := by rw [← hp3]; exact oB.putN (by omega) _
              have sC : Src hC bs := by rw [← hp3]; exact sB.put (by omega) gB2 _
              -- the last step, from wherever
              have last : ∀ (hX : H), Only bs h2 hX → hA.n < hX.n → Src hX bs → ∀ cells : List V, hX.get hA.n = some (.cells false 31 cells) → cells.length = 7 → (∀ v ∈ cells, flat v = true) → ∃ l' h', (ldN hX hA.n 0 7 fun l57 => stN hX h.n 0 7 l57 fun h60 => ldN h60 h.n 0 7 fun l63 => ret (.agg l63) h60) = some (.agg l', h') ∧ l'.length = 7 ∧ (∀ v ∈ l', flat v = true) ∧ Only bs h h' ∧ Src h' bs := by
                intro hX ho hnX hsX cells hgX hl hf
                rw [ldN_all hgX hnX hl]
                exact out hX (ho2.trans ho) hsX _ hl hf
              simp only [jn_e]
              cases hz5 : ltZ r (Int.ofNat 5) with
              | false =>
                simp only [cnd_f, un_c, toP_p]
                exact last hC oC (by omega) sC _ gC rfl (by simp [flat])
              | true =>
                simp only [cnd_t]
                rw [ld_of gC (by omega) (v := .sl h2.n 0 1 1 7 true) rfl]
                try rw [bW64_of (z := (d' : Int)) (by omega) (by omega)]
                have hnm2 : Nm hC (.sl bn 0 len cap 1 k) := (hnm1.only hs1 ho2).only hs2 oC
                obtain ⟨l3, h3, e3, q3, q4, ho3, hs3⟩ := rec d' rfl hC bs _ sC hnm2
                rw [e3]
                simp only [cl_s, toA_a]
                have g3A : h3.get hA.n = some (.cells false 31 [.i kind, .str 0 0, .i (Int.ofNat 0), .str 0 0, .i (Int.ofNat 0), .str 0 0, .sl h2.n 0 1 1 7 true]) := (ho3.2 _ (by omega) (by omega)).trans gC
                have g31 : h3.get h2.n = some (.cells false 31 l2) := (ho3.2 _ (by omega) (by omega)).trans gC1
                have n3 := ho3.1
                rw [ld_of g3A (by omega) (v := .sl h2.n 0 1 1 7 true) rfl, veq_flat rfl, lnc_of q3, smc_all (by rw [q3]; rfl)]
                rw [apd_slk (ro' := false) (fz' := 31) (cs' := l2) (H.get_push_self _ _) (by rw [H.n_push]; omega) (by omega) (by omega) (by rw [H.get_push_lt _ _ (by omega)]; exact g31) (by rw [H.n_push]; omega) (by omega) (by omega) (by omega)]
                generalize hp4 : h3.push (.cells false 31 l3) = hD
                have nD : hD.n = h3.n + 1 := by rw [← hp4, H.n_push]
                have oD : Only bs h3 hD := by rw [← hp4]; exact Only.push _ _ _
                have sD : Src hD bs := by rw [← hp4]; exact hs3.push _
                generalize hp5 : hD.push (.cells false 31 ((l2.drop 0).take (1 * 7) ++ (l3.drop 0).take (1 * 7))) = hE
                have oE : Only bs h3 hE := by rw [← hp5]; exact oD.trans (Only.push _ _ _)
                have sE : Src hE bs := by rw [← hp5]; exact sD.push _
                have gE : hE.get hA.n = some (.cells false 31 [.i kind, .str 0 0, .i (Int.ofNat 0), .str 0 0, .i (Int.ofNat 0), .str 0 0, .sl h2.n 0 1 1 7 true]) := (oE.2 _ (by omega) (by omega)).trans g3A
                have nE : h3.n ≤ hE.n := oE.1
                rw [st_of gE (by omega) rfl (by simp)]
                simp only [un_c, toP_p]
                exact last _ ((oC.trans (ho3.trans oE)).putN (by omega) _) (by rw [H.n_put]; omega) (sE.put (by omega) gE _) _ (H.get_put_self _ _ _) rfl (by simp [flat])
theorem test_spec : ∀ (d m : Nat), d ≤ 10 → TestOK (m + d + 5) d
  | 0, m, hd => test_step 0 m hd fun d' h => by omega
  | d + 1, m, hd => by
    rw [show m + (d + 1) + 5 = (m + d + 1) + 5 by omega]
    refine test_step (d + 1) (m + d + 1) hd fun d' h => ?_
    obtain rfl : d = d' := by omega
    rw [show m + d + 1 + 4 = m + d + 5 by omega]
    exact test_spec d m (by omega)
end GoEv
