/- Each operation, each piece of code and each function is sound. -/
import Derived.Test.YtdgaheekfeomoaaGreatDoorEvN
set_option linter.unusedVariables false
set_option linter.unusedSimpArgs false
namespace GoEv
open Go (IntKind Value World Addr MapEntry Program Oper Op Operand Act Exit undef execOp Sem Result TypeId TypeDesc BinOp UnOp)

section
variable {P : Program} {o : Oper} {h : H} {ι : Inj} {w : World} {a : Act} {e : Env} {nt : Nat}

theorem dBin_sound {op : BinOp} {t : TypeId} {x y : Operand} {yt : TypeId} {K : V → A} {r : V × H} (ho : o.op = .binOp op t x y yt) (hh : dBin P op t x y (evA P e x) (evA P e y) K = some r) : ∃ v, K v = some r ∧ GQ P o e nt v := by
  unfold dBin at hh
  split at hh
  · rw [toKd_some] at hh
    obtain ⟨m, hx, hh⟩ := hh
    rw [toKd_some] at hh
    obtain ⟨n, hy, hh⟩ := hh
    exact g_bin_int ho hx hy hh
  · rw [toS_some] at hh
    obtain ⟨l, n, hx, hh⟩ := hh
    rw [toS_some] at hh
    obtain ⟨l2, n2, hy, hh⟩ := hh
    exact g_bin_str ho hx hy hh
  · rename_i hd
    rw [toB_some] at hh
    obtain ⟨m, hx, hh⟩ := hh
    rw [toB_some] at hh
    obtain ⟨n, hy, hh⟩ := hh
    exact g_bin_bool ho (und_eq hd (by simp)) hx hy hh
  · rename_i q hd
    split at hh
    · exact g_bin_nlP ho (und_eq hd (by simp)) hh
    · rw [bif_none] at hh
      obtain ⟨h1, hh⟩ := hh
      have hne : P.cellsOf q ≠ 0 := by
        intro h0; rw [h0] at h1; cases h1
      obtain ⟨i, hi⟩ := info_of_cells hne
      refine g_bin_pEq ho (und_eq hd (by simp)) hi (fun h0 => hne ?_) hh
      simp [Go.Program.cellsOf, hi, h0]
  · rename_i q hd
    split at hh
    · exact g_bin_nlS ho (und_eq hd (by simp)) hh
    · cases hh
  · rename_i q q' hd
    split at hh
    · exact g_bin_nlM ho (und_eq hd (by simp)) hh
    · cases hh
  · rename_i q q' q'' hd
    split at hh
    · exact g_bin_nlF ho (und_eq hd (by simp)) hh
    · cases hh
  · rename_i q hd
    split at hh
    · exact g_bin_nlI ho (und_eq hd (by simp)) hh
    · cases hh
  · exact g_bin_agg ho hh
  · exact g_bin_agg ho hh
  · cases hh
theorem dP_sound {K : V → A} {r : V × H} (hh : dP P o e K = some r) : ∃ v, K v = some r ∧ GQ P o e nt v := by
  unfold dP at hh
  split at hh
  · rename_i x ho
    exact ⟨_, hh, fun h ι w a hr he => g_move (.inl ho) hr he⟩
  · rename_i x ho
    exact ⟨_, hh, fun h ι w a hr he => g_move (.inr ho) hr he⟩
  · rename_i c x y ho
    rw [toB_some] at hh
    obtain ⟨z, hz, hh⟩ := hh
    exact ⟨_, opn_some hh, fun h ι w a hr he => g_pick ho hz hr he⟩
  · rename_i t parts ho
    split at hh
    · rename_i fs hd
      rw [bif_none, sob_some] at hh
      obtain ⟨hall, z, hz, hh⟩ := hh
      refine g_build_struct ho (und_eq hd (by simp)) (fun f hf => ?_) hz hh
      obtain ⟨_, i, _, hi⟩ := hasInfo_some (List.all_eq_true.1 hall f (by simpa using hf))
      exact ⟨i, hi⟩
    · rename_i n el hd
      rw [bif_none, sob_some] at hh
      obtain ⟨hel, z, hz, hh⟩ := hh
      obtain ⟨_, i, _, hi⟩ := hasInfo_some hel
      exact g_build_array ho (und_eq hd (by simp)) hi hz hh
    · cases hh
  · rename_i x ho
    rw [toP_some] at hh
    obtain ⟨b, o', hx, hh⟩ := hh
    exact ⟨_, hh, fun h ι w a hr he => g_nilCheck ho hx hr he⟩
  · rename_i op t x y yt ho
    split at hh
    · exact g_shift ho hh
    · exact g_shift ho hh
    · exact dBin_sound ho hh
  · rename_i u t x ho
    split at hh
    · rw [toB_some] at hh
      obtain ⟨z, hx, hh⟩ := hh
      exact ⟨_, hh, fun h ι w a hr he => g_not ho hx hr he⟩
    · rw [toKd_some] at hh
      obtain ⟨z, hx, hh⟩ := hh
      rw [wrapK_eq] at hh
      exact ⟨_, hh, fun h ι w a hr he => g_neg ho hx hr he⟩
    · rw [toKd_some] at hh
      obtain ⟨z, hx, hh⟩ := hh
      rw [wrapK_eq] at hh
      exact ⟨_, hh, fun h ι w a hr he => g_xor ho hx hr he⟩
    · cases hh
  · rename_i s d x ho
    split at hh
    · rename_i hs hd
      rw [toKd_some] at hh
      obtain ⟨z, hx, hh⟩ := hh
      rw [wrapK_eq] at hh
      exact ⟨_, hh, fun h ι w a hr he => g_conv_int ho (und_eq hs (by simp)) (und_eq hd (by simp)) hx hr he⟩
    · rename_i hs hd
      rw [toS_some] at hh
      obtain ⟨l, n, hx, hh⟩ := hh
      exact ⟨_, hh, fun h ι w a hr he => g_conv_str ho (und_eq hs (by simp)) (und_eq hd (by simp)) hx hr he⟩
    · cases hh
  · rename_i t x ho
    split at hh
    · cases hh
    · cases hh
    · rename_i h1 h2
      rw [one_some] at hh
      refine ⟨_, hh.2, fun h ι w a hr he => g_iface ho (d := und P t) (und_eq rfl h2) h1 hr he⟩
  · rename_i f x y ho
    exact ⟨_, hh, fun h ι w a hr he => g_fn ho hr he⟩
  · rename_i t x lo hi mx ho
    split at hh
    · rename_i hd
      split at hh
      · rw [toS_some] at hh
        obtain ⟨l, n, hx, hh⟩ := hh
        obtain ⟨zl, hh, h1⟩ := bndO_some (nt := nt) hh
        obtain ⟨zh, hh, h2⟩ := bndO_some (nt := nt) hh
        obtain ⟨l', n', h3, h4⟩ := g_slice_str ho (und_eq hd (by simp)) hx h1 h2 hh
        exact ⟨_, h3, h4⟩
      · cases hh
    · rename_i el hd
      rw [bif_none] at hh
      obtain ⟨hel, hh⟩ := hh
      obtain ⟨_, i, _, hi'⟩ := hasInfo_some hel
      obtain ⟨zl, hh, h1⟩ := bndO_some (nt := nt) hh
      obtain ⟨zh, hh, h2⟩ := bndO_some (nt := nt) hh
      obtain ⟨zm, hh, h3⟩ := bndO_some (nt := nt) hh
      exact g_slice ho (und_eq hd (by simp)) ⟨i, hi'⟩ h1 h2 h3 hh
    · cases hh
  · rename_i t x f ho
    split at hh
    · rename_i off n ft hf
      rw [bif_none', beq_eq, toP_some] at hh
      obtain ⟨h1, b, o', hx, hh⟩ := hh
      exact ⟨_, hh, fun h ι w a hr he => g_fieldAddr ho hf (of_decide_eq_false h1) hx hr he⟩
    · cases hh
  · rename_i t x f ho
    split at hh
    · rename_i off n ft hf
      rw [toA_some] at hh
      obtain ⟨l, hx, hh⟩ := hh
      cases hag : isAg P ft with
      | true =>
        rw [hag, cd_true, tkc_some] at hh
        exact ⟨_, hh.2, fun h ι w a hr he => g_field_agg ho hf hx hag hr he⟩
      | false =>
        rw [hag, cd_false, bif_none, nth_eq, ob_some] at hh
        obtain ⟨h1, v, h2, h3⟩ := hh
        obtain ⟨d, i, hd, hi⟩ := hasInfo_some h1
        exact ⟨_, opn_some h3, fun h ι w a hr he => g_field_one ho hf hx hd hag h2 hr he⟩
    · cases hh
  · rename_i t x i ho
    split at hh
    · rename_i el hd
      rw [bif_none, toZ_some] at hh
      obtain ⟨h1, n, hy, hh⟩ := hh
      rw [ix_some] at hh
      obtain ⟨b, o', l, c, s', ck, k, hx, rfl, hk, hh⟩ := hh
      obtain ⟨_, i, _, hi⟩ := hasInfo_some h1
      exact ⟨_, hh, fun h ι w a hr he => g_indexAddr_slice ho (und_eq hd (by simp)) ⟨i, hi⟩ hx hy hk hr he⟩
    · rename_i n el hd
      rw [bif_none, toZ_some] at hh
      obtain ⟨h1, m, hy, hh⟩ := hh
      rw [toP_some] at hh
      obtain ⟨b, o', hx, hh⟩ := hh
      rw [ixA_some] at hh
      obtain ⟨k, rfl, hk, hh⟩ := hh
      obtain ⟨_, i, _, hi⟩ := hasInfo_some h1
      exact ⟨_, hh, fun h ι w a hr he => g_indexAddr_array ho (und_eq hd (by simp)) ⟨i, hi⟩ hx hy hk hr he⟩
    · cases hh
  · rename_i t x i ho
    split at hh
    · rename_i hd
      rw [toZ_some] at hh
      obtain ⟨m, hy, hh⟩ := hh
      rw [toS_some] at hh
      obtain ⟨l, n, hx, hh⟩ := hh
      rw [sIdx_some] at hh
      obtain ⟨k, rfl, hk, hh⟩ := hh
      exact ⟨_, hh, fun h ι w a hr he => g_index_string ho (und_eq hd (by simp)) hx hy hk hr he⟩
    · cases hh
  · rename_i x i ho
    rw [toT_some] at hh
    obtain ⟨l, hx, hh⟩ := hh
    rw [nth_eq, ob_some] at hh
    obtain ⟨v, h1, h2⟩ := hh
    exact ⟨_, opn_some h2, fun h ι w a hr he => g_extract ho hx h1 hr he⟩
  · rename_i c ho
    split at hh
    · rename_i hc
      split at hh
      · rename_i t x ht hx
        split at hh
        · rename_i hd
          rw [toS_some] at hh
          obtain ⟨l, n, hv, hh⟩ := hh
          exact ⟨_, hh, fun h ι w a hr he => g_len_str ho hc ht hx (und_eq hd (by simp)) hv hr he⟩
        · rename_i el hd
          unfold ln at hh
          rw [toSl_some] at hh
          rcases hh with ⟨b, o', l, c', s', k, hv, hh⟩ | ⟨hv, hh⟩
          · rw [fN_eq] at hh
            exact ⟨_, hh, fun h ι w a hr he => g_len_slice ho hc ht hx (und_eq hd (by simp)) (.inl ⟨_, _, _, _, _, hv⟩) hr he⟩
          · exact ⟨_, hh, fun h ι w a hr he => g_len_slice ho hc ht hx (und_eq hd (by simp)) (.inr ⟨hv, rfl⟩) hr he⟩
        · cases hh
      · cases hh
    · rename_i hc
      split at hh
      · rename_i t x ht hx
        split at hh
        · rename_i el hd
          exact g_cap ho hc ht hx (und_eq hd (by simp)) hh
        · cases hh
      · cases hh
    · rename_i hc
      split at hh
      · rename_i x y ha
        rw [toI_some] at hh
        obtain ⟨m, hx, hh⟩ := hh
        rw [toI_some] at hh
        obtain ⟨n, hy, hh⟩ := hh
        rw [bZ_eq] at hh
        exact ⟨_, hh, fun h ι w a hr he => g_min ho hc ha hx hy hr he⟩
      · cases hh
    · rename_i hc
      split at hh
      · rename_i x y ha
        rw [toI_some] at hh
        obtain ⟨m, hx, hh⟩ := hh
        rw [toI_some] at hh
        obtain ⟨n, hy, hh⟩ := hh
        rw [bZ_eq] at hh
        exact ⟨_, hh, fun h ι w a hr he => g_max ho hc ha hx hy hr he⟩
      · cases hh
    · rename_i hc
      split at hh
      · rename_i x ha
        exact g_sld ho hc ha hh
      · cases hh
    · cases hh
  · cases hh

theorem dR_sound {K : V → A} {r : V × H} (hh : dR P o e h K = some r) : ∃ v, K v = some r ∧ ∀ h2, Sup h h2 → GR P o e nt h2 v := by
  unfold dR at hh
  split at hh
  · rename_i t x ho
    rw [bif_none, toP_some] at hh
    obtain ⟨hi, b, o', hx, hh⟩ := hh
    obtain ⟨d, i, hd, hi'⟩ := hasInfo_some hi
    cases hag : isAg P t with
    | true =>
      rw [hag, cd_true] at hh
      obtain ⟨hb, ro, fz, l, h1, h2, h3⟩ := ldN_some hh
      exact ⟨_, h3, fun h2' hs ι w a hr he => g_load_agg ho hx hag (by rw [hi']; rfl) (by rw [hs b hb]; exact h1) h2 hr he⟩
    | false =>
      rw [hag, cd_false] at hh
      obtain ⟨hb, ro, fz, l, v, h1, h2, h3⟩ := ld_some hh
      exact ⟨_, opn_some h3, fun h2' hs ι w a hr he => g_load_one ho hx hag hd (by rw [hs b hb]; exact h1) h2 hr he⟩
  · rename_i t x i ok ho
    split at hh
    · rename_i kt el hd
      rw [sob_some] at hh
      obtain ⟨eq, hk, hh⟩ := hh
      rw [sob_some] at hh
      obtain ⟨z, hz, hh⟩ := hh
      exact g_lookup ho (und_eq hd (by simp)) hk hz hh
    · cases hh
  · rename_i s d x ho
    split at hh
    · rename_i el hs hd
      split at hh
      · rename_i he
        exact g_b2s ho (und_eq hs (by simp)) (und_eq hd (by simp)) (und_eq he (by simp)) hh
      · cases hh
    · rename_i t hs hd
      rw [bif_none, ble_eq] at hh
      exact g_p2u ho (und_eq hs (by simp)) (und_eq hd (by simp)) (of_decide_eq_true hh.1) hh.2
    · rename_i t hs hd
      rw [bif_none, ble_eq] at hh
      exact g_u2p ho (und_eq hs (by simp)) (und_eq hd (by simp)) (of_decide_eq_true hh.1) hh.2
    · cases hh
  · rename_i c ho
    split at hh
    · rename_i hc
      split at hh
      · rename_i t x ht hx
        split at hh
        · rename_i kt el hd
          exact g_lenM ho hc ht hx (und_eq hd (by simp)) hh
        · cases hh
      · cases hh
    · cases hh
  · cases hh
theorem dA_sound {K : Blk → (Nat → V) → A} {r : V × H} (hh : dA P o e K = some r) : ∃ x vf, K x vf = some r ∧ GA P o e nt x vf := by
  unfold dA at hh
  split at hh
  · rename_i t ho
    rw [sob_some] at hh
    obtain ⟨z, hz, hh⟩ := hh
    exact ⟨_, _, hh, ga_alloc ho hz⟩
  · rename_i t x ho
    cases hag : isAg P t with
    | true =>
      rw [hag, cd_true, toA_some] at hh
      obtain ⟨l, hx, hh⟩ := hh
      exact ⟨_, _, hh, ga_box_agg ho hx⟩
    | false =>
      rw [hag, cd_false, one_some] at hh
      exact ⟨_, _, hh.2, ga_box_one ho hh.1⟩
  · rename_i t n parts ho
    split at hh
    · rename_i el hd
      rw [bif_none, sob_some] at hh
      obtain ⟨h1, z, hz, hh⟩ := hh
      rw [bif_none] at hh
      obtain ⟨h2, hh⟩ := hh
      rw [Bool.and_eq_true, ble_eq, ble_eq] at h1
      rw [beq_eq] at h2
      exact ga_buildSlice ho (und_eq hd (by simp)) (of_decide_eq_true h1.1) (of_decide_eq_true h1.2) hz (of_decide_eq_true h2) hh
    · cases hh
  · rename_i t ho
    exact ⟨_, _, hh, ga_map ho⟩
  · rename_i t l c ho
    split at hh
    · rename_i el hd
      split at hh
      · rename_i i hi
        rw [bif_none, sob_some, ble_eq] at hh
        obtain ⟨h1, z, hz, hh⟩ := hh
        rw [bif_none, beq_eq, toI_some] at hh
        obtain ⟨h2, m, hl, hh⟩ := hh
        rw [toI_some] at hh
        obtain ⟨n, hc, hh⟩ := hh
        exact ga_makeSlice ho (und_eq hd (by simp)) hi (of_decide_eq_true h1) hz (of_decide_eq_true h2) hl hc hh
      · cases hh
    · cases hh
  · cases hh

/-! ### calls -/
/-- the functions do what S says -/
def SOK (P : Program) (S : Sm) : Prop := ∀ (f : Nat) (args : List V) (h : H) (v : V) (h' : H), S f args h = some (v, h') →
  ∀ (ι : Inj) (w : World) (cargs : Array Value), HR P ι h w → VRs ι args cargs.toList → (∀ g, g < P.globals.size → ∃ room, ι g = some ⟨g, 0, room⟩) →
    Go.Calls P f cargs w fun ex w' => ∃ cv ι', ex = .returned cv ∧ VR ι' v cv ∧ HR P ι' h' w' ∧ Ext h ι w h' ι' w'
theorem good_call {S : Sm} (hS : SOK P S) {f : Nat} {args : List V} {v : V} {h' : H} (hs : S f args h = some (v, h')) {cargs : Array Value} (hrun : (execOp a.eval o).run P w = .ok (.enter f cargs) w) (hargs : VRs ι args cargs.toList) (hr : HR P ι h w) (he : ER P ι e nt a) :
    Good P o h ι w a v h' := by
  intro next Q hn
  unfold Go.Oper.wp
  rw [hrun, Go.Oper.upon_enter]
  refine (hS f args h v h' hs ι w cargs hr hargs he.glob).mono ?_
  rintro ex w' ⟨cv, ι', rfl, h1, h2, h3⟩
  exact hn cv w' ι' h1 h2 h3
theorem dW_sound {X : Nat → Nat} {S : Sm} (hX : XOK P X) (hS : SOK P S) {K : V → H → A} {r : V × H} (hh : dW P X S o e h K = some r) : ∃ v h', K v h' = some r ∧ GW P o e nt h v h' := by
  unfold dW at hh
  split at hh
  · rename_i t x y ho
    rw [toP_some] at hh
    obtain ⟨b, o', hx, hh⟩ := hh
    rw [bif_none] at hh
    obtain ⟨hi, hh⟩ := hh
    obtain ⟨d, i, hd, hi'⟩ := hasInfo_some hi
    cases hag : isAg P t with
    | true =>
      rw [hag, cd_true, toA_some] at hh
      obtain ⟨l, hy, hh⟩ := hh
      rw [stN_some] at hh
      obtain ⟨h1, hh⟩ := hh
      obtain ⟨fz, cs, h2, h3, h4⟩ := stL_some hh
      exact ⟨_, _, h4, fun ι w a hr he => g_store_agg ho hx hy (by rw [hi']; rfl) h1 h2 h3 hr he⟩
    | false =>
      rw [hag, cd_false, bif_none, beq_eq] at hh
      obtain ⟨h1, hh⟩ := hh
      obtain ⟨fz, cs, h2, h3, h4, h5⟩ := st_some hh
      exact ⟨_, _, h5, fun ι w a hr he => g_store_one ho hx h3 (of_decide_eq_true h1) h2 h4 hr he⟩
  · rename_i c ho
    split at hh
    · rename_i f hc
      split at hh
      · rename_i hx
        rw [cl_some] at hh
        obtain ⟨v, h', h1, h2⟩ := hh
        refine ⟨_, _, opn_some h2, fun ι w a hr he => good_call hS h1 (cargs := c.args.map a.eval) ?_ (by simpa using he.evals c.args.toList) hr he⟩
        simp [execOp, ho, Go.resolve, hc, Go.Deferred.ofValue, Go.Act.eval, Go.invoke, hX.enter f hx]
      · rename_i hx
        split at hh
        · rename_i x ha
          exact ⟨_, _, hh, fun ι w a hr he => g_x2 hX ho hc hx ha hr he⟩
        · cases hh
      · rename_i hx
        split at hh
        · rename_i x ha
          rw [toI_some] at hh
          obtain ⟨n, hn, hh⟩ := hh
          exact g_x3 hX ho hc hx ha hn hh
        · cases hh
      · rename_i hx
        split at hh
        · rename_i x y ha
          rw [toS_some] at hh
          obtain ⟨l, n, h1, hh⟩ := hh
          rw [toS_some] at hh
          obtain ⟨l2, n2, h2, hh⟩ := hh
          rw [bZ_eq] at hh
          exact ⟨_, _, hh, fun ι w a hr he => g_x4 hX ho hc hx ha h1 h2 hr he⟩
        · cases hh
      · cases hh
    · rename_i x hne hc
      rw [toF_some] at hh
      obtain ⟨f, fa, fb, hx, hh⟩ := hh
      rw [cnd_none, beq_eq, cl_some] at hh
      obtain ⟨hxf, v, h', h1, h2⟩ := hh
      rw [app_eq, app_eq] at h1
      refine ⟨_, _, opn_some h2, fun ι w a hr he => ?_⟩
      have hv := he.eval x
      rw [hx] at hv; simp only [VR] at hv
      obtain ⟨a', b', hv, h3, h4⟩ := hv
      refine good_call hS h1 (cargs := a' ++ c.args.map a.eval ++ b') ?_ ?_ hr he
      · simp [execOp, ho, Go.resolve, hc, Go.Deferred.ofValue, hv, Go.invoke, hX.enter f (of_decide_eq_true hxf)]
      · have := VRs.append h3 (VRs.append (he.evals c.args.toList) h4)
        simpa using this
    · rename_i hc
      split at hh
      · rename_i t x y t2 h1 h2 h3 h4
        have key : ∀ el d, und P t = .slice el → und P t2 = d → (d = .string ∨ ∃ q, d = .slice q) → (cd (apOk P el) (apd h (evA P e x) (evA P e y) (P.cellsOf el) el K) (none)) = some r → ∃ v h', K v h' = some r ∧ GW P o e nt h v h' := by
          intro el d hd hd2 hdd hq
          rw [bif_none] at hq
          obtain ⟨hq1, hq2⟩ := hq
          unfold apOk at hq1
          split at hq1
          · rename_i i hi
            split at hq1
            · rename_i z hz
              rw [Bool.and_eq_true, Bool.and_eq_true, ble_eq, beq_eq] at hq1
              have hsz : P.cellsOf el = i.size := by simp [Go.Program.cellsOf, hi]
              rw [hsz] at hq2
              exact g_append ho hc h1 h4 h2 h3 (und_eq hd (by simp)) (und_eq hd2 (by rcases hdd with rfl | ⟨q, rfl⟩ <;> simp)) hdd hi hz (fun q hq => oc_sound (List.all_eq_true.1 hq1.1.1 q hq)) (of_decide_eq_true hq1.1.2) (of_decide_eq_true hq1.2) hq2
            · cases hq1
          · cases hq1
        split at hh
        · rename_i el q hd hd2
          exact key _ _ hd hd2 (.inr ⟨_, rfl⟩) hh
        · rename_i el hd hd2
          exact key _ _ hd hd2 (.inl rfl) hh
        · cases hh
      · cases hh
    · rename_i hc
      split at hh
      · rename_i t x y ht ha
        split at hh
        · rename_i el hd
          rw [bif_none, ble_eq] at hh
          exact g_copy ho hc ht ha (und_eq hd (by simp)) (of_decide_eq_true hh.1) hh.2
        · cases hh
      · cases hh
    · rename_i hc
      split at hh
      · rename_i t x ht ha
        split at hh
        · rename_i el hd
          rw [sob_some] at hh
          obtain ⟨z, hz, hh⟩ := hh
          rw [bif_none, Bool.and_eq_true, ble_eq, beq_eq] at hh
          obtain ⟨⟨h1, h2⟩, hh⟩ := hh
          exact g_clear ho hc ht ha (und_eq hd (by simp)) hz (of_decide_eq_true h1) (of_decide_eq_true h2) hh
        · cases hh
      · cases hh
    · rename_i hc
      split at hh
      · rename_i t x y ht ha
        split at hh
        · rename_i el hd
          rw [bif_none, beq_eq, toI_some] at hh
          obtain ⟨h1, n, hy, hh⟩ := hh
          exact g_ust ho hc ht ha (und_eq hd (by simp)) (of_decide_eq_true h1) hy hh
        · cases hh
      · cases hh
    · cases hh
  · rename_i t m k x ho
    split at hh
    · rename_i kt el hd
      rw [sob_some] at hh
      obtain ⟨eq, hk, hh⟩ := hh
      exact g_insert (.inl ho) (und_eq hd (by simp)) hk hh
    · cases hh
  · rename_i t m k x ho
    split at hh
    · rename_i kt el hd
      rw [sob_some] at hh
      obtain ⟨eq, hk, hh⟩ := hh
      exact g_insert (.inr ho) (und_eq hd (by simp)) hk hh
    · cases hh
  · rename_i s d x ho
    split at hh
    · rename_i el hs hd
      split at hh
      · rename_i he
        rw [toS_some] at hh
        obtain ⟨l, n, hx, hh⟩ := hh
        exact g_s2b ho (und_eq hs (by simp)) (und_eq hd (by simp)) (und_eq he (by simp)) hx hh
      · cases hh
    · cases hh
  · cases hh
end
end GoEv
namespace GoEv
open Go (IntKind Value World Addr MapEntry Program Oper Op Operand Act Exit undef execOp Sem Result TypeId TypeDesc BinOp UnOp Code)

noncomputable abbrev dAny (P : Program) (X : Nat → Nat) (S : Sm) (o : Oper) (e : Env) (h : H) (K : V → H → A) : A := match cls P o.op with
  | 0 => dP P o e fun v => K v h
  | 1 => dR P o e h fun v => K v h
  | 2 => dA P o e fun x vf => nB h x fun b h' => K (vf b) h'
  | _ => dW P X S o e h K
/-- the value of a guard -/
abbrev gv (ops : Array Oper) (e : Env) (j : Nat) : V := match (ops[j]?).bind (·.dst) with
  | some t => e t
  | none => .undef
/-- an operation that is run where the guard says so -/
noncomputable def grd (v : V) (want : Bool) (h : H) (R : (V → H → A) → A) (K : V → H → A) : A := match want with
  | true => gd v (K (.tup []) h) fun b => cnd b (R K) (K (.tup []) h)
  | false => gd v (K (.tup []) h) fun b => cnd b (K (.tup []) h) (R K)
noncomputable abbrev dSeq (P : Program) (X : Nat → Nat) (S : Sm) (ops : Array Oper) : List Nat → Env → H → (Env → H → A) → A
  | [], e, h, K => K e h
  | i :: r, e, h, K => match ops[i]? with
    | none => none
    | some o => match o.guard with
      | none => dAny P X S o e h fun v h => dSeq P X S ops r (put e o.dst v) h K
      | some (j, want) => grd (gv ops e j) want h (fun J => dAny P X S o e h J) fun v h => dSeq P X S ops r (put e o.dst v) h K
abbrev dstOK (nt : Nat) (ops : Array Oper) : Bool := ops.toList.all fun o => match o.dst with
  | some d => Nat.blt d nt
  | none => true

section
variable {P : Program} {X : Nat → Nat} {S : Sm} {o : Oper} {h : H} {ι : Inj} {w : World} {a : Act} {e : Env} {nt : Nat}

theorem dAny_sound (hX : XOK P X) (hS : SOK P S) {K : V → H → A} {r : V × H} (hh : dAny P X S o e h K = some r) : ∃ v h', K v h' = some r ∧ GW P o e nt h v h' := by
  unfold dAny at hh
  split at hh
  · obtain ⟨v, h1, h2⟩ := dP_sound (nt := nt) hh
    exact ⟨v, h, h1, fun ι w a hr he => h2 h ι w a hr he⟩
  · obtain ⟨v, h1, h2⟩ := dR_sound (nt := nt) hh
    exact ⟨v, h, h1, h2 h (Sup.refl h)⟩
  · obtain ⟨x, vf, h1, h2⟩ := dA_sound (nt := nt) hh
    rw [nB_eq] at h1
    exact ⟨_, _, h1, fun ι w a hr he => h2.good hr he⟩
  · exact dW_sound hX hS hh
theorem yielded_of (he : ER P ι e nt a) (ops : Array Oper) (j : Nat) :
    (∀ b, gv ops e j = .bool b → Go.yielded ops a.tmps j = some b) ∧ (∀ l, gv ops e j = .tup l → Go.yielded ops a.tmps j = none) := by
  unfold gv Go.yielded
  cases hd : (ops[j]?).bind (·.dst) with
  | none => exact ⟨(fun b hb => nomatch hb), (fun l hl => nomatch hl)⟩
  | some t =>
    constructor
    · intro b hb
      have ht := he.tmp t
      have hb' : e t = .bool b := hb
      rw [hb'] at ht; simp only [VR] at ht
      have : a.tmps[t]? = some (.bool b) := by
        cases hq : a.tmps[t]? with
        | none => simp [hq, undef] at ht
        | some v => simp [hq] at ht; rw [ht]
      simp [this]
    · intro l hl
      have ht := he.tmp t
      have hl' : e t = .tup l := hl
      rw [hl'] at ht; simp only [VR] at ht
      obtain ⟨c, hc, _⟩ := ht
      cases hq : a.tmps[t]? with
      | none => simp [hq]
      | some v => simp [hq] at hc; simp [hq, hc]
/-- what 'grd' chose -/
theorem grd_some {v : V} {want : Bool} {R : (V → H → A) → A} {K : V → H → A} {r : V × H} (hh : grd v want h R K = some r) :
    (v = .bool want ∧ R K = some r) ∨ ((v = .bool (!want) ∨ ∃ l, v = .tup l) ∧ K (.tup []) h = some r) := by
  unfold grd at hh
  cases want <;> simp only [] at hh <;> rw [gd_some] at hh <;> rcases hh with ⟨b, h1, h2⟩ | ⟨l, h1, h2⟩
  · rw [cnd_some] at h2
    rcases h2 with ⟨rfl, h2⟩ | ⟨rfl, h2⟩
    · exact .inr ⟨.inl h1, h2⟩
    · exact .inl ⟨h1, h2⟩
  · exact .inr ⟨.inr ⟨l, h1⟩, h2⟩
  · rw [cnd_some] at h2
    rcases h2 with ⟨rfl, h2⟩ | ⟨rfl, h2⟩
    · exact .inl ⟨h1, h2⟩
    · exact .inr ⟨.inl h1, h2⟩
  · exact .inr ⟨.inr ⟨l, h1⟩, h2⟩
theorem wanted_none (hg : o.guard = none) (y : Nat → Option Bool) : Go.Region.wanted o y = true := by simp [Go.Region.wanted, hg]
theorem wanted_some {j : Nat} {want : Bool} (hg : o.guard = some (j, want)) (y : Nat → Option Bool) : Go.Region.wanted o y = (y j == some want) := by simp [Go.Region.wanted, hg]
theorem VR_undef (ι : Inj) : VR ι (.tup []) undef := by simp only [VR]; exact ⟨#[], rfl, by simp [VRs]⟩
theorem dstOK_get {ops : Array Oper} (hd : dstOK nt ops = true) {i : Nat} (hi : ops[i]? = some o) : ∀ t, o.dst = some t → t < nt := by
  intro t ht
  have := List.all_eq_true.1 hd o (by have := Array.mem_of_getElem? hi; simpa using this)
  rw [ht] at this
  exact Nat.le_of_ble_eq_true this

/-- the states that a call has reached -/
def St (P : Program) (nt : Nat) (h0 : H) (ι0 : Inj) (w0 : World) (e : Env) (h : H) (a : Act) (w : World) : Prop :=
  ∃ ι, HR P ι h w ∧ ER P ι e nt a ∧ Ext h0 ι0 w0 h ι w
theorem St.step {h0 : H} {ι0 : Inj} {w0 : World} (hd0 : ∀ b, h0.n ≤ b → ι0 b = none) {v : V} {h' : H} {next : Act → World → Prop} {Q : Exit → Act → World → Prop} (hg : GW P o e nt h v h') (hdst : ∀ t, o.dst = some t → t < nt) (hs : St P nt h0 ι0 w0 e h a w)
    (hn : ∀ a' w', St P nt h0 ι0 w0 (put e o.dst v) h' a' w' → next a' w') : o.wp P a w next Q := by
  obtain ⟨ι, hr, he, hx⟩ := hs
  refine hg ι w a hr he next Q fun cv w' ι' h1 h2 h3 => hn _ _ ⟨ι', h2, (he.mono h3.sub).put h1 hdst, hx.trans hd0 h3⟩
theorem St.skip {h0 : H} {ι0 : Inj} {w0 : World} (hdst : ∀ t, o.dst = some t → t < nt) (hs : St P nt h0 ι0 w0 e h a w) : St P nt h0 ι0 w0 (put e o.dst (.tup [])) h (a.put o.dst undef) w := by
  obtain ⟨ι, hr, he, hx⟩ := hs
  exact ⟨ι, hr, he.put (VR_undef ι) hdst, hx⟩
theorem dSeq_sound (hX : XOK P X) (hS : SOK P S) {ops : Array Oper} (hops : dstOK nt ops = true) {h0 : H} {ι0 : Inj} {w0 : World} (hd0 : ∀ b, h0.n ≤ b → ι0 b = none) {Q : Exit → Act → World → Prop} {r : V × H} :
    ∀ (l : List Nat) (e : Env) (h : H) (a : Act) (w : World) (K : Env → H → A), dSeq P X S ops l e h K = some r →
      (∀ e h a w, K e h = some r → St P nt h0 ι0 w0 e h a w → Q .normal a w) → St P nt h0 ι0 w0 e h a w → Go.wpOps P ops Q l a w
  | [], e, h, a, w, K, hh, hK, hs => hK e h a w hh hs
  | i :: l, e, h, a, w, K, hh, hK, hs => by
    unfold dSeq at hh
    unfold Go.wpOps
    cases ho : ops[i]? with
    | none => rw [ho] at hh; cases hh
    | some o =>
      rw [ho] at hh
      simp only at hh ⊢
      have hdst := dstOK_get hops ho
      have run : ∀ {K' : V → H → A}, dAny P X S o e h K' = some r → (∀ v h, K' v h = dSeq P X S ops l (put e o.dst v) h K) → o.wp P a w (Go.wpOps P ops Q l) Q := by
        intro K' h1 h2
        obtain ⟨v, h', h3, h4⟩ := dAny_sound (nt := nt) hX hS h1
        rw [h2] at h3
        exact hs.step hd0 h4 hdst fun a' w' hs' => dSeq_sound hX hS hops hd0 l _ _ a' w' K h3 hK hs'
      cases hg : o.guard with
      | none =>
        rw [hg] at hh
        rw [wanted_none hg, if_pos rfl]
        exact .inl (run hh fun _ _ => rfl)
      | some jw =>
        obtain ⟨j, want⟩ := jw
        rw [hg] at hh
        rw [wanted_some hg]
        obtain ⟨ι, hr, he, hx⟩ := hs
        obtain ⟨hy1, hy2⟩ := yielded_of he ops j
        rcases grd_some hh with ⟨h1, h2⟩ | ⟨h1, h2⟩
        · rw [hy1 _ h1]
          simp only [beq_self_eq_true, if_true]
          exact .inl (run h2 fun _ _ => rfl)
        · have : (Go.yielded ops a.tmps j == some want) = false := by
            rcases h1 with h1 | ⟨l, h1⟩
            · rw [hy1 _ h1]; cases want <;> rfl
            · rw [hy2 _ h1]; rfl
          rw [this]
          simp only [if_false, Bool.false_eq_true]
          exact dSeq_sound hX hS hops hd0 l _ _ _ _ K h2 hK (St.skip hdst ⟨ι, hr, he, hx⟩)
end

/-! ### code -/
inductive Hn where
  | lf
  | dr (σ : List Nat)
  | sq (a b : Hn)
  | js (ns : List Nat) (a b : Hn)
  | cn (a b : Hn)
  | bl (a : Hn)
  | jb (ns : List Nat) (a : Hn)
  | lo (ns : List Nat) (a : Hn)
noncomputable def jn (f : List V → H → A) (K : (List V → H → A) → A) : A := K f
noncomputable def lp (n : Nat) (step : (List V → H → A) → List V → H → A) : List V → H → A := Nat.rec (motive := fun _ => List V → H → A) (fun _ _ => none) (fun _ ih => step ih) n
noncomputable abbrev rst : List Nat → List V → Env → (Env → A) → A
  | [], _, e, K => K e
  | n :: ns, l, e, K => un l fun v l' => rst ns l' (upd e n v) K
abbrev e0 : Env := fun _ => .undef
theorem rst_map : ∀ (ns : List Nat) (e e1 : Env) (K : Env → A), ∃ e', rst ns (ns.map e) e1 K = K e' ∧ ∀ t, e' t = e t ∨ e' t = e1 t
  | [], e, e1, K => ⟨e1, rfl, fun t => .inr rfl⟩
  | n :: ns, e, e1, K => by
    obtain ⟨e', h1, h2⟩ := rst_map ns e (upd e1 n (e n)) K
    refine ⟨e', h1, fun t => ?_⟩
    rcases h2 t with h3 | h3
    · exact .inl h3
    · by_cases hn : t = n
      · subst hn; left; rw [h3]; simp [upd]
      · right; rw [h3]
        show (bif Nat.beq t n then e n else e1 t) = e1 t
        rw [beq_eq, decide_eq_false hn]; rfl
noncomputable abbrev dCode (P : Program) (X : Nat → Nat) (S : Sm) (nt : Nat) (D : Array Oper → List Nat → Env → H → (Env → H → A) → A) : Code → Hn → Env → H → (Env → H → A) → (Env → H → A) → (Nat → Env → H → A) → A
  | .skip, _, e, h, n, r, x => n e h
  | .label _, _, e, h, n, r, x => n e h
  | .exit i, _, e, h, n, r, x => x i e h
  | .ret, _, e, h, n, r, x => r e h
  | .region _ ops false, .lf, e, h, n, r, x => cd (dstOK nt ops) (dSeq P X S ops (List.range ops.size) e h n) (none)
  | .region _ ops true, .dr σ, e, h, n, r, x => cd (dstOK nt ops) (D ops σ e h n) (none)
  | .seq a b, .sq p q, e, h, n, r, x => dCode P X S nt D a p e h (fun e h => dCode P X S nt D b q e h n r x) r x
  | .seq a b, .js ns p q, e, h, n, r, x => jn (fun l h => rst ns l e0 fun e => dCode P X S nt D b q e h n r x) fun J => dCode P X S nt D a p e h (fun e h => J (ns.map e) h) r x
  | .cond c a b, .cn p q, e, h, n, r, x => toB (evA P e c) fun z => cnd z (dCode P X S nt D a p e h n r x) (dCode P X S nt D b q e h n r x)
  | .block i b, .bl p, e, h, n, r, x => dCode P X S nt D b p e h n r fun j e h => cd (Nat.beq j i) (n e h) (x j e h)
  | .block i b, .jb ns p, e, h, n, r, x => jn (fun l h => rst ns l e0 fun e => n e h) fun J => dCode P X S nt D b p e h (fun e h => J (ns.map e) h) r fun j e h => cd (Nat.beq j i) (J (ns.map e) h) (x j e h)
  | .loop b, .lo ns p, e, h, n, r, x => lp 1152921504606846976 (fun J l h => rst ns l e0 fun e => dCode P X S nt D b p e h (fun e h => J (ns.map e) h) r x) (ns.map e) h
  | _, _, _, _, _, _, _ => none

section
variable {P : Program} {X : Nat → Nat} {S : Sm} {nt : Nat} {D : Array Oper → List Nat → Env → H → (Env → H → A) → A}
theorem St.rst {h0 : H} {ι0 : Inj} {w0 : World} {e e' : Env} {h : H} {a : Act} {w : World} (hs : St P nt h0 ι0 w0 e h a w) (h1 : ∀ t, e' t = e t ∨ e' t = e0 t) : St P nt h0 ι0 w0 e' h a w := by
  obtain ⟨ι, hr, he, hx⟩ := hs
  refine ⟨ι, hr, ⟨he.size, fun t => ?_, he.glob, he.defers⟩, hx⟩
  rcases h1 t with h2 | h2
  · rw [h2]; exact he.tmp t
  · rw [h2]; simp [e0, VR]
theorem wp_loop_fuel {c : Code} {Q : Exit → Act → World → Prop} {a : Act} {w : World} (I : Nat → Act → World → Prop) (n : Nat) (h₀ : I n a w)
    (round : ∀ n a w, I n a w → c.wp P (Exit.then (fun a' w' => ∃ m, m < n ∧ I m a' w') Q) a w) : (Code.loop c).wp P Q a w := by
  intro b k cs
  have key : ∀ n a w, I n a w →
      ∃ e a' w', Q e a' w' ∧ Go.Arrives P (Go.lone (b.at a (.code c :: .inLoop c :: k)) cs w) b k cs e a' w' := by
    intro n
    induction n using Nat.strongRecOn with
    | _ n ih =>
      intro a w hI
      obtain ⟨e, a₁, w₁, hq, harr⟩ := round n a w hI b (.inLoop c :: k) cs
      cases e with
      | normal =>
        obtain ⟨m, hlt, hI₁⟩ := hq
        obtain ⟨e₂, a₂, w₂, hq₂, harr₂⟩ := ih m hlt a₁ w₁ hI₁
        exact ⟨e₂, a₂, w₂, hq₂, .of_steps (Go.Steps.trans harr (.one Go.step_inLoop)) harr₂⟩
      | exit id => exact ⟨_, a₁, w₁, hq, .pass (x := .inLoop c) rfl (fun _ _ => .inl (by simp)) harr⟩
      | goto l => exact ⟨_, a₁, w₁, hq, .pass (x := .inLoop c) rfl (fun _ _ => .inl (by simp)) harr⟩
      | ret => exact ⟨_, a₁, w₁, hq, .pass (x := .inLoop c) rfl (fun _ _ => .inl (by simp)) harr⟩
      | panic ch => exact ⟨_, a₁, w₁, hq, .pass (x := .inLoop c) rfl (fun _ _ => .inl (by simp)) harr⟩
      | outgrown => exact ⟨_, a₁, w₁, hq, .pass (x := .inLoop c) rfl (fun _ _ => .inl (by simp)) harr⟩
  obtain ⟨e, a', w', hq, harr⟩ := key _ a w h₀
  exact ⟨e, a', w', hq, .of_steps (.one Go.step_loop) harr⟩
/-- regions of free order: what D says comes to pass -/
def DOK (P : Program) (nt : Nat) (D : Array Oper → List Nat → Env → H → (Env → H → A) → A) : Prop :=
  ∀ (h0 : H) (ι0 : Inj) (w0 : World), (∀ b, h0.n ≤ b → ι0 b = none) → ∀ (id : Nat) (ops : Array Oper) (σ : List Nat) (e : Env) (h : H) (K : Env → H → A) (r : V × H) (Q : Exit → Act → World → Prop) (a : Act) (w : World),
    dstOK nt ops = true → D ops σ e h K = some r → (∀ e h a w, K e h = some r → St P nt h0 ι0 w0 e h a w → Q .normal a w) → St P nt h0 ι0 w0 e h a w → (Code.region id ops true).wp P Q a w
theorem dCode_sound (hX : XOK P X) (hS : SOK P S) (hD : DOK P nt D) {h0 : H} {ι0 : Inj} {w0 : World} (hd0 : ∀ b, h0.n ≤ b → ι0 b = none) {r : V × H} :
    ∀ (c : Code) (hn : Hn) (e : Env) (h : H) (kn kr : Env → H → A) (kx : Nat → Env → H → A) (Q : Exit → Act → World → Prop) (a : Act) (w : World), dCode P X S nt D c hn e h kn kr kx = some r →
      (∀ e h a w, kn e h = some r → St P nt h0 ι0 w0 e h a w → Q .normal a w) → (∀ e h a w, kr e h = some r → St P nt h0 ι0 w0 e h a w → Q .ret a w) → (∀ i e h a w, kx i e h = some r → St P nt h0 ι0 w0 e h a w → Q (.exit i) a w) →
      St P nt h0 ι0 w0 e h a w → c.wp P Q a w := by
  intro c
  induction c with
  | skip => intro hn e h kn kr kx Q a w hh h1 h2 h3 hs; exact Go.wp_skip (h1 _ _ _ _ (by simpa [dCode] using hh) hs)
  | label l => intro hn e h kn kr kx Q a w hh h1 h2 h3 hs; exact Go.wp_label (h1 _ _ _ _ (by simpa [dCode] using hh) hs)
  | exit i => intro hn e h kn kr kx Q a w hh h1 h2 h3 hs; exact Go.wp_exit (h3 _ _ _ _ _ (by simpa [dCode] using hh) hs)
  | ret => intro hn e h kn kr kx Q a w hh h1 h2 h3 hs; exact Go.wp_ret (h2 _ _ _ _ (by simpa [dCode] using hh) hs)
  | region id ops d =>
    intro hn e h kn kr kx Q a w hh h1 h2 h3 hs
    cases d with
    | false =>
      cases hn <;> simp only [dCode] at hh <;> first | cases hh | skip
      rw [bif_none] at hh
      exact Go.wp_region (dSeq_sound hX hS hh.1 hd0 _ e h a w kn hh.2 h1 hs)
    | true =>
      cases hn <;> simp only [dCode] at hh <;> first | cases hh | skip
      rw [bif_none] at hh
      exact hD h0 ι0 w0 hd0 id ops _ e h kn r Q a w hh.1 hh.2 h1 hs
  | seq x y ihx ihy =>
    intro hn e h kn kr kx Q a w hh h1 h2 h3 hs
    cases hn <;> simp only [dCode] at hh <;> first | cases hh | skip
    · refine Go.wp_seq (ihx _ e h _ _ _ _ a w hh (fun e h a w h4 hs' => ?_) (fun e h a w h4 hs' => h2 e h a w h4 hs') (fun i e h a w h4 hs' => h3 i e h a w h4 hs') hs)
      exact ihy _ e h _ _ _ _ a w h4 h1 h2 h3 hs'
    · unfold jn at hh
      refine Go.wp_seq (ihx _ e h _ _ _ _ a w hh (fun e h a w h4 hs' => ?_) (fun e h a w h4 hs' => h2 e h a w h4 hs') (fun i e h a w h4 hs' => h3 i e h a w h4 hs') hs)
      rename_i ns p q
      obtain ⟨e', h5, h6⟩ := rst_map ns e e0 (fun e => dCode P X S nt D y q e h kn kr kx)
      have h4' : rst ns (ns.map e) e0 (fun e => dCode P X S nt D y q e h kn kr kx) = some r := h4
      rw [h5] at h4'
      exact ihy _ e' h _ _ _ _ a w h4' h1 h2 h3 (hs'.rst h6)
  | cond c x y ihx ihy =>
    intro hn e h kn kr kx Q a w hh h1 h2 h3 hs
    cases hn <;> simp only [dCode] at hh <;> first | cases hh | skip
    rw [toB_some] at hh
    obtain ⟨z, hz, hh⟩ := hh
    have hc : a.eval c = .bool z := by
      obtain ⟨ι, hr, he, hx⟩ := hs
      have := he.eval c
      rw [hz] at this; simpa only [VR] using this
    rw [cnd_some] at hh
    rcases hh with ⟨rfl, hh⟩ | ⟨rfl, hh⟩
    · exact Go.wp_cond_true hc (ihx _ e h _ _ _ _ a w hh h1 h2 h3 hs)
    · exact Go.wp_cond_false hc (ihy _ e h _ _ _ _ a w hh h1 h2 h3 hs)
  | block i x ih =>
    intro hn e h kn kr kx Q a w hh h1 h2 h3 hs
    cases hn <;> simp only [dCode] at hh <;> first | cases hh | skip
    · refine Go.wp_block (ih _ e h _ _ _ _ a w hh (fun e h a w h4 hs' => h1 e h a w h4 hs') (fun e h a w h4 hs' => h2 e h a w h4 hs') (fun j e h a w h4 hs' => ?_) hs)
      show (if j = i then Q .normal a w else Q (.exit j) a w)
      rw [beq_eq] at h4
      by_cases hj : j = i
      · rw [if_pos hj]; rw [decide_eq_true hj] at h4; exact h1 e h a w h4 hs'
      · rw [if_neg hj]; rw [decide_eq_false hj] at h4; exact h3 j e h a w h4 hs'
    · unfold jn at hh
      rename_i ns p
      have fin : ∀ e h a w, rst ns (ns.map e) e0 (fun e => kn e h) = some r → St P nt h0 ι0 w0 e h a w → Q .normal a w := by
        intro e h a w h4 hs'
        obtain ⟨e', h5, h6⟩ := rst_map ns e e0 (fun e => kn e h)
        rw [h5] at h4
        exact h1 e' h a w h4 (hs'.rst h6)
      refine Go.wp_block (ih _ e h _ _ _ _ a w hh (fun e h a w h4 hs' => fin e h a w h4 hs') (fun e h a w h4 hs' => h2 e h a w h4 hs') (fun j e h a w h4 hs' => ?_) hs)
      show (if j = i then Q .normal a w else Q (.exit j) a w)
      rw [beq_eq] at h4
      by_cases hj : j = i
      · rw [if_pos hj]; rw [decide_eq_true hj] at h4; exact fin e h a w h4 hs'
      · rw [if_neg hj]; rw [decide_eq_false hj] at h4; exact h3 j e h a w h4 hs'
  | loop x ih =>
    intro hn e h kn kr kx Q a w hh h1 h2 h3 hs
    cases hn <;> simp only [dCode] at hh <;> first | cases hh | skip
    rename_i ns p
    let step : (List V → H → A) → List V → H → A := fun J l h => rst ns l e0 fun e => dCode P X S nt D x p e h (fun e h => J (ns.map e) h) kr kx
    refine wp_loop_fuel (fun n a w => ∃ e h, lp n step (ns.map e) h = some r ∧ St P nt h0 ι0 w0 e h a w) _ ⟨e, h, hh, hs⟩ fun n a w hI => ?_
    obtain ⟨e, h, h4, hs'⟩ := hI
    cases n with
    | zero => cases h4
    | succ n =>
      have h5 : rst ns (ns.map e) e0 (fun e => dCode P X S nt D x p e h (fun e h => lp n step (ns.map e) h) kr kx) = some r := h4
      obtain ⟨e', h6, h7⟩ := rst_map ns e e0 (fun e => dCode P X S nt D x p e h (fun e h => lp n step (ns.map e) h) kr kx)
      rw [h6] at h5
      exact ih _ e' h _ _ _ _ a w h5 (fun e h a w h8 hs'' => ⟨n, Nat.lt_succ_self n, e, h, h8, hs''⟩) (fun e h a w h8 hs'' => h2 e h a w h8 hs'') (fun i e h a w h8 hs'' => h3 i e h a w h8 hs'') (hs'.rst h7)
  | _ => intro hn e h kn kr kx Q a w hh; cases hn <;> simp only [dCode] at hh <;> cases hh
end
end GoEv
namespace GoEv
open Go (IntKind Value World Addr MapEntry Program Oper Op Operand Act Exit undef execOp Sem Result TypeId TypeDesc BinOp UnOp Code Func ResultVar)

noncomputable def nl (l : List V) (K : A) : A := List.casesOn l K (fun _ _ => none)
noncomputable abbrev opa : List Nat → List V → Env → (Env → A) → A
  | [], l, e, K => nl l (K e)
  | n :: ns, l, e, K => un l fun v l' => opa ns l' (upd e n v) K
noncomputable abbrev dRes (P : Program) : List ResultVar → Env → H → (List V → A) → A
  | [], e, h, K => K []
  | .tmp t :: r, e, h, K => dRes P r e h fun l => K (e t :: l)
  | .cell p t :: r, e, h, K => cd (hasInfo P t) (toP (e p) fun b o' => cd (isAg P t) (ldN h b o' (P.cellsOf t) fun l => dRes P r e h fun l' => K (.agg l :: l')) (ld h b o' fun v => dRes P r e h fun l' => K (v :: l'))) (none)
abbrev pack : List V → V
  | [v] => v
  | l => .tup l
noncomputable abbrev dRet (P : Program) (rs : List ResultVar) (e : Env) (h : H) : A := dRes P rs e h fun l => ret (pack l) h
noncomputable abbrev dFun (P : Program) (X : Nat → Nat) (D : Sm → Nat → Array Oper → List Nat → Env → H → (Env → H → A) → A) (fn : Func) (c : Code) (hn : Hn) (na : Nat) (S : Sm) (args : List V) (h : H) : A :=
  cd (Nat.ble na fn.ntmps) (opa (List.range na) args e0 fun e => dCode P X S fn.ntmps (D S fn.ntmps) c hn e h (fun e h => dRet P fn.results.toList e h) (fun e h => dRet P fn.results.toList e h) (fun _ _ _ => none)) (none)

section
variable {P : Program} {X : Nat → Nat} {S : Sm} {nt : Nat}
theorem opa_some : ∀ (ns : List Nat) (l : List V) (e : Env) (K : Env → A) (r : V × H), opa ns l e K = some r → l.length = ns.length ∧ ∃ e', K e' = some r ∧ ∀ t, e' t = e t ∨ ∃ i : Nat, ns[i]? = some t ∧ l[i]? = some (e' t)
  | [], l, e, K, r, hh => by
    unfold opa nl at hh
    cases l with
    | nil => exact ⟨rfl, e, hh, fun t => .inl rfl⟩
    | cons _ _ => cases hh
  | n :: ns, l, e, K, r, hh => by
    unfold opa at hh
    rw [un_some] at hh
    obtain ⟨v, l', rfl, hh⟩ := hh
    obtain ⟨h1, e', h2, h3⟩ := opa_some ns l' _ K r hh
    refine ⟨by simp [h1], e', h2, fun t => ?_⟩
    rcases h3 t with h4 | ⟨i, h4, h5⟩
    · by_cases ht : t = n
      · subst ht
        right
        refine ⟨0, rfl, ?_⟩
        rw [h4]; simp [upd]
      · left
        rw [h4]
        show (bif Nat.beq t n then v else e t) = e t
        rw [beq_eq, decide_eq_false ht]; rfl
    · exact .inr ⟨i + 1, by simpa using h4, by simpa using h5⟩
theorem run_loadVar {h : H} {ι : Inj} {w : World} (hr : HR P ι h w) {t : TypeId} {b o' : Nat} {L : Loc} (hL : ι b = some L) (hi : hasInfo P t = true) {r : V × H} {K : V → A}
    (hh : (cd (isAg P t) (ldN h b o' (P.cellsOf t) fun l => K (.agg l)) (ld h b o' fun v => K v)) = some r) :
    ∃ v cv, K v = some r ∧ VR ι v cv ∧ (Go.loadVar t ⟨L.cb, L.base + o', none⟩).run P w = .ok cv w := by
  obtain ⟨d, i, hd, hi'⟩ := hasInfo_some hi
  cases hag : isAg P t with
  | true =>
    rw [hag, cd_true] at hh
    obtain ⟨hb, ro, fz, l, h1, h2, h3⟩ := ldN_some hh
    obtain ⟨cs, g1, g2, g3, g4⟩ := hr.loads hL h1 h2
    obtain ⟨d, hd, hrow⟩ := isAg_true hag
    have hsz : (P.info? t).map (·.size) = some cs.length := by rw [g1]; simp [Go.Program.cellsOf, hi']
    have := Go.run_loadAt_mid w L.cb (L.base + o') t cs d g2 hd hrow hsz
    simp only [Go.Instr.loadAt, Go.Instr.sureAddr] at this
    exact ⟨_, .agg cs.toArray, h3, by simp only [VR]; exact ⟨_, rfl, by simpa using g3, by simpa using g4⟩, by simpa using this⟩
  | false =>
    rw [hag, cd_false] at hh
    obtain ⟨hb, ro, fz, l, v, h1, h2, h3⟩ := ld_some hh
    obtain ⟨cv, g1, g2, g3⟩ := hr.load hL h1 h2
    have hrow := isAg_false hag hd
    exact ⟨v, cv, h3, g2, by simp [Go.loadVar, run_isAgg hd, hrow, g1]⟩
def resOne (tmps : Array Value) : ResultVar → Go.Sem Value
  | .tmp t => pure (tmps.getD t undef)
  | .cell p t => do Go.loadVar t (← Go.asAddr (tmps.getD p undef))
theorem dRes_sound {h : H} {ι : Inj} {w : World} {a : Act} {e : Env} (hr : HR P ι h w) (he : ER P ι e nt a) : ∀ (rs : List ResultVar) (K : List V → A) (r : V × H), dRes P rs e h K = some r →
    ∃ l cs, K l = some r ∧ VRs ι l cs ∧ (rs.mapM (resOne a.tmps)).run P w = .ok cs w
  | [], K, r, hh => ⟨[], [], hh, VRs.nil, rfl⟩
  | .tmp t :: rs, K, r, hh => by
    unfold dRes at hh
    obtain ⟨l, cs, h1, h2, h3⟩ := dRes_sound hr he rs _ r hh
    refine ⟨_, _ :: cs, h1, VRs.cons (he.tmp t) h2, ?_⟩
    have h7 : (resOne a.tmps (.tmp t)).run P w = .ok (a.tmps.getD t undef) w := rfl
    rw [List.mapM_cons, Go.Sem.run_bind, h7]
    simp only [Go.Result.andThen]
    rw [Go.Sem.run_bind, h3]; rfl
  | .cell p t :: rs, K, r, hh => by
    unfold dRes at hh
    rw [bif_none, toP_some] at hh
    obtain ⟨hi, b, o', hp, hh⟩ := hh
    have hv := he.tmp p
    rw [hp] at hv; simp only [VR] at hv
    obtain ⟨L, hL, hv⟩ := hv
    obtain ⟨v, cv, h4, h5, h6⟩ := run_loadVar hr hL hi (K := fun v => dRes P rs e h fun l' => K (v :: l')) hh
    obtain ⟨l, cs, h1, h2, h3⟩ := dRes_sound hr he rs _ r h4
    refine ⟨_, cv :: cs, h1, VRs.cons h5 h2, ?_⟩
    have h7 : (resOne a.tmps (.cell p t)).run P w = .ok cv w := by
      show (do Go.loadVar t (← Go.asAddr (a.tmps.getD p undef)) : Go.Sem Value).run P w = .ok cv w
      rw [hv]; simp [Go.asAddr, h6]
    rw [List.mapM_cons, Go.Sem.run_bind, h7]
    simp only [Go.Result.andThen]
    rw [Go.Sem.run_bind, h3]; rfl
theorem dRet_sound {h : H} {ι : Inj} {w : World} {a : Act} {e : Env} {fn : Func} {v : V} {h' : H} (hr : HR P ι h w) (he : ER P ι e nt a) (hh : dRet P fn.results.toList e h = some (v, h')) :
    h' = h ∧ ∃ cv, (Go.results fn a.tmps).run P w = .ok cv w ∧ VR ι v cv := by
  unfold dRet at hh
  obtain ⟨l, cs, h1, h2, h3⟩ := dRes_sound hr he _ _ _ hh
  simp only [ret, Option.some.injEq, Prod.mk.injEq] at h1
  refine ⟨h1.2.symm, ?_⟩
  have h4 : (Go.results fn a.tmps).run P w = .ok (if h : cs.toArray.size = 1 then cs.toArray[0] else .tuple cs.toArray) w := by
    have h5 : Go.results fn a.tmps = (do let vs ← fn.results.mapM (resOne a.tmps); pure (if h : vs.size = 1 then vs[0] else .tuple vs)) := by
      unfold Go.results
      congr 1
    rw [h5, Go.Sem.run_bind, Array.mapM_eq_mapM_toList, Go.Sem.run_map, h3]
    rfl
  refine ⟨_, h4, ?_⟩
  rw [← h1.1]
  match l, cs, h2 with
  | [], cs, h2 => simp only [VRs] at h2; subst h2; simp only [pack, VR]; exact ⟨#[], rfl, VRs.nil⟩
  | [v], cs, h2 =>
    simp only [VRs] at h2; obtain ⟨x, xs, rfl, h5, rfl⟩ := h2
    simpa [pack] using h5
  | v1 :: v2 :: l, cs, h2 =>
    have hlen := h2.length
    simp only [List.length_cons] at hlen
    have : ¬ (cs.toArray.size = 1) := by simp; omega
    rw [dif_neg this]
    simp only [pack, VR]
    exact ⟨cs.toArray, rfl, h2⟩
theorem dFun_sound {D : Sm → Nat → Array Oper → List Nat → Env → H → (Env → H → A) → A} (hX : XOK P X) (hS : SOK P S) (hD : ∀ nt, DOK P nt (D S nt)) {f : Nat} {fn : Func} {c : Code} {hn : Hn} {na : Nat} (hf : P.funcs[f]? = some fn) (hb : fn.body = some c)
    {args : List V} {h : H} {v : V} {h' : H} (hh : dFun P X D fn c hn na S args h = some (v, h')) {ι : Inj} {w : World} {cargs : Array Value} (hr : HR P ι h w) (ha : VRs ι args cargs.toList) (hg : ∀ g, g < P.globals.size → ∃ room, ι g = some ⟨g, 0, room⟩) :
    Go.Calls P f cargs w fun ex w' => ∃ cv ι', ex = .returned cv ∧ VR ι' v cv ∧ HR P ι' h' w' ∧ Ext h ι w h' ι' w' := by
  unfold dFun at hh
  rw [bif_none, ble_eq] at hh
  obtain ⟨hna, hh⟩ := hh
  have hna := of_decide_eq_true hna
  obtain ⟨h1, e, h2, h3⟩ := opa_some _ _ _ _ _ hh
  have hlen : cargs.size = na := by
    have := ha.length
    simp only [Array.length_toList] at this
    rw [this, h1]; simp
  refine Go.calls_of_wp hf hb ?_
  have he : ER P ι e fn.ntmps { tmps := cargs ++ Array.replicate (fn.ntmps - cargs.size) undef, defers := [] } := by
    refine ⟨by simp; omega, fun t => ?_, hg, rfl⟩
    rcases h3 t with h4 | ⟨i, h4, h5⟩
    · rw [h4]; simp [e0, VR]
    · have hi : i = t := by
        have h6 := List.getElem?_eq_some_iff.1 h4
        obtain ⟨h7, h8⟩ := h6
        simpa using h8
      subst hi
      obtain ⟨x, h6, h7⟩ := ha.get i _ h5
      have hlt : i < cargs.size := by have := (List.getElem?_eq_some_iff.1 h6).1; simpa using this
      have h8 : cargs[i]? = some x := by simpa using h6
      have h9 : (cargs ++ Array.replicate (fn.ntmps - cargs.size) undef)[i]? = some x := by rw [Array.getElem?_append_left hlt]; exact h8
      show VR ι (e i) ((cargs ++ Array.replicate (fn.ntmps - cargs.size) undef).getD i undef)
      simp [h9]
      exact h7
  have fin : ∀ (e : Env) (h1 : H) (a : Act) (w1 : World), dRet P fn.results.toList e h1 = some (v, h') → St P fn.ntmps h ι w e h1 a w1 → a.defers = [] ∧ ∃ cv, (Go.results fn a.tmps).run P w1 = .ok cv w1 ∧ ∃ cv' ι', Go.Ending.returned cv = .returned cv' ∧ VR ι' v cv' ∧ HR P ι' h' w1 ∧ Ext h ι w h' ι' w1 := by
    intro e h1 a w1 h4 ⟨ι1, hr1, he1, hx1⟩
    obtain ⟨rfl, cv, h5, h6⟩ := dRet_sound hr1 he1 h4
    exact ⟨he1.defers, cv, h5, cv, ι1, rfl, h6, hr1, hx1⟩
  exact dCode_sound hX hS (hD _) hr.dom c hn e h _ _ _ _ _ w h2 (fun e h1 a w1 h4 hs => fin e h1 a w1 h4 hs) (fun e h1 a w1 h4 hs => fin e h1 a w1 h4 hs) (fun i e h1 a w1 h4 hs => nomatch h4) ⟨ι, hr, he, Ext.refl _ _ _⟩

/-! ### the table of functions -/
inductive Tr where
  | nl
  | lf (f : Nat) (F : Sm → List V → H → A)
  | nd (k : Nat) (l r : Tr)
noncomputable def Tr.get (t : Tr) (f : Nat) (S : Sm) (args : List V) (h : H) : A :=
  Tr.rec (motive := fun _ => A) none (fun g F => Bool.casesOn (Nat.beq f g) none (F S args h)) (fun k _ _ l r => Bool.casesOn (Nat.ble k f) l r) t
def Tr.All (p : Nat → (Sm → List V → H → A) → Prop) : Tr → Prop
  | .nl => True
  | .lf f F => p f F
  | .nd _ l r => l.All p ∧ r.All p
theorem Tr.get_some {p : Nat → (Sm → List V → H → A) → Prop} {f : Nat} {S : Sm} {args : List V} {h : H} {r : V × H} : ∀ {t : Tr}, t.All p → t.get f S args h = some r → ∃ F, p f F ∧ F S args h = some r
  | .nl, _, hh => by cases hh
  | .lf g F, ha, hh => by
    have h1 : (Bool.casesOn (Nat.beq f g) none (F S args h) : A) = some r := hh
    rw [bool_none, beq_eq] at h1
    have := of_decide_eq_true h1.1
    subst this
    exact ⟨F, ha, h1.2⟩
  | .nd k l r', ha, hh => by
    have h1 : (Bool.casesOn (Nat.ble k f) (l.get f S args h) (r'.get f S args h) : A) = some r := hh
    cases hb : Nat.ble k f with
    | true => rw [hb] at h1; exact Tr.get_some ha.2 h1
    | false => rw [hb] at h1; exact Tr.get_some ha.1 h1
noncomputable def Sem (t : Tr) (n : Nat) : Sm := Nat.rec (motive := fun _ => Sm) (fun _ _ _ => none) (fun _ ih f args h => t.get f ih args h) n
/-- F is what function f comes to -/
def FOK (P : Program) (X : Nat → Nat) (D : Sm → Nat → Array Oper → List Nat → Env → H → (Env → H → A) → A) (f : Nat) (F : Sm → List V → H → A) : Prop :=
  ∃ fn c hn na, P.funcs[f]? = some fn ∧ fn.body = some c ∧ F = dFun P X D fn c hn na
theorem Sem_sound {D : Sm → Nat → Array Oper → List Nat → Env → H → (Env → H → A) → A} (hX : XOK P X) (hD : ∀ S, SOK P S → ∀ nt, DOK P nt (D S nt)) {t : Tr} (ht : t.All (FOK P X D)) : ∀ n, SOK P (GoEv.Sem t n)
  | 0 => by intro f args h v h' hh; cases hh
  | n + 1 => by
    intro f args h v h' hh ι w cargs hr ha hg
    have ih := Sem_sound hX hD ht n
    have hh' : t.get f (GoEv.Sem t n) args h = some (v, h') := hh
    obtain ⟨F, ⟨fn, c, hn, na, h1, h2, rfl⟩, h3⟩ := Tr.get_some ht hh'
    exact dFun_sound hX ih (hD _ ih) h1 h2 h3 hr ha hg
end
end GoEv
