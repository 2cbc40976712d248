/- Each operation, each piece of code and each function is sound. -/
import Derived.Test.YtllikcpbfbnmoaaGreatDoorEvX
import Derived.Orders
set_option linter.unusedVariables false
set_option linter.unusedSimpArgs false
namespace GoEv
open Go (IntKind Value World Addr MapEntry Program Oper Op Operand Act Exit undef execOp Sem Result TypeId TypeDesc BinOp UnOp)

section
variable {P : Program} {o : Oper} {h : H} {ι : Inj} {w : World} {a : Act} {e : Env} {nt : Nat}

theorem dBin_sound {op : BinOp} {t : TypeId} {x y : Operand} {yt : TypeId} {K : V → A} {r : V × H} (ho : o.op = .binOp op t x y yt) (hh : dBin P op t x y (evA P e x) (evA P e y) K = some r) : ∃ v, K v = some r ∧ GQ P o e nt v := by
  unfold dBin at hh
  split at hh
  · rw [toKd_some] at hh
    obtain ⟨m, hx, hh⟩ := hh
    rw [toKd_some] at hh
    obtain ⟨n, hy, hh⟩ := hh
    exact g_bin_int ho hx hy hh
  · rw [toS_some] at hh
    obtain ⟨l, n, hx, hh⟩ := hh
    rw [toS_some] at hh
    obtain ⟨l2, n2, hy, hh⟩ := hh
    exact g_bin_str ho hx hy hh
  · rename_i hd
    rw [toB_some] at hh
    obtain ⟨m, hx, hh⟩ := hh
    rw [toB_some] at hh
    obtain ⟨n, hy, hh⟩ := hh
    exact g_bin_bool ho (und_eq hd (by simp)) hx hy hh
  · rename_i q hd
    split at hh
    · exact g_bin_nlP ho (und_eq hd (by simp)) hh
    · rw [bif_none] at hh
      obtain ⟨h1, hh⟩ := hh
      have hne : P.cellsOf q ≠ 0 := by
        intro h0; rw [h0] at h1; cases h1
      obtain ⟨i, hi⟩ := info_of_cells hne
      refine g_bin_pEq ho (und_eq hd (by simp)) hi (fun h0 => hne ?_) hh
      simp [Go.Program.cellsOf, hi, h0]
  · rename_i q hd
    split at hh
    · exact g_bin_nlS ho (und_eq hd (by simp)) hh
    · cases hh
  · rename_i q q' hd
    split at hh
    · exact g_bin_nlM ho (und_eq hd (by simp)) hh
    · cases hh
  · rename_i q q' q'' hd
    split at hh
    · exact g_bin_nlF ho (und_eq hd (by simp)) hh
    · cases hh
  · rename_i q hd
    split at hh
    · exact g_bin_nlI ho (und_eq hd (by simp)) hh
    · cases hh
  · exact g_bin_agg ho hh
  · exact g_bin_agg ho hh
  · cases hh
theorem dP_sound {K : V → A} {r : V × H} (hh : dP P o e K = some r) : ∃ v, K v = some r ∧ GQ P o e nt v := by
  unfold dP at hh
  split at hh
  · rename_i x ho
    exact ⟨_, hh, fun h ι w a hr he => g_move (.inl ho) hr he⟩
  · rename_i x ho
    exact ⟨_, hh, fun h ι w a hr he => g_move (.inr ho) hr he⟩
  · rename_i c x y ho
    rw [toB_some] at hh
    obtain ⟨z, hz, hh⟩ := hh
    exact ⟨_, opn_some hh, fun h ι w a hr he => g_pick ho hz hr he⟩
  · rename_i t parts ho
    split at hh
    · rename_i fs hd
      rw [bif_none, sob_some] at hh
      obtain ⟨hall, z, hz, hh⟩ := hh
      refine g_build_struct ho (und_eq hd (by simp)) (fun f hf => ?_) hz hh
      obtain ⟨_, i, _, hi⟩ := hasInfo_some (List.all_eq_true.1 hall f (by simpa using hf))
      exact ⟨i, hi⟩
    · rename_i n el hd
      rw [bif_none, sob_some] at hh
      obtain ⟨hel, z, hz, hh⟩ := hh
      obtain ⟨_, i, _, hi⟩ := hasInfo_some hel
      exact g_build_array ho (und_eq hd (by simp)) hi hz hh
    · cases hh
  · rename_i x ho
    rw [toP_some] at hh
    obtain ⟨b, o', hx, hh⟩ := hh
    exact ⟨_, hh, fun h ι w a hr he => g_nilCheck ho hx hr he⟩
  · rename_i op t x y yt ho
    split at hh
    · exact g_shift ho hh
    · exact g_shift ho hh
    · exact dBin_sound ho hh
  · rename_i u t x ho
    split at hh
    · rw [toB_some] at hh
      obtain ⟨z, hx, hh⟩ := hh
      exact ⟨_, hh, fun h ι w a hr he => g_not ho hx hr he⟩
    · rw [toKd_some] at hh
      obtain ⟨z, hx, hh⟩ := hh
      rw [wrapK_eq] at hh
      exact ⟨_, hh, fun h ι w a hr he => g_neg ho hx hr he⟩
    · rw [toKd_some] at hh
      obtain ⟨z, hx, hh⟩ := hh
      rw [wrapK_eq] at hh
      exact ⟨_, hh, fun h ι w a hr he => g_xor ho hx hr he⟩
    · cases hh
  · rename_i s d x ho
    split at hh
    · rename_i hs hd
      rw [toKd_some] at hh
      obtain ⟨z, hx, hh⟩ := hh
      rw [wrapK_eq] at hh
      exact ⟨_, hh, fun h ι w a hr he => g_conv_int ho (und_eq hs (by simp)) (und_eq hd (by simp)) hx hr he⟩
    · rename_i hs hd
      rw [toS_some] at hh
      obtain ⟨l, n, hx, hh⟩ := hh
      exact ⟨_, hh, fun h ι w a hr he => g_conv_str ho (und_eq hs (by simp)) (und_eq hd (by simp)) hx hr he⟩
    · cases hh
  · rename_i t x ho
    split at hh
    · cases hh
    · cases hh
    · rename_i h1 h2
      rw [one_some] at hh
      refine ⟨_, hh.2, fun h ι w a hr he => g_iface ho (d := und P t) (und_eq rfl h2) h1 hr he⟩
  · rename_i f x y ho
    exact ⟨_, hh, fun h ι w a hr he => g_fn ho hr he⟩
  · rename_i t x lo hi mx ho
    split at hh
    · rename_i hd
      split at hh
      · rw [toS_some] at hh
        obtain ⟨l, n, hx, hh⟩ := hh
        obtain ⟨zl, hh, h1⟩ := bndO_some (nt := nt) hh
        obtain ⟨zh, hh, h2⟩ := bndO_some (nt := nt) hh
        obtain ⟨l', n', h3, h4⟩ := g_slice_str ho (und_eq hd (by simp)) hx h1 h2 hh
        exact ⟨_, h3, h4⟩
      · cases hh
    · rename_i el hd
      rw [bif_none] at hh
      obtain ⟨hel, hh⟩ := hh
      obtain ⟨_, i, _, hi'⟩ := hasInfo_some hel
      obtain ⟨zl, hh, h1⟩ := bndO_some (nt := nt) hh
      obtain ⟨zh, hh, h2⟩ := bndO_some (nt := nt) hh
      obtain ⟨zm, hh, h3⟩ := bndO_some (nt := nt) hh
      exact g_slice ho (und_eq hd (by simp)) ⟨i, hi'⟩ h1 h2 h3 hh
    · cases hh
  · rename_i t x f ho
    split at hh
    · rename_i off n ft hf
      rw [bif_none', beq_eq, toP_some] at hh
      obtain ⟨h1, b, o', hx, hh⟩ := hh
      exact ⟨_, hh, fun h ι w a hr he => g_fieldAddr ho hf (of_decide_eq_false h1) hx hr he⟩
    · cases hh
  · rename_i t x f ho
    split at hh
    · rename_i off n ft hf
      rw [toA_some] at hh
      obtain ⟨l, hx, hh⟩ := hh
      cases hag : isAg P ft with
      | true =>
        rw [hag, cd_true, tkc_some] at hh
        exact ⟨_, hh.2, fun h ι w a hr he => g_field_agg ho hf hx hag hr he⟩
      | false =>
        rw [hag, cd_false, bif_none, nth_eq, ob_some] at hh
        obtain ⟨h1, v, h2, h3⟩ := hh
        obtain ⟨d, i, hd, hi⟩ := hasInfo_some h1
        exact ⟨_, opn_some h3, fun h ι w a hr he => g_field_one ho hf hx hd hag h2 hr he⟩
    · cases hh
  · rename_i t x i ho
    split at hh
    · rename_i el hd
      rw [bif_none, toZ_some] at hh
      obtain ⟨h1, n, hy, hh⟩ := hh
      rw [ix_some] at hh
      obtain ⟨b, o', l, c, s', ck, k, hx, rfl, hk, hh⟩ := hh
      obtain ⟨_, i, _, hi⟩ := hasInfo_some h1
      exact ⟨_, hh, fun h ι w a hr he => g_indexAddr_slice ho (und_eq hd (by simp)) ⟨i, hi⟩ hx hy hk hr he⟩
    · rename_i n el hd
      rw [bif_none, toZ_some] at hh
      obtain ⟨h1, m, hy, hh⟩ := hh
      rw [toP_some] at hh
      obtain ⟨b, o', hx, hh⟩ := hh
      rw [ixA_some] at hh
      obtain ⟨k, rfl, hk, hh⟩ := hh
      obtain ⟨_, i, _, hi⟩ := hasInfo_some h1
      exact ⟨_, hh, fun h ι w a hr he => g_indexAddr_array ho (und_eq hd (by simp)) ⟨i, hi⟩ hx hy hk hr he⟩
    · cases hh
  · rename_i t x i ho
    split at hh
    · rename_i hd
      rw [toZ_some] at hh
      obtain ⟨m, hy, hh⟩ := hh
      rw [toS_some] at hh
      obtain ⟨l, n, hx, hh⟩ := hh
      rw [sIdx_some] at hh
      obtain ⟨k, rfl, hk, hh⟩ := hh
      exact ⟨_, hh, fun h ι w a hr he => g_index_string ho (und_eq hd (by simp)) hx hy hk hr he⟩
    · rename_i n el hd
      rw [bif_none', bif_none, toZ_some] at hh
      obtain ⟨hag, h1, m, hy, hh⟩ := hh
      rw [toA_some] at hh
      obtain ⟨l, hx, hh⟩ := hh
      rw [ixA_some] at hh
      obtain ⟨k, rfl, hk, hh⟩ := hh
      rw [nth_eq, ob_some] at hh
      obtain ⟨v, h2, h3⟩ := hh
      obtain ⟨d, i, hde, hi⟩ := hasInfo_some h1
      exact ⟨_, opn_some h3, fun h ι w a hr he => g_index_array ho (und_eq hd (by simp)) hx hy hk hde hi hag (by simpa using h2) hr he⟩
    · cases hh
  · rename_i x i ho
    rw [toT_some] at hh
    obtain ⟨l, hx, hh⟩ := hh
    rw [nth_eq, ob_some] at hh
    obtain ⟨v, h1, h2⟩ := hh
    exact ⟨_, opn_some h2, fun h ι w a hr he => g_extract ho hx h1 hr he⟩
  · rename_i c ho
    split at hh
    · rename_i hc
      split at hh
      · rename_i t x ht hx
        split at hh
        · rename_i hd
          rw [toS_some] at hh
          obtain ⟨l, n, hv, hh⟩ := hh
          exact ⟨_, hh, fun h ι w a hr he => g_len_str ho hc ht hx (und_eq hd (by simp)) hv hr he⟩
        · rename_i el hd
          unfold ln at hh
          rw [toSl_some] at hh
          rcases hh with ⟨b, o', l, c', s', k, hv, hh⟩ | ⟨hv, hh⟩
          · rw [fN_eq] at hh
            exact ⟨_, hh, fun h ι w a hr he => g_len_slice ho hc ht hx (und_eq hd (by simp)) (.inl ⟨_, _, _, _, _, hv⟩) hr he⟩
          · exact ⟨_, hh, fun h ι w a hr he => g_len_slice ho hc ht hx (und_eq hd (by simp)) (.inr ⟨hv, rfl⟩) hr he⟩
        · cases hh
      · cases hh
    · rename_i hc
      split at hh
      · rename_i t x ht hx
        split at hh
        · rename_i el hd
          exact g_cap ho hc ht hx (und_eq hd (by simp)) hh
        · cases hh
      · cases hh
    · rename_i hc
      split at hh
      · rename_i x y ha
        rw [toI_some] at hh
        obtain ⟨m, hx, hh⟩ := hh
        rw [toI_some] at hh
        obtain ⟨n, hy, hh⟩ := hh
        rw [bZ_eq] at hh
        exact ⟨_, hh, fun h ι w a hr he => g_min ho hc ha hx hy hr he⟩
      · cases hh
    · rename_i hc
      split at hh
      · rename_i x y ha
        rw [toI_some] at hh
        obtain ⟨m, hx, hh⟩ := hh
        rw [toI_some] at hh
        obtain ⟨n, hy, hh⟩ := hh
        rw [bZ_eq] at hh
        exact ⟨_, hh, fun h ι w a hr he => g_max ho hc ha hx hy hr he⟩
      · cases hh
    · rename_i hc
      split at hh
      · rename_i x ha
        exact g_sld ho hc ha hh
      · cases hh
    · cases hh
  · cases hh

theorem dR_sound {K : V → A} {r : V × H} (hh : dR P o e h K = some r) : ∃ v, K v = some r ∧ ∀ h2, Sup h h2 → GR P o e nt h2 v := by
  unfold dR at hh
  split at hh
  · rename_i t x ho
    rw [bif_none, toP_some] at hh
    obtain ⟨hi, b, o', hx, hh⟩ := hh
    obtain ⟨d, i, hd, hi'⟩ := hasInfo_some hi
    cases hag : isAg P t with
    | true =>
      rw [hag, cd_true] at hh
      obtain ⟨hb, ro, fz, l, h1, h2, h3⟩ := ldN_some hh
      exact ⟨_, h3, fun h2' hs ι w a hr he => g_load_agg ho hx hag (by rw [hi']; rfl) (by rw [hs b hb]; exact h1) h2 hr he⟩
    | false =>
      rw [hag, cd_false] at hh
      obtain ⟨hb, ro, fz, l, v, h1, h2, h3⟩ := ld_some hh
      exact ⟨_, opn_some h3, fun h2' hs ι w a hr he => g_load_one ho hx hag hd (by rw [hs b hb]; exact h1) h2 hr he⟩
  · rename_i t x i ok ho
    split at hh
    · rename_i kt el hd
      rw [sob_some] at hh
      obtain ⟨eq, hk, hh⟩ := hh
      rw [sob_some] at hh
      obtain ⟨z, hz, hh⟩ := hh
      exact g_lookup ho (und_eq hd (by simp)) hk hz hh
    · cases hh
  · rename_i s d x ho
    split at hh
    · rename_i el hs hd
      split at hh
      · rename_i he
        exact g_b2s ho (und_eq hs (by simp)) (und_eq hd (by simp)) (und_eq he (by simp)) hh
      · cases hh
    · rename_i t hs hd
      rw [bif_none, ble_eq] at hh
      exact g_p2u ho (und_eq hs (by simp)) (und_eq hd (by simp)) (of_decide_eq_true hh.1) hh.2
    · rename_i t hs hd
      rw [bif_none, ble_eq] at hh
      exact g_u2p ho (und_eq hs (by simp)) (und_eq hd (by simp)) (of_decide_eq_true hh.1) hh.2
    · cases hh
  · rename_i c ho
    split at hh
    · rename_i hc
      split at hh
      · rename_i t x ht hx
        split at hh
        · rename_i kt el hd
          exact g_lenM ho hc ht hx (und_eq hd (by simp)) hh
        · cases hh
      · cases hh
    · cases hh
  · cases hh
theorem dA_sound {K : Blk → (Nat → V) → A} {r : V × H} (hh : dA P o e K = some r) : ∃ x vf, K x vf = some r ∧ GA P o e nt x vf := by
  unfold dA at hh
  split at hh
  · rename_i t ho
    rw [sob_some] at hh
    obtain ⟨z, hz, hh⟩ := hh
    exact ⟨_, _, hh, ga_alloc ho hz⟩
  · rename_i t x ho
    cases hag : isAg P t with
    | true =>
      rw [hag, cd_true, toA_some] at hh
      obtain ⟨l, hx, hh⟩ := hh
      exact ⟨_, _, hh, ga_box_agg ho hx⟩
    | false =>
      rw [hag, cd_false, one_some] at hh
      exact ⟨_, _, hh.2, ga_box_one ho hh.1⟩
  · rename_i t n parts ho
    split at hh
    · rename_i el hd
      rw [bif_none, sob_some] at hh
      obtain ⟨h1, z, hz, hh⟩ := hh
      rw [bif_none] at hh
      obtain ⟨h2, hh⟩ := hh
      rw [Bool.and_eq_true, ble_eq, ble_eq] at h1
      rw [beq_eq] at h2
      exact ga_buildSlice ho (und_eq hd (by simp)) (of_decide_eq_true h1.1) (of_decide_eq_true h1.2) hz (of_decide_eq_true h2) hh
    · cases hh
  · rename_i t ho
    exact ⟨_, _, hh, ga_map ho⟩
  · rename_i t l c ho
    split at hh
    · rename_i el hd
      split at hh
      · rename_i i hi
        rw [bif_none, sob_some, ble_eq] at hh
        obtain ⟨h1, z, hz, hh⟩ := hh
        rw [bif_none, beq_eq, toI_some] at hh
        obtain ⟨h2, m, hl, hh⟩ := hh
        rw [toI_some] at hh
        obtain ⟨n, hc, hh⟩ := hh
        exact ga_makeSlice ho (und_eq hd (by simp)) hi (of_decide_eq_true h1) hz (of_decide_eq_true h2) hl hc hh
      · cases hh
    · cases hh
  · cases hh

/-! ### calls -/
/-- the functions do what S says -/
def SOK (P : Program) (S : Sm) : Prop := ∀ (f : Nat) (args : List V) (h : H) (v : V) (h' : H), S f args h = some (v, h') →
  ∀ (ι : Inj) (w : World) (cargs : Array Value), HR P ι h w → VRs ι args cargs.toList → (∀ g, g < P.globals.size → ∃ room, ι g = some ⟨g, 0, room⟩) →
    Go.Calls P f cargs w fun ex w' => ∃ cv ι', ex = .returned cv ∧ VR ι' v cv ∧ HR P ι' h' w' ∧ Ext h ι w h' ι' w'
theorem good_call {S : Sm} (hS : SOK P S) {f : Nat} {args : List V} {v : V} {h' : H} (hs : S f args h = some (v, h')) {cargs : Array Value} (hrun : (execOp a.eval o).run P w = .ok (.enter f cargs) w) (hargs : VRs ι args cargs.toList) (hr : HR P ι h w) (he : ER P ι e nt a) :
    Good P o h ι w a v h' := by
  intro next Q hn
  unfold Go.Oper.wp
  rw [hrun, Go.Oper.upon_enter]
  refine (hS f args h v h' hs ι w cargs hr hargs he.glob).mono ?_
  rintro ex w' ⟨cv, ι', rfl, h1, h2, h3⟩
  exact hn cv w' ι' h1 h2 h3
theorem dW_sound {X : Nat → Nat} {S : Sm} (hX : XOK P X) (hS : SOK P S) {K : V → H → A} {r : V × H} (hh : dW P X S o e h K = some r) : ∃ v h', K v h' = some r ∧ GW P o e nt h v h' := by
  unfold dW at hh
  split at hh
  · rename_i t x y ho
    rw [toP_some] at hh
    obtain ⟨b, o', hx, hh⟩ := hh
    rw [bif_none] at hh
    obtain ⟨hi, hh⟩ := hh
    obtain ⟨d, i, hd, hi'⟩ := hasInfo_some hi
    cases hag : isAg P t with
    | true =>
      rw [hag, cd_true, toA_some] at hh
      obtain ⟨l, hy, hh⟩ := hh
      rw [stN_some] at hh
      obtain ⟨h1, hh⟩ := hh
      obtain ⟨fz, cs, h2, h3, h4⟩ := stL_some hh
      exact ⟨_, _, h4, fun ι w a hr he => g_store_agg ho hx hy (by rw [hi']; rfl) h1 h2 h3 hr he⟩
    | false =>
      rw [hag, cd_false, bif_none, beq_eq] at hh
      obtain ⟨h1, hh⟩ := hh
      obtain ⟨fz, cs, h2, h3, h4, h5⟩ := st_some hh
      exact ⟨_, _, h5, fun ι w a hr he => g_store_one ho hx h3 (of_decide_eq_true h1) h2 h4 hr he⟩
  · rename_i c ho
    split at hh
    · rename_i f hc
      split at hh
      · rename_i hx
        rw [cl_some] at hh
        obtain ⟨v, h', h1, h2⟩ := hh
        refine ⟨_, _, opn_some h2, fun ι w a hr he => good_call hS h1 (cargs := c.args.map a.eval) ?_ (by simpa using he.evals c.args.toList) hr he⟩
        simp [execOp, ho, Go.resolve, hc, Go.Deferred.ofValue, Go.Act.eval, Go.invoke, hX.enter f hx]
      · rename_i hx
        split at hh
        · rename_i x ha
          exact ⟨_, _, hh, fun ι w a hr he => g_x2 hX ho hc hx ha hr he⟩
        · cases hh
      · rename_i hx
        split at hh
        · rename_i x ha
          rw [toI_some] at hh
          obtain ⟨n, hn, hh⟩ := hh
          exact g_x3 hX ho hc hx ha hn hh
        · cases hh
      · rename_i hx
        split at hh
        · rename_i x y ha
          rw [toS_some] at hh
          obtain ⟨l, n, h1, hh⟩ := hh
          rw [toS_some] at hh
          obtain ⟨l2, n2, h2, hh⟩ := hh
          rw [bZ_eq] at hh
          exact ⟨_, _, hh, fun ι w a hr he => g_x4 hX ho hc hx ha h1 h2 hr he⟩
        · cases hh
      · cases hh
    · rename_i x hne hc
      rw [toF_some] at hh
      obtain ⟨f, fa, fb, hx, hh⟩ := hh
      rw [cnd_none, beq_eq, cl_some] at hh
      obtain ⟨hxf, v, h', h1, h2⟩ := hh
      rw [app_eq, app_eq] at h1
      refine ⟨_, _, opn_some h2, fun ι w a hr he => ?_⟩
      have hv := he.eval x
      rw [hx] at hv; simp only [VR] at hv
      obtain ⟨a', b', hv, h3, h4⟩ := hv
      refine good_call hS h1 (cargs := a' ++ c.args.map a.eval ++ b') ?_ ?_ hr he
      · simp [execOp, ho, Go.resolve, hc, Go.Deferred.ofValue, hv, Go.invoke, hX.enter f (of_decide_eq_true hxf)]
      · have := VRs.append h3 (VRs.append (he.evals c.args.toList) h4)
        simpa using this
    · rename_i hc
      split at hh
      · rename_i t x y t2 h1 h2 h3 h4
        have key : ∀ el d, und P t = .slice el → und P t2 = d → (d = .string ∨ ∃ q, d = .slice q) → (cd (apOk P el) (apd h (evA P e x) (evA P e y) (P.cellsOf el) el K) (none)) = some r → ∃ v h', K v h' = some r ∧ GW P o e nt h v h' := by
          intro el d hd hd2 hdd hq
          rw [bif_none] at hq
          obtain ⟨hq1, hq2⟩ := hq
          unfold apOk at hq1
          split at hq1
          · rename_i i hi
            split at hq1
            · rename_i z hz
              rw [Bool.and_eq_true, Bool.and_eq_true, ble_eq, beq_eq] at hq1
              have hsz : P.cellsOf el = i.size := by simp [Go.Program.cellsOf, hi]
              rw [hsz] at hq2
              exact g_append ho hc h1 h4 h2 h3 (und_eq hd (by simp)) (und_eq hd2 (by rcases hdd with rfl | ⟨q, rfl⟩ <;> simp)) hdd hi hz (fun q hq => oc_sound (List.all_eq_true.1 hq1.1.1 q hq)) (of_decide_eq_true hq1.1.2) (of_decide_eq_true hq1.2) hq2
            · cases hq1
          · cases hq1
        split at hh
        · rename_i el q hd hd2
          exact key _ _ hd hd2 (.inr ⟨_, rfl⟩) hh
        · rename_i el hd hd2
          exact key _ _ hd hd2 (.inl rfl) hh
        · cases hh
      · cases hh
    · rename_i hc
      split at hh
      · rename_i t x y ht ha
        split at hh
        · rename_i el hd
          rw [bif_none, ble_eq] at hh
          exact g_copy ho hc ht ha (und_eq hd (by simp)) (of_decide_eq_true hh.1) hh.2
        · cases hh
      · cases hh
    · rename_i hc
      split at hh
      · rename_i t x ht ha
        split at hh
        · rename_i el hd
          rw [sob_some] at hh
          obtain ⟨z, hz, hh⟩ := hh
          rw [bif_none, Bool.and_eq_true, ble_eq, beq_eq] at hh
          obtain ⟨⟨h1, h2⟩, hh⟩ := hh
          exact g_clear ho hc ht ha (und_eq hd (by simp)) hz (of_decide_eq_true h1) (of_decide_eq_true h2) hh
        · cases hh
      · cases hh
    · rename_i hc
      split at hh
      · rename_i t x y ht ha
        split at hh
        · rename_i el hd
          rw [bif_none, beq_eq, toI_some] at hh
          obtain ⟨h1, n, hy, hh⟩ := hh
          exact g_ust ho hc ht ha (und_eq hd (by simp)) (of_decide_eq_true h1) hy hh
        · cases hh
      · cases hh
    · cases hh
  · rename_i t m k x ho
    split at hh
    · rename_i kt el hd
      rw [sob_some] at hh
      obtain ⟨eq, hk, hh⟩ := hh
      exact g_insert (.inl ho) (und_eq hd (by simp)) hk hh
    · cases hh
  · rename_i t m k x ho
    split at hh
    · rename_i kt el hd
      rw [sob_some] at hh
      obtain ⟨eq, hk, hh⟩ := hh
      exact g_insert (.inr ho) (und_eq hd (by simp)) hk hh
    · cases hh
  · rename_i s d x ho
    split at hh
    · rename_i el hs hd
      split at hh
      · rename_i he
        rw [toS_some] at hh
        obtain ⟨l, n, hx, hh⟩ := hh
        exact g_s2b ho (und_eq hs (by simp)) (und_eq hd (by simp)) (und_eq he (by simp)) hx hh
      · cases hh
    · cases hh
  · cases hh
end
end GoEv
namespace GoEv
open Go (IntKind Value World Addr MapEntry Program Oper Op Operand Act Exit undef execOp Sem Result TypeId TypeDesc BinOp UnOp Code)

noncomputable abbrev dAny (P : Program) (X : Nat → Nat) (S : Sm) (o : Oper) (e : Env) (h : H) (K : V → H → A) : A :=
  Nat.casesOn (motive := fun _ => A) (cls P o.op) (dP P o e fun v => K v h) fun n => Nat.casesOn (motive := fun _ => A) n (dR P o e h fun v => K v h) fun n => Nat.casesOn (motive := fun _ => A) n (dA P o e fun x vf => nB h x fun b h' => K (vf b) h') fun _ => dW P X S o e h K
theorem dAny_eq (P : Program) (X : Nat → Nat) (S : Sm) (o : Oper) (e : Env) (h : H) (K : V → H → A) : dAny P X S o e h K = match cls P o.op with
    | 0 => dP P o e fun v => K v h
    | 1 => dR P o e h fun v => K v h
    | 2 => dA P o e fun x vf => nB h x fun b h' => K (vf b) h'
    | _ => dW P X S o e h K := by
  unfold dAny
  match cls P o.op with
  | 0 => rfl
  | 1 => rfl
  | 2 => rfl
  | n + 3 => rfl
/-- the value of a guard -/
abbrev gv (ops : Array Oper) (e : Env) (j : Nat) : V := match (ops[j]?).bind (·.dst) with
  | some t => e t
  | none => .undef
/-- an operation that is run where the guard says so -/
noncomputable def grd (v : V) (want : Bool) (h : H) (R : (V → H → A) → A) (K : V → H → A) : A := match want with
  | true => gd v (K (.tup []) h) fun b => cnd b (R K) (K (.tup []) h)
  | false => gd v (K (.tup []) h) fun b => cnd b (K (.tup []) h) (R K)
noncomputable abbrev dSeq (P : Program) (X : Nat → Nat) (S : Sm) (ops : Array Oper) (l : List Nat) : Env → H → (Env → H → A) → A :=
  List.rec (motive := fun _ => Env → H → (Env → H → A) → A) (fun e h K => K e h)
    (fun i r ih e h K => match ops[i]? with
      | none => none
      | some o => match o.guard with
        | none => dAny P X S o e h fun v h => ih (put e o.dst v) h K
        | some (j, want) => grd (gv ops e j) want h (fun J => dAny P X S o e h J) fun v h => ih (put e o.dst v) h K) l
theorem dSeq_cons (P : Program) (X : Nat → Nat) (S : Sm) (ops : Array Oper) (i : Nat) (r : List Nat) (e : Env) (h : H) (K : Env → H → A) : dSeq P X S ops (i :: r) e h K = match ops[i]? with
      | none => none
      | some o => match o.guard with
        | none => dAny P X S o e h fun v h => dSeq P X S ops r (put e o.dst v) h K
        | some (j, want) => grd (gv ops e j) want h (fun J => dAny P X S o e h J) fun v h => dSeq P X S ops r (put e o.dst v) h K := rfl
abbrev dstOK (nt : Nat) (ops : Array Oper) : Bool := ops.toList.all fun o => match o.dst with
  | some d => Nat.blt d nt
  | none => true

section
variable {P : Program} {X : Nat → Nat} {S : Sm} {o : Oper} {h : H} {ι : Inj} {w : World} {a : Act} {e : Env} {nt : Nat}

theorem dAny_sound (hX : XOK P X) (hS : SOK P S) {K : V → H → A} {r : V × H} (hh : dAny P X S o e h K = some r) : ∃ v h', K v h' = some r ∧ GW P o e nt h v h' := by
  rw [dAny_eq] at hh
  split at hh
  · obtain ⟨v, h1, h2⟩ := dP_sound (nt := nt) hh
    exact ⟨v, h, h1, fun ι w a hr he => h2 h ι w a hr he⟩
  · obtain ⟨v, h1, h2⟩ := dR_sound (nt := nt) hh
    exact ⟨v, h, h1, h2 h (Sup.refl h)⟩
  · obtain ⟨x, vf, h1, h2⟩ := dA_sound (nt := nt) hh
    rw [nB_eq] at h1
    exact ⟨_, _, h1, fun ι w a hr he => h2.good hr he⟩
  · exact dW_sound hX hS hh
theorem yielded_of (he : ER P ι e nt a) (ops : Array Oper) (j : Nat) :
    (∀ b, gv ops e j = .bool b → Go.yielded ops a.tmps j = some b) ∧ (∀ l, gv ops e j = .tup l → Go.yielded ops a.tmps j = none) := by
  unfold gv Go.yielded
  cases hd : (ops[j]?).bind (·.dst) with
  | none => exact ⟨(fun b hb => nomatch hb), (fun l hl => nomatch hl)⟩
  | some t =>
    constructor
    · intro b hb
      have ht := he.tmp t
      have hb' : e t = .bool b := hb
      rw [hb'] at ht; simp only [VR] at ht
      have : a.tmps[t]? = some (.bool b) := by
        cases hq : a.tmps[t]? with
        | none => simp [hq, undef] at ht
        | some v => simp [hq] at ht; rw [ht]
      simp [this]
    · intro l hl
      have ht := he.tmp t
      have hl' : e t = .tup l := hl
      rw [hl'] at ht; simp only [VR] at ht
      obtain ⟨c, hc, _⟩ := ht
      cases hq : a.tmps[t]? with
      | none => simp [hq]
      | some v => simp [hq] at hc; simp [hq, hc]
/-- what 'grd' chose -/
theorem grd_some {v : V} {want : Bool} {R : (V → H → A) → A} {K : V → H → A} {r : V × H} (hh : grd v want h R K = some r) :
    (v = .bool want ∧ R K = some r) ∨ ((v = .bool (!want) ∨ ∃ l, v = .tup l) ∧ K (.tup []) h = some r) := by
  unfold grd at hh
  cases want <;> simp only [] at hh <;> rw [gd_some] at hh <;> rcases hh with ⟨b, h1, h2⟩ | ⟨l, h1, h2⟩
  · rw [cnd_some] at h2
    rcases h2 with ⟨rfl, h2⟩ | ⟨rfl, h2⟩
    · exact .inr ⟨.inl h1, h2⟩
    · exact .inl ⟨h1, h2⟩
  · exact .inr ⟨.inr ⟨l, h1⟩, h2⟩
  · rw [cnd_some] at h2
    rcases h2 with ⟨rfl, h2⟩ | ⟨rfl, h2⟩
    · exact .inl ⟨h1, h2⟩
    · exact .inr ⟨.inl h1, h2⟩
  · exact .inr ⟨.inr ⟨l, h1⟩, h2⟩
theorem wanted_none (hg : o.guard = none) (y : Nat → Option Bool) : Go.Region.wanted o y = true := by simp [Go.Region.wanted, hg]
theorem wanted_some {j : Nat} {want : Bool} (hg : o.guard = some (j, want)) (y : Nat → Option Bool) : Go.Region.wanted o y = (y j == some want) := by simp [Go.Region.wanted, hg]
theorem VR_undef (ι : Inj) : VR ι (.tup []) undef := by simp only [VR]; exact ⟨#[], rfl, by simp [VRs]⟩
theorem dstOK_get {ops : Array Oper} (hd : dstOK nt ops = true) {i : Nat} (hi : ops[i]? = some o) : ∀ t, o.dst = some t → t < nt := by
  intro t ht
  have := List.all_eq_true.1 hd o (by have := Array.mem_of_getElem? hi; simpa using this)
  rw [ht] at this
  exact Nat.le_of_ble_eq_true this

/-- the states that a call has reached -/
def St (P : Program) (nt : Nat) (h0 : H) (ι0 : Inj) (w0 : World) (e : Env) (h : H) (a : Act) (w : World) : Prop :=
  ∃ ι, HR P ι h w ∧ ER P ι e nt a ∧ Ext h0 ι0 w0 h ι w
theorem St.step {h0 : H} {ι0 : Inj} {w0 : World} (hd0 : ∀ b, h0.n ≤ b → ι0 b = none) {v : V} {h' : H} {next : Act → World → Prop} {Q : Exit → Act → World → Prop} (hg : GW P o e nt h v h') (hdst : ∀ t, o.dst = some t → t < nt) (hs : St P nt h0 ι0 w0 e h a w)
    (hn : ∀ a' w', St P nt h0 ι0 w0 (put e o.dst v) h' a' w' → next a' w') : o.wp P a w next Q := by
  obtain ⟨ι, hr, he, hx⟩ := hs
  refine hg ι w a hr he next Q fun cv w' ι' h1 h2 h3 => hn _ _ ⟨ι', h2, (he.mono h3.sub).put h1 hdst, hx.trans hd0 h3⟩
theorem St.skip {h0 : H} {ι0 : Inj} {w0 : World} (hdst : ∀ t, o.dst = some t → t < nt) (hs : St P nt h0 ι0 w0 e h a w) : St P nt h0 ι0 w0 (put e o.dst (.tup [])) h (a.put o.dst undef) w := by
  obtain ⟨ι, hr, he, hx⟩ := hs
  exact ⟨ι, hr, he.put (VR_undef ι) hdst, hx⟩
theorem dSeq_sound (hX : XOK P X) (hS : SOK P S) {ops : Array Oper} (hops : dstOK nt ops = true) {h0 : H} {ι0 : Inj} {w0 : World} (hd0 : ∀ b, h0.n ≤ b → ι0 b = none) {Q : Exit → Act → World → Prop} {r : V × H} :
    ∀ (l : List Nat) (e : Env) (h : H) (a : Act) (w : World) (K : Env → H → A), dSeq P X S ops l e h K = some r →
      (∀ e h a w, K e h = some r → St P nt h0 ι0 w0 e h a w → Q .normal a w) → St P nt h0 ι0 w0 e h a w → Go.wpOps P ops Q l a w
  | [], e, h, a, w, K, hh, hK, hs => hK e h a w hh hs
  | i :: l, e, h, a, w, K, hh, hK, hs => by
    rw [dSeq_cons] at hh
    unfold Go.wpOps
    cases ho : ops[i]? with
    | none => rw [ho] at hh; cases hh
    | some o =>
      rw [ho] at hh
      simp only at hh ⊢
      have hdst := dstOK_get hops ho
      have run : ∀ {K' : V → H → A}, dAny P X S o e h K' = some r → (∀ v h, K' v h = dSeq P X S ops l (put e o.dst v) h K) → o.wp P a w (Go.wpOps P ops Q l) Q := by
        intro K' h1 h2
        obtain ⟨v, h', h3, h4⟩ := dAny_sound (nt := nt) hX hS h1
        rw [h2] at h3
        exact hs.step hd0 h4 hdst fun a' w' hs' => dSeq_sound hX hS hops hd0 l _ _ a' w' K h3 hK hs'
      cases hg : o.guard with
      | none =>
        rw [hg] at hh
        rw [wanted_none hg, if_pos rfl]
        exact .inl (run hh fun _ _ => rfl)
      | some jw =>
        obtain ⟨j, want⟩ := jw
        rw [hg] at hh
        rw [wanted_some hg]
        obtain ⟨ι, hr, he, hx⟩ := hs
        obtain ⟨hy1, hy2⟩ := yielded_of he ops j
        rcases grd_some hh with ⟨h1, h2⟩ | ⟨h1, h2⟩
        · rw [hy1 _ h1]
          simp only [beq_self_eq_true, if_true]
          exact .inl (run h2 fun _ _ => rfl)
        · have : (Go.yielded ops a.tmps j == some want) = false := by
            rcases h1 with h1 | ⟨l, h1⟩
            · rw [hy1 _ h1]; cases want <;> rfl
            · rw [hy2 _ h1]; rfl
          rw [this]
          simp only [if_false, Bool.false_eq_true]
          exact dSeq_sound hX hS hops hd0 l _ _ _ _ K h2 hK (St.skip hdst ⟨ι, hr, he, hx⟩)
end

/-! ### code -/
inductive Hn where
  | lf
  | dr (σ : List Nat)
  | sq (a b : Hn)
  | js (ns : List Nat) (a b : Hn)
  | cn (a b : Hn)
  | bl (a : Hn)
  | jb (ns : List Nat) (a : Hn)
  | lo (ns : List Nat) (a : Hn)
noncomputable def jn (f : List V → H → A) (K : (List V → H → A) → A) : A := K f
noncomputable def lp (n : Nat) (step : (List V → H → A) → List V → H → A) : List V → H → A := Nat.rec (motive := fun _ => List V → H → A) (fun _ _ => none) (fun _ ih => step ih) n
noncomputable abbrev rst : List Nat → List V → Env → (Env → A) → A
  | [], _, e, K => K e
  | n :: ns, l, e, K => un l fun v l' => rst ns l' (upd e n v) K
abbrev e0 : Env := fun _ => .undef
theorem rst_map : ∀ (ns : List Nat) (e e1 : Env) (K : Env → A), ∃ e', rst ns (ns.map e) e1 K = K e' ∧ ∀ t, e' t = e t ∨ e' t = e1 t
  | [], e, e1, K => ⟨e1, rfl, fun t => .inr rfl⟩
  | n :: ns, e, e1, K => by
    obtain ⟨e', h1, h2⟩ := rst_map ns e (upd e1 n (e n)) K
    refine ⟨e', h1, fun t => ?_⟩
    rcases h2 t with h3 | h3
    · exact .inl h3
    · by_cases hn : t = n
      · subst hn; left; rw [h3]; simp [upd]
      · right; rw [h3]
        show (bif Nat.beq t n then e n else e1 t) = e1 t
        rw [beq_eq, decide_eq_false hn]; rfl
noncomputable abbrev dCode (P : Program) (X : Nat → Nat) (S : Sm) (nt : Nat) (D : Array Oper → List Nat → Env → H → (Env → H → A) → A) : Code → Hn → Env → H → (Env → H → A) → (Env → H → A) → (Nat → Env → H → A) → A
  | .skip, _, e, h, n, r, x => n e h
  | .label _, _, e, h, n, r, x => n e h
  | .exit i, _, e, h, n, r, x => x i e h
  | .ret, _, e, h, n, r, x => r e h
  | .region _ ops false, .lf, e, h, n, r, x => cd (dstOK nt ops) (dSeq P X S ops (List.range ops.size) e h n) (none)
  | .region _ ops true, .dr σ, e, h, n, r, x => cd (dstOK nt ops) (D ops σ e h n) (none)
  | .seq a b, .sq p q, e, h, n, r, x => dCode P X S nt D a p e h (fun e h => dCode P X S nt D b q e h n r x) r x
  | .seq a b, .js ns p q, e, h, n, r, x => jn (fun l h => rst ns l e0 fun e => dCode P X S nt D b q e h n r x) fun J => dCode P X S nt D a p e h (fun e h => J (ns.map e) h) r x
  | .cond c a b, .cn p q, e, h, n, r, x => toB (evA P e c) fun z => cnd z (dCode P X S nt D a p e h n r x) (dCode P X S nt D b q e h n r x)
  | .block i b, .bl p, e, h, n, r, x => dCode P X S nt D b p e h n r fun j e h => cd (Nat.beq j i) (n e h) (x j e h)
  | .block i b, .jb ns p, e, h, n, r, x => jn (fun l h => rst ns l e0 fun e => n e h) fun J => dCode P X S nt D b p e h (fun e h => J (ns.map e) h) r fun j e h => cd (Nat.beq j i) (J (ns.map e) h) (x j e h)
  | .loop b, .lo ns p, e, h, n, r, x => lp 1152921504606846976 (fun J l h => rst ns l e0 fun e => dCode P X S nt D b p e h (fun e h => J (ns.map e) h) r x) (ns.map e) h
  | _, _, _, _, _, _, _ => none

section
variable {P : Program} {X : Nat → Nat} {S : Sm} {nt : Nat} {D : Array Oper → List Nat → Env → H → (Env → H → A) → A}
theorem St.rst {h0 : H} {ι0 : Inj} {w0 : World} {e e' : Env} {h : H} {a : Act} {w : World} (hs : St P nt h0 ι0 w0 e h a w) (h1 : ∀ t, e' t = e t ∨ e' t = e0 t) : St P nt h0 ι0 w0 e' h a w := by
  obtain ⟨ι, hr, he, hx⟩ := hs
  refine ⟨ι, hr, ⟨he.size, fun t => ?_, he.glob, he.defers⟩, hx⟩
  rcases h1 t with h2 | h2
  · rw [h2]; exact he.tmp t
  · rw [h2]; simp [e0, VR]
theorem wp_loop_fuel {c : Code} {Q : Exit → Act → World → Prop} {a : Act} {w : World} (I : Nat → Act → World → Prop) (n : Nat) (h₀ : I n a w)
    (round : ∀ n a w, I n a w → c.wp P (Exit.then (fun a' w' => ∃ m, m < n ∧ I m a' w') Q) a w) : (Code.loop c).wp P Q a w := by
  intro b k cs
  have key : ∀ n a w, I n a w →
      ∃ e a' w', Q e a' w' ∧ Go.Arrives P (Go.lone (b.at a (.code c :: .inLoop c :: k)) cs w) b k cs e a' w' := by
    intro n
    induction n using Nat.strongRecOn with
    | _ n ih =>
      intro a w hI
      obtain ⟨e, a₁, w₁, hq, harr⟩ := round n a w hI b (.inLoop c :: k) cs
      cases e with
      | normal =>
        obtain ⟨m, hlt, hI₁⟩ := hq
        obtain ⟨e₂, a₂, w₂, hq₂, harr₂⟩ := ih m hlt a₁ w₁ hI₁
        exact ⟨e₂, a₂, w₂, hq₂, .of_steps (Go.Steps.trans harr (.one Go.step_inLoop)) harr₂⟩
      | exit id => exact ⟨_, a₁, w₁, hq, .pass (x := .inLoop c) rfl (fun _ _ => .inl (by simp)) harr⟩
      | goto l => exact ⟨_, a₁, w₁, hq, .pass (x := .inLoop c) rfl (fun _ _ => .inl (by simp)) harr⟩
      | ret => exact ⟨_, a₁, w₁, hq, .pass (x := .inLoop c) rfl (fun _ _ => .inl (by simp)) harr⟩
      | panic ch => exact ⟨_, a₁, w₁, hq, .pass (x := .inLoop c) rfl (fun _ _ => .inl (by simp)) harr⟩
      | outgrown => exact ⟨_, a₁, w₁, hq, .pass (x := .inLoop c) rfl (fun _ _ => .inl (by simp)) harr⟩
  obtain ⟨e, a', w', hq, harr⟩ := key _ a w h₀
  exact ⟨e, a', w', hq, .of_steps (.one Go.step_loop) harr⟩
/-- regions of free order: what D says comes to pass -/
def DOK (P : Program) (nt : Nat) (D : Array Oper → List Nat → Env → H → (Env → H → A) → A) : Prop :=
  ∀ (h0 : H) (ι0 : Inj) (w0 : World), (∀ b, h0.n ≤ b → ι0 b = none) → ∀ (id : Nat) (ops : Array Oper) (σ : List Nat) (e : Env) (h : H) (K : Env → H → A) (r : V × H) (Q : Exit → Act → World → Prop) (a : Act) (w : World),
    dstOK nt ops = true → D ops σ e h K = some r → (∀ e h a w, K e h = some r → St P nt h0 ι0 w0 e h a w → Q .normal a w) → St P nt h0 ι0 w0 e h a w → (Code.region id ops true).wp P Q a w
theorem dCode_sound (hX : XOK P X) (hS : SOK P S) (hD : DOK P nt D) {h0 : H} {ι0 : Inj} {w0 : World} (hd0 : ∀ b, h0.n ≤ b → ι0 b = none) {r : V × H} :
    ∀ (c : Code) (hn : Hn) (e : Env) (h : H) (kn kr : Env → H → A) (kx : Nat → Env → H → A) (Q : Exit → Act → World → Prop) (a : Act) (w : World), dCode P X S nt D c hn e h kn kr kx = some r →
      (∀ e h a w, kn e h = some r → St P nt h0 ι0 w0 e h a w → Q .normal a w) → (∀ e h a w, kr e h = some r → St P nt h0 ι0 w0 e h a w → Q .ret a w) → (∀ i e h a w, kx i e h = some r → St P nt h0 ι0 w0 e h a w → Q (.exit i) a w) →
      St P nt h0 ι0 w0 e h a w → c.wp P Q a w := by
  intro c
  induction c with
  | skip => intro hn e h kn kr kx Q a w hh h1 h2 h3 hs; exact Go.wp_skip (h1 _ _ _ _ (by simpa [dCode] using hh) hs)
  | label l => intro hn e h kn kr kx Q a w hh h1 h2 h3 hs; exact Go.wp_label (h1 _ _ _ _ (by simpa [dCode] using hh) hs)
  | exit i => intro hn e h kn kr kx Q a w hh h1 h2 h3 hs; exact Go.wp_exit (h3 _ _ _ _ _ (by simpa [dCode] using hh) hs)
  | ret => intro hn e h kn kr kx Q a w hh h1 h2 h3 hs; exact Go.wp_ret (h2 _ _ _ _ (by simpa [dCode] using hh) hs)
  | region id ops d =>
    intro hn e h kn kr kx Q a w hh h1 h2 h3 hs
    cases d with
    | false =>
      cases hn <;> simp only [dCode] at hh <;> first | cases hh | skip
      rw [bif_none] at hh
      exact Go.wp_region (dSeq_sound hX hS hh.1 hd0 _ e h a w kn hh.2 h1 hs)
    | true =>
      cases hn <;> simp only [dCode] at hh <;> first | cases hh | skip
      rw [bif_none] at hh
      exact hD h0 ι0 w0 hd0 id ops _ e h kn r Q a w hh.1 hh.2 h1 hs
  | seq x y ihx ihy =>
    intro hn e h kn kr kx Q a w hh h1 h2 h3 hs
    cases hn <;> simp only [dCode] at hh <;> first | cases hh | skip
    · refine Go.wp_seq (ihx _ e h _ _ _ _ a w hh (fun e h a w h4 hs' => ?_) (fun e h a w h4 hs' => h2 e h a w h4 hs') (fun i e h a w h4 hs' => h3 i e h a w h4 hs') hs)
      exact ihy _ e h _ _ _ _ a w h4 h1 h2 h3 hs'
    · unfold jn at hh
      refine Go.wp_seq (ihx _ e h _ _ _ _ a w hh (fun e h a w h4 hs' => ?_) (fun e h a w h4 hs' => h2 e h a w h4 hs') (fun i e h a w h4 hs' => h3 i e h a w h4 hs') hs)
      rename_i ns p q
      obtain ⟨e', h5, h6⟩ := rst_map ns e e0 (fun e => dCode P X S nt D y q e h kn kr kx)
      have h4' : rst ns (ns.map e) e0 (fun e => dCode P X S nt D y q e h kn kr kx) = some r := h4
      rw [h5] at h4'
      exact ihy _ e' h _ _ _ _ a w h4' h1 h2 h3 (hs'.rst h6)
  | cond c x y ihx ihy =>
    intro hn e h kn kr kx Q a w hh h1 h2 h3 hs
    cases hn <;> simp only [dCode] at hh <;> first | cases hh | skip
    rw [toB_some] at hh
    obtain ⟨z, hz, hh⟩ := hh
    have hc : a.eval c = .bool z := by
      obtain ⟨ι, hr, he, hx⟩ := hs
      have := he.eval c
      rw [hz] at this; simpa only [VR] using this
    rw [cnd_some] at hh
    rcases hh with ⟨rfl, hh⟩ | ⟨rfl, hh⟩
    · exact Go.wp_cond_true hc (ihx _ e h _ _ _ _ a w hh h1 h2 h3 hs)
    · exact Go.wp_cond_false hc (ihy _ e h _ _ _ _ a w hh h1 h2 h3 hs)
  | block i x ih =>
    intro hn e h kn kr kx Q a w hh h1 h2 h3 hs
    cases hn <;> simp only [dCode] at hh <;> first | cases hh | skip
    · refine Go.wp_block (ih _ e h _ _ _ _ a w hh (fun e h a w h4 hs' => h1 e h a w h4 hs') (fun e h a w h4 hs' => h2 e h a w h4 hs') (fun j e h a w h4 hs' => ?_) hs)
      show (if j = i then Q .normal a w else Q (.exit j) a w)
      rw [beq_eq] at h4
      by_cases hj : j = i
      · rw [if_pos hj]; rw [decide_eq_true hj] at h4; exact h1 e h a w h4 hs'
      · rw [if_neg hj]; rw [decide_eq_false hj] at h4; exact h3 j e h a w h4 hs'
    · unfold jn at hh
      rename_i ns p
      have fin : ∀ e h a w, rst ns (ns.map e) e0 (fun e => kn e h) = some r → St P nt h0 ι0 w0 e h a w → Q .normal a w := by
        intro e h a w h4 hs'
        obtain ⟨e', h5, h6⟩ := rst_map ns e e0 (fun e => kn e h)
        rw [h5] at h4
        exact h1 e' h a w h4 (hs'.rst h6)
      refine Go.wp_block (ih _ e h _ _ _ _ a w hh (fun e h a w h4 hs' => fin e h a w h4 hs') (fun e h a w h4 hs' => h2 e h a w h4 hs') (fun j e h a w h4 hs' => ?_) hs)
      show (if j = i then Q .normal a w else Q (.exit j) a w)
      rw [beq_eq] at h4
      by_cases hj : j = i
      · rw [if_pos hj]; rw [decide_eq_true hj] at h4; exact fin e h a w h4 hs'
      · rw [if_neg hj]; rw [decide_eq_false hj] at h4; exact h3 j e h a w h4 hs'
  | loop x ih =>
    intro hn e h kn kr kx Q a w hh h1 h2 h3 hs
    cases hn <;> simp only [dCode] at hh <;> first | cases hh | skip
    rename_i ns p
    let step : (List V → H → A) → List V → H → A := fun J l h => rst ns l e0 fun e => dCode P X S nt D x p e h (fun e h => J (ns.map e) h) kr kx
    refine wp_loop_fuel (fun n a w => ∃ e h, lp n step (ns.map e) h = some r ∧ St P nt h0 ι0 w0 e h a w) _ ⟨e, h, hh, hs⟩ fun n a w hI => ?_
    obtain ⟨e, h, h4, hs'⟩ := hI
    cases n with
    | zero => cases h4
    | succ n =>
      have h5 : rst ns (ns.map e) e0 (fun e => dCode P X S nt D x p e h (fun e h => lp n step (ns.map e) h) kr kx) = some r := h4
      obtain ⟨e', h6, h7⟩ := rst_map ns e e0 (fun e => dCode P X S nt D x p e h (fun e h => lp n step (ns.map e) h) kr kx)
      rw [h6] at h5
      exact ih _ e' h _ _ _ _ a w h5 (fun e h a w h8 hs'' => ⟨n, Nat.lt_succ_self n, e, h, h8, hs''⟩) (fun e h a w h8 hs'' => h2 e h a w h8 hs'') (fun i e h a w h8 hs'' => h3 i e h a w h8 hs'') (hs'.rst h7)
  | _ => intro hn e h kn kr kx Q a w hh; cases hn <;> simp only [dCode] at hh <;> cases hh
end
end GoEv
namespace GoEv
open Go (IntKind Value World Addr MapEntry Program Oper Op Operand Act Exit undef execOp Sem Result TypeId TypeDesc BinOp UnOp Code Func ResultVar)

noncomputable def nl (l : List V) (K : A) : A := List.casesOn l K (fun _ _ => none)
noncomputable abbrev opa : List Nat → List V → Env → (Env → A) → A
  | [], l, e, K => nl l (K e)
  | n :: ns, l, e, K => un l fun v l' => opa ns l' (upd e n v) K
noncomputable abbrev dRes (P : Program) : List ResultVar → Env → H → (List V → A) → A
  | [], e, h, K => K []
  | .tmp t :: r, e, h, K => dRes P r e h fun l => K (e t :: l)
  | .cell p t :: r, e, h, K => cd (hasInfo P t) (toP (e p) fun b o' => cd (isAg P t) (ldN h b o' (P.cellsOf t) fun l => dRes P r e h fun l' => K (.agg l :: l')) (ld h b o' fun v => dRes P r e h fun l' => K (v :: l'))) (none)
abbrev pack : List V → V
  | [v] => v
  | l => .tup l
noncomputable abbrev dRet (P : Program) (rs : List ResultVar) (e : Env) (h : H) : A := dRes P rs e h fun l => ret (pack l) h
noncomputable abbrev dFun (P : Program) (X : Nat → Nat) (D : Sm → Nat → Array Oper → List Nat → Env → H → (Env → H → A) → A) (fn : Func) (c : Code) (hn : Hn) (na : Nat) (S : Sm) (args : List V) (h : H) : A :=
  cd (Nat.ble na fn.ntmps) (opa (List.range na) args e0 fun e => dCode P X S fn.ntmps (D S fn.ntmps) c hn e h (fun e h => dRet P fn.results.toList e h) (fun e h => dRet P fn.results.toList e h) (fun _ _ _ => none)) (none)

section
variable {P : Program} {X : Nat → Nat} {S : Sm} {nt : Nat}
theorem opa_some : ∀ (ns : List Nat) (l : List V) (e : Env) (K : Env → A) (r : V × H), opa ns l e K = some r → l.length = ns.length ∧ ∃ e', K e' = some r ∧ ∀ t, e' t = e t ∨ ∃ i : Nat, ns[i]? = some t ∧ l[i]? = some (e' t)
  | [], l, e, K, r, hh => by
    unfold opa nl at hh
    cases l with
    | nil => exact ⟨rfl, e, hh, fun t => .inl rfl⟩
    | cons _ _ => cases hh
  | n :: ns, l, e, K, r, hh => by
    unfold opa at hh
    rw [un_some] at hh
    obtain ⟨v, l', rfl, hh⟩ := hh
    obtain ⟨h1, e', h2, h3⟩ := opa_some ns l' _ K r hh
    refine ⟨by simp [h1], e', h2, fun t => ?_⟩
    rcases h3 t with h4 | ⟨i, h4, h5⟩
    · by_cases ht : t = n
      · subst ht
        right
        refine ⟨0, rfl, ?_⟩
        rw [h4]; simp [upd]
      · left
        rw [h4]
        show (bif Nat.beq t n then v else e t) = e t
        rw [beq_eq, decide_eq_false ht]; rfl
    · exact .inr ⟨i + 1, by simpa using h4, by simpa using h5⟩
theorem run_loadVar {h : H} {ι : Inj} {w : World} (hr : HR P ι h w) {t : TypeId} {b o' : Nat} {L : Loc} (hL : ι b = some L) (hi : hasInfo P t = true) {r : V × H} {K : V → A}
    (hh : (cd (isAg P t) (ldN h b o' (P.cellsOf t) fun l => K (.agg l)) (ld h b o' fun v => K v)) = some r) :
    ∃ v cv, K v = some r ∧ VR ι v cv ∧ (Go.loadVar t ⟨L.cb, L.base + o', none⟩).run P w = .ok cv w := by
  obtain ⟨d, i, hd, hi'⟩ := hasInfo_some hi
  cases hag : isAg P t with
  | true =>
    rw [hag, cd_true] at hh
    obtain ⟨hb, ro, fz, l, h1, h2, h3⟩ := ldN_some hh
    obtain ⟨cs, g1, g2, g3, g4⟩ := hr.loads hL h1 h2
    obtain ⟨d, hd, hrow⟩ := isAg_true hag
    have hsz : (P.info? t).map (·.size) = some cs.length := by rw [g1]; simp [Go.Program.cellsOf, hi']
    have := Go.run_loadAt_mid w L.cb (L.base + o') t cs d g2 hd hrow hsz
    simp only [Go.Instr.loadAt, Go.Instr.sureAddr] at this
    exact ⟨_, .agg cs.toArray, h3, by simp only [VR]; exact ⟨_, rfl, by simpa using g3, by simpa using g4⟩, by simpa using this⟩
  | false =>
    rw [hag, cd_false] at hh
    obtain ⟨hb, ro, fz, l, v, h1, h2, h3⟩ := ld_some hh
    obtain ⟨cv, g1, g2, g3⟩ := hr.load hL h1 h2
    have hrow := isAg_false hag hd
    exact ⟨v, cv, h3, g2, by simp [Go.loadVar, run_isAgg hd, hrow, g1]⟩
def resOne (tmps : Array Value) : ResultVar → Go.Sem Value
  | .tmp t => pure (tmps.getD t undef)
  | .cell p t => do Go.loadVar t (← Go.asAddr (tmps.getD p undef))
theorem dRes_sound {h : H} {ι : Inj} {w : World} {a : Act} {e : Env} (hr : HR P ι h w) (he : ER P ι e nt a) : ∀ (rs : List ResultVar) (K : List V → A) (r : V × H), dRes P rs e h K = some r →
    ∃ l cs, K l = some r ∧ VRs ι l cs ∧ (rs.mapM (resOne a.tmps)).run P w = .ok cs w
  | [], K, r, hh => ⟨[], [], hh, VRs.nil, rfl⟩
  | .tmp t :: rs, K, r, hh => by
    unfold dRes at hh
    obtain ⟨l, cs, h1, h2, h3⟩ := dRes_sound hr he rs _ r hh
    refine ⟨_, _ :: cs, h1, VRs.cons (he.tmp t) h2, ?_⟩
    have h7 : (resOne a.tmps (.tmp t)).run P w = .ok (a.tmps.getD t undef) w := rfl
    rw [List.mapM_cons, Go.Sem.run_bind, h7]
    simp only [Go.Result.andThen]
    rw [Go.Sem.run_bind, h3]; rfl
  | .cell p t :: rs, K, r, hh => by
    unfold dRes at hh
    rw [bif_none, toP_some] at hh
    obtain ⟨hi, b, o', hp, hh⟩ := hh
    have hv := he.tmp p
    rw [hp] at hv; simp only [VR] at hv
    obtain ⟨L, hL, hv⟩ := hv
    obtain ⟨v, cv, h4, h5, h6⟩ := run_loadVar hr hL hi (K := fun v => dRes P rs e h fun l' => K (v :: l')) hh
    obtain ⟨l, cs, h1, h2, h3⟩ := dRes_sound hr he rs _ r h4
    refine ⟨_, cv :: cs, h1, VRs.cons h5 h2, ?_⟩
    have h7 : (resOne a.tmps (.cell p t)).run P w = .ok cv w := by
      show (do Go.loadVar t (← Go.asAddr (a.tmps.getD p undef)) : Go.Sem Value).run P w = .ok cv w
      rw [hv]; simp [Go.asAddr, h6]
    rw [List.mapM_cons, Go.Sem.run_bind, h7]
    simp only [Go.Result.andThen]
    rw [Go.Sem.run_bind, h3]; rfl
theorem dRet_sound {h : H} {ι : Inj} {w : World} {a : Act} {e : Env} {fn : Func} {v : V} {h' : H} (hr : HR P ι h w) (he : ER P ι e nt a) (hh : dRet P fn.results.toList e h = some (v, h')) :
    h' = h ∧ ∃ cv, (Go.results fn a.tmps).run P w = .ok cv w ∧ VR ι v cv := by
  unfold dRet at hh
  obtain ⟨l, cs, h1, h2, h3⟩ := dRes_sound hr he _ _ _ hh
  simp only [ret, Option.some.injEq, Prod.mk.injEq] at h1
  refine ⟨h1.2.symm, ?_⟩
  have h4 : (Go.results fn a.tmps).run P w = .ok (if h : cs.toArray.size = 1 then cs.toArray[0] else .tuple cs.toArray) w := by
    have h5 : Go.results fn a.tmps = (do let vs ← fn.results.mapM (resOne a.tmps); pure (if h : vs.size = 1 then vs[0] else .tuple vs)) := by
      unfold Go.results
      congr 1
    rw [h5, Go.Sem.run_bind, Array.mapM_eq_mapM_toList, Go.Sem.run_map, h3]
    rfl
  refine ⟨_, h4, ?_⟩
  rw [← h1.1]
  match l, cs, h2 with
  | [], cs, h2 => simp only [VRs] at h2; subst h2; simp only [pack, VR]; exact ⟨#[], rfl, VRs.nil⟩
  | [v], cs, h2 =>
    simp only [VRs] at h2; obtain ⟨x, xs, rfl, h5, rfl⟩ := h2
    simpa [pack] using h5
  | v1 :: v2 :: l, cs, h2 =>
    have hlen := h2.length
    simp only [List.length_cons] at hlen
    have : ¬ (cs.toArray.size = 1) := by simp; omega
    rw [dif_neg this]
    simp only [pack, VR]
    exact ⟨cs.toArray, rfl, h2⟩
theorem dFun_sound {D : Sm → Nat → Array Oper → List Nat → Env → H → (Env → H → A) → A} (hX : XOK P X) (hS : SOK P S) (hD : ∀ nt, DOK P nt (D S nt)) {f : Nat} {fn : Func} {c : Code} {hn : Hn} {na : Nat} (hf : P.funcs[f]? = some fn) (hb : fn.body = some c)
    {args : List V} {h : H} {v : V} {h' : H} (hh : dFun P X D fn c hn na S args h = some (v, h')) {ι : Inj} {w : World} {cargs : Array Value} (hr : HR P ι h w) (ha : VRs ι args cargs.toList) (hg : ∀ g, g < P.globals.size → ∃ room, ι g = some ⟨g, 0, room⟩) :
    Go.Calls P f cargs w fun ex w' => ∃ cv ι', ex = .returned cv ∧ VR ι' v cv ∧ HR P ι' h' w' ∧ Ext h ι w h' ι' w' := by
  unfold dFun at hh
  rw [bif_none, ble_eq] at hh
  obtain ⟨hna, hh⟩ := hh
  have hna := of_decide_eq_true hna
  obtain ⟨h1, e, h2, h3⟩ := opa_some _ _ _ _ _ hh
  have hlen : cargs.size = na := by
    have := ha.length
    simp only [Array.length_toList] at this
    rw [this, h1]; simp
  refine Go.calls_of_wp hf hb ?_
  have he : ER P ι e fn.ntmps { tmps := cargs ++ Array.replicate (fn.ntmps - cargs.size) undef, defers := [] } := by
    refine ⟨by simp; omega, fun t => ?_, hg, rfl⟩
    rcases h3 t with h4 | ⟨i, h4, h5⟩
    · rw [h4]; simp [e0, VR]
    · have hi : i = t := by
        have h6 := List.getElem?_eq_some_iff.1 h4
        obtain ⟨h7, h8⟩ := h6
        simpa using h8
      subst hi
      obtain ⟨x, h6, h7⟩ := ha.get i _ h5
      have hlt : i < cargs.size := by have := (List.getElem?_eq_some_iff.1 h6).1; simpa using this
      have h8 : cargs[i]? = some x := by simpa using h6
      have h9 : (cargs ++ Array.replicate (fn.ntmps - cargs.size) undef)[i]? = some x := by rw [Array.getElem?_append_left hlt]; exact h8
      show VR ι (e i) ((cargs ++ Array.replicate (fn.ntmps - cargs.size) undef).getD i undef)
      simp [h9]
      exact h7
  have fin : ∀ (e : Env) (h1 : H) (a : Act) (w1 : World), dRet P fn.results.toList e h1 = some (v, h') → St P fn.ntmps h ι w e h1 a w1 → a.defers = [] ∧ ∃ cv, (Go.results fn a.tmps).run P w1 = .ok cv w1 ∧ ∃ cv' ι', Go.Ending.returned cv = .returned cv' ∧ VR ι' v cv' ∧ HR P ι' h' w1 ∧ Ext h ι w h' ι' w1 := by
    intro e h1 a w1 h4 ⟨ι1, hr1, he1, hx1⟩
    obtain ⟨rfl, cv, h5, h6⟩ := dRet_sound hr1 he1 h4
    exact ⟨he1.defers, cv, h5, cv, ι1, rfl, h6, hr1, hx1⟩
  exact dCode_sound hX hS (hD _) hr.dom c hn e h _ _ _ _ _ w h2 (fun e h1 a w1 h4 hs => fin e h1 a w1 h4 hs) (fun e h1 a w1 h4 hs => fin e h1 a w1 h4 hs) (fun i e h1 a w1 h4 hs => nomatch h4) ⟨ι, hr, he, Ext.refl _ _ _⟩

/-! ### the table of functions -/
inductive Tr where
  | nl
  | lf (f : Nat) (F : Sm → List V → H → A)
  | nd (k : Nat) (l r : Tr)
noncomputable def Tr.get (t : Tr) (f : Nat) (S : Sm) (args : List V) (h : H) : A :=
  Tr.rec (motive := fun _ => A) none (fun g F => Bool.casesOn (Nat.beq f g) none (F S args h)) (fun k _ _ l r => Bool.casesOn (Nat.ble k f) l r) t
def Tr.All (p : Nat → (Sm → List V → H → A) → Prop) : Tr → Prop
  | .nl => True
  | .lf f F => p f F
  | .nd _ l r => l.All p ∧ r.All p
theorem Tr.get_some {p : Nat → (Sm → List V → H → A) → Prop} {f : Nat} {S : Sm} {args : List V} {h : H} {r : V × H} : ∀ {t : Tr}, t.All p → t.get f S args h = some r → ∃ F, p f F ∧ F S args h = some r
  | .nl, _, hh => by cases hh
  | .lf g F, ha, hh => by
    have h1 : (Bool.casesOn (Nat.beq f g) none (F S args h) : A) = some r := hh
    rw [bool_none, beq_eq] at h1
    have := of_decide_eq_true h1.1
    subst this
    exact ⟨F, ha, h1.2⟩
  | .nd k l r', ha, hh => by
    have h1 : (Bool.casesOn (Nat.ble k f) (l.get f S args h) (r'.get f S args h) : A) = some r := hh
    cases hb : Nat.ble k f with
    | true => rw [hb] at h1; exact Tr.get_some ha.2 h1
    | false => rw [hb] at h1; exact Tr.get_some ha.1 h1
noncomputable def Sem (t : Tr) (n : Nat) : Sm := Nat.rec (motive := fun _ => Sm) (fun _ _ _ => none) (fun _ ih f args h => t.get f ih args h) n
/-- F is what function f comes to -/
def FOK (P : Program) (X : Nat → Nat) (D : Sm → Nat → Array Oper → List Nat → Env → H → (Env → H → A) → A) (f : Nat) (F : Sm → List V → H → A) : Prop :=
  ∃ fn c hn na, P.funcs[f]? = some fn ∧ fn.body = some c ∧ F = dFun P X D fn c hn na
theorem Sem_sound {D : Sm → Nat → Array Oper → List Nat → Env → H → (Env → H → A) → A} (hX : XOK P X) (hD : ∀ S, SOK P S → ∀ nt, DOK P nt (D S nt)) {t : Tr} (ht : t.All (FOK P X D)) : ∀ n, SOK P (GoEv.Sem t n)
  | 0 => by intro f args h v h' hh; cases hh
  | n + 1 => by
    intro f args h v h' hh ι w cargs hr ha hg
    have ih := Sem_sound hX hD ht n
    have hh' : t.get f (GoEv.Sem t n) args h = some (v, h') := hh
    obtain ⟨F, ⟨fn, c, hn, na, h1, h2, rfl⟩, h3⟩ := Tr.get_some ht hh'
    exact dFun_sound hX ih (hD _ ih) h1 h2 h3 hr ha hg
end
end GoEv
namespace GoEv
open Go (IntKind Value World Addr MapEntry Program Oper Op Operand Act Exit undef execOp Sem Result TypeId TypeDesc BinOp UnOp Code Func)

/-- equal values of a simple kind -/
def eq0 : V → V → Bool
  | .bool a, .bool b => a == b
  | .i a, .i b => decide (a = b)
  | .u8 a, .u8 b => decide (a = b)
  | .int k a, .int j b => kb k j && decide (a = b)
  | .str l n, .str m k => Nat.beq l m && Nat.beq n k
  | .ptr b o, .ptr c p => Nat.beq b c && Nat.beq o p
  | .nilp, .nilp => true
  | .sl b o l c s k, .sl b' o' l' c' s' k' => Nat.beq b b' && Nat.beq o o' && Nat.beq l l' && Nat.beq c c' && Nat.beq s s' && (k == k')
  | .nils, .nils => true
  | .map b, .map c => Nat.beq b c
  | .nilm, .nilm => true
  | .fn f [] [], .fn g [] [] => Nat.beq f g
  | .nilf, .nilf => true
  | .nili, .nili => true
  | _, _ => false
theorem eq0_eq : ∀ {a b : V}, eq0 a b = true → a = b := by
  intro a b h
  unfold eq0 at h
  split at h <;> (try simp only [Bool.and_eq_true, beq_eq, decide_eq_true_eq, beq_iff_eq] at h) <;> first
    | rfl
    | (cases h; done)
    | (subst h; rfl)
    | skip
  · obtain ⟨h1, rfl⟩ := h; rw [kb_eq h1]
  · obtain ⟨rfl, rfl⟩ := h; rfl
  · obtain ⟨rfl, rfl⟩ := h; rfl
  · obtain ⟨⟨⟨⟨⟨rfl, rfl⟩, rfl⟩, rfl⟩, rfl⟩, rfl⟩ := h; rfl
def eq1 : V → V → Bool
  | .iface t x, .iface u y => Nat.beq t u && eq0 x y
  | a, b => eq0 a b
theorem eq1_eq {a b : V} (h : eq1 a b = true) : a = b := by
  unfold eq1 at h
  split at h
  · rw [Bool.and_eq_true, beq_eq] at h
    rw [of_decide_eq_true h.1, eq0_eq h.2]
  · exact eq0_eq h
noncomputable def eqL (l : List V) : List V → Bool := List.rec (motive := fun _ => List V → Bool) (fun r => match r with | [] => true | _ => false) (fun a _ ih r => match r with | b :: r => eq1 a b && ih r | [] => false) l
theorem eqL_eq : ∀ {l r : List V}, eqL l r = true → l = r
  | [], [], _ => rfl
  | [], _ :: _, h => by cases h
  | _ :: _, [], h => by cases h
  | a :: l, b :: r, h => by
    have h' : (eq1 a b && eqL l r) = true := h
    rw [Bool.and_eq_true] at h'
    rw [eq1_eq h'.1, eqL_eq h'.2]
noncomputable def eq2 : V → V → Bool
  | .agg l, .agg r => eqL l r
  | a, b => eq1 a b
theorem eq2_eq {a b : V} (h : eq2 a b = true) : a = b := by
  unfold eq2 at h
  split at h
  · rw [eqL_eq h]
  · exact eq1_eq h
noncomputable def veq (a b : V) (K : A) : A := Bool.casesOn (eq2 a b) none K
theorem veq_some {a b : V} {K : A} {r : V × H} (h : veq a b K = some r) : a = b ∧ K = some r := by
  unfold veq at h
  rw [bool_none] at h
  exact ⟨eq2_eq h.1, h.2⟩
noncomputable def chg (v : V) (want : Bool) (R : A → A) (K : A) : A := match want with
  | true => gd v K fun b => cnd b (R K) K
  | false => gd v K fun b => cnd b K (R K)
theorem chg_some {v : V} {want : Bool} {R : A → A} {K : A} {r : V × H} (hh : chg v want R K = some r) :
    (v = .bool want ∧ R K = some r) ∨ ((v = .bool (!want) ∨ ∃ l, v = .tup l) ∧ K = some r) := by
  unfold chg at hh
  cases want <;> simp only [] at hh <;> rw [gd_some] at hh <;> rcases hh with ⟨b, h1, h2⟩ | ⟨l, h1, h2⟩
  · rw [cnd_some] at h2
    rcases h2 with ⟨rfl, h2⟩ | ⟨rfl, h2⟩
    · exact .inr ⟨.inl h1, h2⟩
    · exact .inl ⟨h1, h2⟩
  · exact .inr ⟨.inr ⟨l, h1⟩, h2⟩
  · rw [cnd_some] at h2
    rcases h2 with ⟨rfl, h2⟩ | ⟨rfl, h2⟩
    · exact .inl ⟨h1, h2⟩
    · exact .inr ⟨.inl h1, h2⟩
  · exact .inr ⟨.inr ⟨l, h1⟩, h2⟩

abbrev rd (o : Oper) : List Nat := o.op.operands.toList.filterMap fun x => match x with | .tmp t => some t | _ => none
abbrev mem (l : List Nat) (t : Nat) : Bool := l.any fun s => Nat.beq t s
theorem mem_true {l : List Nat} {t : Nat} : mem l t = true ↔ t ∈ l := by
  unfold mem
  rw [List.any_eq_true]
  constructor
  · rintro ⟨s, h1, h2⟩; rw [beq_eq] at h2; rw [of_decide_eq_true h2]; exact h1
  · intro h; exact ⟨t, h, by rw [beq_eq]; simp⟩
abbrev msk (o : Oper) (e : Env) : Env := fun t => bif mem (rd o) t then e t else .undef
theorem msk_congr {o : Oper} {e e' : Env} (h : ∀ t ∈ rd o, e t = e' t) : msk o e = msk o e' := by
  funext t
  unfold msk
  cases hm : mem (rd o) t with
  | true => rw [cond_true, cond_true]; exact h t (mem_true.1 hm)
  | false => rfl
/-- what must come before each operation -/
abbrev bfrM (acc : List Nat) (o : Oper) : Nat := o.after.toList.foldl (fun s e => bif Go.Region.binds .any e then Nat.lor (Nat.lor s (2 ^ e.on)) (acc.getD e.on 0) else s) 0
abbrev bfrL : List Oper → List Nat → List Nat
  | [], acc => acc
  | o :: r, acc => bfrL r (acc ++ [bfrM acc o])
abbrev bef (ms : List Nat) (i j : Nat) : Bool := Nat.testBit (ms.getD i 0) j
abbrev opAt (ops : Array Oper) (i : Nat) : Oper := ops.getD i default
abbrev gds (ops : Array Oper) (o : Oper) : List Nat := match o.guard with
  | some (g, _) => ((ops[g]?).bind (·.dst)).toList
  | none => []
abbrev dsts (ops : Array Oper) (l : List Nat) : List Nat := l.filterMap fun i => (ops[i]?).bind (·.dst)
/-- two stores of no set order, the last two of a region -/
abbrev plainSt (o : Oper) : Bool := match o.op, o.guard, o.dst with
  | .store .., none, none => true
  | _, _, _ => false
abbrev isPr (ops : Array Oper) (ms : List Nat) (i : Nat) (r : List Nat) : Bool := match r with
  | [j] => !bef ms j i && plainSt (opAt ops i) && plainSt (opAt ops j)
  | _ => false
abbrev okS (P : Program) (ops : Array Oper) (ms : List Nat) : List Nat → Bool
  | [] => true
  | i :: r => (match ops[i]? with
    | some o => (rd o ++ gds ops o).all (fun t => !mem (dsts ops (i :: r)) t && (List.range ops.size).all fun j => match (ops[j]?).bind (·.dst) with
          | some d => !Nat.beq d t || bef ms i j
          | none => true) &&
        (match o.dst with | some d => !mem (dsts ops r) d | none => true) &&
        (match o.guard with | some (g, _) => ((ops[g]?).bind (·.dst)).isSome | none => true) &&
        (o.after.toList.all fun d => !Go.Region.binds .any d || (Nat.blt d.on ops.size && !mem (i :: r) d.on)) &&
        (!Nat.beq (cls P o.op) 3 || (r.all fun j => Nat.beq (cls P (opAt ops j).op) 0 || bef ms j i) || isPr ops ms i r)
    | none => false) && !mem r i && okS P ops ms r
abbrev okP (P : Program) (ops : Array Oper) (ms σ : List Nat) : Bool := match σ.reverse with
  | j :: i :: r => !isPr ops ms i [j] || okS P ops ms (i :: j :: r).reverse
  | _ => true
abbrev okσ (P : Program) (ops : Array Oper) (ms σ : List Nat) : Bool := (List.range ops.size).all (mem σ) && (okS P ops ms σ && okP P ops ms σ)

noncomputable abbrev chk1 (P : Program) (ops : Array Oper) (e : Env) (h : H) (j : Nat) (K : A) : A := match ops[j]? with
  | some o => match o.dst with
    | some d => match o.guard with
      | none => dR P o (msk o e) h fun v => veq v (e d) K
      | some (g, want) => chg (gv ops e g) want (fun K => dR P o (msk o e) h fun v => veq v (e d) K) K
    | none => none
  | none => none
noncomputable abbrev chks (P : Program) (ops : Array Oper) (e : Env) (h : H) : List Nat → A → A
  | [], K => K
  | j :: r, K => chk1 P ops e h j (chks P ops e h r K)
abbrev cks (P : Program) (ms : List Nat) (o : Oper) (i : Nat) (js : List Nat) : List Nat := bif Nat.beq (cls P o.op) 3 then js.filter fun j => !bef ms i j else []
abbrev jsn (P : Program) (o : Oper) (i : Nat) (js : List Nat) : List Nat := bif Nat.beq (cls P o.op) 1 then i :: js else js
/-- two places apart -/
noncomputable def dsj (b o n b' o' n' : Nat) (K : A) : A := Bool.casesOn (Nat.beq b b') K (Bool.casesOn (Nat.ble (Nat.add o n) o') (Bool.casesOn (Nat.ble (Nat.add o' n') o) none K) K)
abbrev stT : Op → Nat × Operand
  | .store t a _ => (t, a)
  | _ => (0, .tmp 0)
noncomputable abbrev dPair (P : Program) (X : Nat → Nat) (S : Sm) (ops : Array Oper) (ms : List Nat) (i j : Nat) (js : List Nat) (e : Env) (h : H) (K : Env → H → A) : A :=
  toP (evA P (msk (opAt ops i) e) (stT (opAt ops i).op).2) fun b p => toP (evA P (msk (opAt ops j) e) (stT (opAt ops j).op).2) fun b' p' =>
    dsj b p (P.cellsOf (stT (opAt ops i).op).1) b' p' (P.cellsOf (stT (opAt ops j).op).1) <|
      dW P X S (opAt ops i) (msk (opAt ops i) e) h fun _ h1 => dW P X S (opAt ops j) (msk (opAt ops j) e) h1 fun _ h2 => dW P X S (opAt ops j) (msk (opAt ops j) e) h fun _ h1' =>
        chks P ops e h1 (cks P ms (opAt ops i) i js) <| chks P ops e h2 (cks P ms (opAt ops j) j js) <| chks P ops e h1' (cks P ms (opAt ops j) j js) <| chks P ops e h2 (cks P ms (opAt ops i) i js) <| K e h2
noncomputable abbrev dDr (P : Program) (X : Nat → Nat) (S : Sm) (ops : Array Oper) (ms : List Nat) : List Nat → List Nat → Env → H → (Env → H → A) → A
  | [], js, e, h, K => K e h
  | i :: r, js, e, h, K => match ops[i]? with
    | none => none
    | some o => match o.guard with
      | none => cd (isPr ops ms i r) (dPair P X S ops ms i (r.headD 0) js e h K) <| dAny P X S o (msk o e) h fun v h => chks P ops (put e o.dst v) h (cks P ms o i js) (dDr P X S ops ms r (jsn P o i js) (put e o.dst v) h K)
      | some (g, want) => grd (gv ops e g) want h (fun J => dAny P X S o (msk o e) h J) fun v h => chks P ops (put e o.dst v) h (cks P ms o i js) (dDr P X S ops ms r (jsn P o i js) (put e o.dst v) h K)
/-- all but the last operation -/
abbrev popA (ops : Array Oper) : Array Oper := ⟨ops.toList.dropLast⟩
/-- the last operation comes behind all others -/
abbrev okZ (ops : Array Oper) : Bool := match ops.toList.getLast? with
  | some o => o.guard.isNone && (List.range (ops.size - 1)).all (bef (bfrL ops.toList []) (ops.size - 1)) &&
      ((List.range ops.size).all fun i => (opAt ops i).after.toList.all fun d => !Go.Region.binds .any d || Nat.blt d.on i) &&
      (popA ops).toList.all (fun o => match o.guard with | some (g, _) => Nat.blt g (ops.size - 1) | none => true)
  | none => false
noncomputable abbrev dDrN (P : Program) (X : Nat → Nat) (S : Sm) : Nat → Array Oper → List Nat → Env → H → (Env → H → A) → A
  | 0, ops, σ, e, h, K => cd (okσ P ops (bfrL ops.toList []) σ) (dDr P X S ops (bfrL ops.toList []) σ [] e h K) (none)
  | k + 1, ops, σ, e, h, K => cd (okσ P ops (bfrL ops.toList []) σ) (dDr P X S ops (bfrL ops.toList []) σ [] e h K)
      (cd (okZ ops) (dDrN P X S k (popA ops) σ.dropLast e h fun e h => dAny P X S (opAt ops (ops.size - 1)) e h fun v h => K (put e (opAt ops (ops.size - 1)).dst v) h) (none))
noncomputable abbrev dDraw (P : Program) (X : Nat → Nat) (S : Sm) (nt : Nat) (ops : Array Oper) (σ : List Nat) (e : Env) (h : H) (K : Env → H → A) : A := dDrN P X S 4 ops σ e h K

/-! ### the order -/
theorem foldl_bits (acc : List Nat) (k : Nat) (D : Nat → Prop) : ∀ (l : List Go.Edge) (s : Nat), (Nat.testBit s k = true → D k) → (∀ d ∈ l, Go.Region.binds .any d = true → D d.on ∧ (Nat.testBit (acc.getD d.on 0) k = true → D k)) →
    Nat.testBit (l.foldl (fun s e => bif Go.Region.binds .any e then Nat.lor (Nat.lor s (2 ^ e.on)) (acc.getD e.on 0) else s) s) k = true → D k
  | [], s, h, _, hb => h hb
  | d :: l, s, h, hd, hb => by
    rw [List.foldl_cons] at hb
    refine foldl_bits acc k D l _ ?_ (fun x hx => hd x (by simp [hx])) hb
    intro hs
    cases hbd : Go.Region.binds .any d with
    | false => rw [hbd] at hs; exact h hs
    | true =>
      rw [hbd, cond_true] at hs
      obtain ⟨h1, h2⟩ := hd d (by simp) hbd
      have h3 : ((s ||| 2 ^ d.on) ||| acc.getD d.on 0).testBit k = true := hs
      rw [Nat.testBit_or, Nat.testBit_or, Nat.testBit_two_pow] at h3
      simp only [Bool.or_eq_true, decide_eq_true_eq] at h3
      rcases h3 with (h3 | h3) | h3
      · exact h h3
      · rw [← h3]; exact h1
      · exact h2 h3
theorem bfrL_sound (D : Nat → Prop) : ∀ (l : List Oper) (acc : List Nat) (done : List Oper), acc.length = done.length →
    (∀ (j : Nat) (o : Oper), (done ++ l)[j]? = some o → D j → ∀ d ∈ o.after.toList, Go.Region.binds .any d = true → D d.on) →
    (∀ (j : Nat) (o : Oper), done[j]? = some o → (∀ d ∈ o.after.toList, Go.Region.binds .any d = true → D d.on) → ∀ k, Nat.testBit (acc.getD j 0) k = true → D k) →
    ∀ (j : Nat) (o : Oper), (done ++ l)[j]? = some o → (∀ d ∈ o.after.toList, Go.Region.binds .any d = true → D d.on) → ∀ k, Nat.testBit ((bfrL l acc).getD j 0) k = true → D k
  | [], acc, done, hl, hD, hacc => by
    intro j o ho
    rw [List.append_nil] at ho
    exact hacc j o ho
  | o1 :: l, acc, done, hl, hD, hacc => by
    have hsplit : done ++ o1 :: l = (done ++ [o1]) ++ l := by simp
    rw [hsplit]
    refine bfrL_sound D l (acc ++ [bfrM acc o1]) (done ++ [o1]) (by simp [hl]) (by rw [← hsplit]; exact hD) ?_
    intro j o ho hdeps k hk
    by_cases hj : j < done.length
    · rw [List.getElem?_append_left hj] at ho
      have : (acc ++ [bfrM acc o1]).getD j 0 = acc.getD j 0 := by simp [List.getD, List.getElem?_append_left (show j < acc.length by omega)]
      rw [this] at hk
      exact hacc j o ho hdeps k hk
    · have hj2 : j = done.length := by
        have := (List.getElem?_eq_some_iff.1 ho).1
        simp at this; omega
      subst hj2
      have ho1 : o1 = o := by simpa using ho
      subst ho1
      have : (acc ++ [bfrM acc o1]).getD done.length 0 = bfrM acc o1 := by rw [← hl]; simp [List.getD]
      rw [this] at hk
      refine foldl_bits acc k D _ 0 (by simp) (fun d hd hb => ⟨hdeps d hd hb, fun hbit => ?_⟩) hk
      by_cases hlt : d.on < done.length
      · obtain ⟨o2, ho2⟩ : ∃ o2, done[d.on]? = some o2 := ⟨done[d.on], List.getElem?_eq_getElem hlt⟩
        refine hacc d.on o2 ho2 ?_ k hbit
        exact hD d.on o2 (by rw [List.getElem?_append_left hlt]; exact ho2) (hdeps d hd hb)
      · have : acc.getD d.on 0 = 0 := by simp [List.getD, List.getElem?_eq_none (show acc.length ≤ d.on by omega)]
        rw [this] at hbit; simp at hbit
theorem bef_sound {ops : Array Oper} {D : Nat → Prop} (hD : ∀ (j : Nat) (o : Oper), ops[j]? = some o → D j → ∀ d ∈ o.after.toList, Go.Region.binds .any d = true → D d.on)
    {i : Nat} {o : Oper} (ho : ops[i]? = some o) (hi : ∀ d ∈ o.after.toList, Go.Region.binds .any d = true → D d.on) {k : Nat} (hk : bef (bfrL ops.toList []) i k = true) : D k :=
  bfrL_sound D ops.toList [] [] rfl (by simpa using hD) (by simp) i o (by simpa using ho) hi k hk

/-! ### the trace of a run -/
section
variable (P : Program) (ops : Array Oper) (ms : List Nat) (nt : Nat) (f : Env)
def unw (o : Oper) : Prop := ∃ g want, o.guard = some (g, want) ∧ (gv ops f g = .bool (!want) ∨ ∃ l, gv ops f g = .tup l)
def wnt (o : Oper) : Prop := o.guard = none ∨ ∃ g want, o.guard = some (g, want) ∧ gv ops f g = .bool want
def dv (o : Oper) (v : V) : Prop := ∀ d, o.dst = some d → f d = v
def Rok (h : H) (j : Nat) : Prop := ∃ o, ops[j]? = some o ∧ (unw ops f o ∨ ∃ v, dv f o v ∧ ∀ h2, Sup h h2 → GR P o (msk o f) nt h2 v)
/-- the same memory, read by read -/
def HEq' (a b : H) : Prop := a.n = b.n ∧ ∀ k, a.get k = b.get k
inductive TR : List Nat → List Nat → H → H → Prop
  | nil {js : List Nat} {h : H} : TR js [] h h
  | skip {js r : List Nat} {i : Nat} {h hf : H} {o : Oper} : ops[i]? = some o → unw ops f o → dv f o (.tup []) → TR (jsn P o i js) r h hf → TR js (i :: r) h hf
  | pr {js r : List Nat} {i : Nat} {h hf : H} {o : Oper} {v : V} : ops[i]? = some o → wnt ops f o → cls P o.op = 0 → dv f o v → GQ P o (msk o f) nt v → TR (jsn P o i js) r h hf → TR js (i :: r) h hf
  | rr {js r : List Nat} {i : Nat} {h hf : H} {o : Oper} {v : V} : ops[i]? = some o → wnt ops f o → cls P o.op = 1 → dv f o v → (∀ h2, Sup h h2 → GR P o (msk o f) nt h2 v) → TR (jsn P o i js) r h hf → TR js (i :: r) h hf
  | ar {js r : List Nat} {i : Nat} {h hf : H} {o : Oper} {x : Blk} {vf : Nat → V} : ops[i]? = some o → wnt ops f o → cls P o.op = 2 → dv f o (vf h.n) → GA P o (msk o f) nt x vf → TR (jsn P o i js) r (h.push x) hf → TR js (i :: r) h hf
  | wr {js r : List Nat} {i : Nat} {h h' hf : H} {o : Oper} {v : V} : ops[i]? = some o → wnt ops f o → cls P o.op = 3 → dv f o v → GW P o (msk o f) nt h v h' → (∀ j ∈ js, bef ms i j = true ∨ Rok P ops nt f h' j) → (∀ j ∈ r, cls P (opAt ops j).op = 0 ∨ bef ms j i = true) → TR (jsn P o i js) r h' hf → TR js (i :: r) h hf
  | ws {js : List Nat} {i j : Nat} {h h1 h2 h3 h4 : H} {oi oj : Oper} : ops[i]? = some oi → ops[j]? = some oj → isPr ops ms i [j] = true → oi.guard = none → oj.guard = none → cls P oi.op = 3 → cls P oj.op = 3 → oi.dst = none → oj.dst = none →
      GW P oi (msk oi f) nt h (.tup []) h1 → GW P oj (msk oj f) nt h1 (.tup []) h2 → GW P oj (msk oj f) nt h (.tup []) h3 → GW P oi (msk oi f) nt h3 (.tup []) h4 → HEq' h4 h2 →
      (∀ k ∈ js, bef ms i k = true ∨ Rok P ops nt f h1 k) → (∀ k ∈ js, bef ms j k = true ∨ Rok P ops nt f h2 k) → (∀ k ∈ js, bef ms j k = true ∨ Rok P ops nt f h3 k) → (∀ k ∈ js, bef ms i k = true ∨ Rok P ops nt f h4 k) → TR js [i, j] h h2
end

section
variable {P : Program} {X : Nat → Nat} {S : Sm} {ops : Array Oper} {ms : List Nat} {nt : Nat}
theorem cls_le (op : Op) : cls P op ≤ 3 := by
  unfold cls
  repeat' split
  all_goals omega
theorem dsts_cons {i : Nat} {o : Oper} (ho : ops[i]? = some o) (r : List Nat) (t : Nat) : t ∈ dsts ops (i :: r) ↔ o.dst = some t ∨ t ∈ dsts ops r := by
  unfold dsts
  simp only [List.filterMap_cons, ho, Option.bind_some]
  cases hd : o.dst with
  | none => simp
  | some d => simp [eq_comm]
theorem put_other {e : Env} {o : Oper} {v : V} {t : Nat} (h : o.dst ≠ some t) : put e o.dst v t = e t := by
  cases hd : o.dst with
  | none => rfl
  | some d =>
    show (bif Nat.beq t d then v else e t) = e t
    rw [beq_eq, decide_eq_false (fun e => h (by rw [hd, e]))]; rfl
theorem put_self {e : Env} {d : Nat} {v : V} : put e (some d) v d = v := by simp [put, upd]
structure OK1 (P : Program) (ops : Array Oper) (ms : List Nat) (i : Nat) (r : List Nat) (o : Oper) : Prop where
  rds : ∀ t ∈ rd o ++ gds ops o, t ∉ dsts ops (i :: r) ∧ ∀ j d, j < ops.size → (ops[j]?).bind (·.dst) = some d → d = t → bef ms i j = true
  dst : ∀ d, o.dst = some d → d ∉ dsts ops r
  gd : ∀ g want, o.guard = some (g, want) → ((ops[g]?).bind (·.dst)).isSome = true
  deps : ∀ d ∈ o.after.toList, Go.Region.binds .any d = true → d.on < ops.size ∧ d.on ∉ i :: r
  wr : cls P o.op = 3 → (∀ j ∈ r, cls P (opAt ops j).op = 0 ∨ bef ms j i = true) ∨ isPr ops ms i r = true
  new : i ∉ r
theorem okS_cons {i : Nat} {r : List Nat} (h : okS P ops ms (i :: r) = true) : ∃ o, ops[i]? = some o ∧ OK1 P ops ms i r o ∧ okS P ops ms r = true := by
  unfold okS at h
  rw [Bool.and_eq_true, Bool.and_eq_true] at h
  obtain ⟨⟨h1, h2⟩, h3⟩ := h
  cases ho : ops[i]? with
  | none => rw [ho] at h1; cases h1
  | some o =>
    rw [ho] at h1
    simp only [Bool.and_eq_true] at h1
    obtain ⟨⟨⟨⟨q1, q2⟩, q3⟩, q4⟩, q5⟩ := h1
    refine ⟨o, rfl, ⟨fun t ht => ?_, fun d hd => ?_, fun g want hg => ?_, fun d hd hb => ?_, fun hc => ?_, fun hm => ?_⟩, h3⟩
    · have := List.all_eq_true.1 q1 t ht
      rw [Bool.and_eq_true] at this
      refine ⟨fun hm => ?_, fun j d hj hd hdt => ?_⟩
      · rw [mem_true.2 hm] at this; cases this.1
      · have h4 := List.all_eq_true.1 this.2 j (by simpa using hj)
        rw [hd] at h4
        simp only [beq_eq, hdt, decide_true, Bool.not_true, Bool.false_or] at h4
        exact h4
    · rw [hd] at q2
      intro hm
      have q2' : (!mem (dsts ops r) d) = true := q2
      rw [mem_true.2 hm] at q2'; cases q2'
    · rw [hg] at q3; exact q3
    · have := List.all_eq_true.1 q4 d hd
      rw [hb] at this
      simp only [Bool.not_true, Bool.false_or, Bool.and_eq_true] at this
      refine ⟨Nat.le_of_ble_eq_true this.1, fun hm => ?_⟩
      rw [mem_true.2 hm] at this; cases this.2
    · rw [hc] at q5
      rcases (by simpa using q5 : (∀ x ∈ r, cls P (opAt ops x).op = 0 ∨ bef ms x i = true) ∨ isPr ops ms i r = true) with h5 | h5
      · exact .inl h5
      · exact .inr h5
    · rw [mem_true.2 hm] at h2; cases h2
theorem gv_eq {e f : Env} {g : Nat} (h : ∀ t, (ops[g]?).bind (·.dst) = some t → f t = e t) : gv ops f g = gv ops e g := by
  unfold gv
  cases hd : (ops[g]?).bind (·.dst) with
  | none => rfl
  | some t => exact h t hd
/-- the loads behind a writer -/
theorem chks_some {e : Env} {h : H} {K : A} {r : V × H} : ∀ (js : List Nat), chks P ops e h js K = some r → K = some r ∧ ∀ j ∈ js, ∃ o, ops[j]? = some o ∧
    ((∃ g want, o.guard = some (g, want) ∧ (gv ops e g = .bool (!want) ∨ ∃ l, gv ops e g = .tup l)) ∨ ∃ d, o.dst = some d ∧ ∀ h2, Sup h h2 → GR P o (msk o e) nt h2 (e d))
  | [], hh => ⟨hh, by simp⟩
  | j :: js, hh => by
    have hh' : chk1 P ops e h j (chks P ops e h js K) = some r := hh
    unfold chk1 at hh'
    have fin : ∀ o d, ops[j]? = some o → o.dst = some d → (dR P o (msk o e) h fun v => veq v (e d) (chks P ops e h js K)) = some r → K = some r ∧ ∀ k ∈ j :: js, ∃ o, ops[k]? = some o ∧
        ((∃ g want, o.guard = some (g, want) ∧ (gv ops e g = .bool (!want) ∨ ∃ l, gv ops e g = .tup l)) ∨ ∃ d, o.dst = some d ∧ ∀ h2, Sup h h2 → GR P o (msk o e) nt h2 (e d)) := by
      intro o d ho hd hq
      obtain ⟨v, h1, h2⟩ := dR_sound (nt := nt) hq
      obtain ⟨rfl, h3⟩ := veq_some h1
      obtain ⟨h4, h5⟩ := chks_some js h3
      refine ⟨h4, fun k hk => ?_⟩
      rcases List.mem_cons.1 hk with rfl | hk
      · exact ⟨o, ho, .inr ⟨d, hd, h2⟩⟩
      · exact h5 k hk
    split at hh'
    · rename_i o ho
      split at hh'
      · rename_i d hd
        split at hh'
        · exact fin o d ho hd hh'
        · rename_i g want hg
          rcases chg_some hh' with ⟨h1, h2⟩ | ⟨h1, h2⟩
          · exact fin o d ho hd h2
          · obtain ⟨h4, h5⟩ := chks_some js h2
            refine ⟨h4, fun k hk => ?_⟩
            rcases List.mem_cons.1 hk with rfl | hk
            · exact ⟨o, ho, .inl ⟨g, want, hg, h1⟩⟩
            · exact h5 k hk
      · cases hh'
    · cases hh'
/-! ### two stores of no set order -/
theorem HEq'.symm {a b : H} (h : HEq' a b) : HEq' b a := ⟨h.1.symm, fun k => (h.2 k).symm⟩
def wrL (l : List V) (p : Nat) (vs : List V) : List V := l.take p ++ (vs ++ l.drop (p + vs.length))
theorem wrL_length {l : List V} {p : Nat} {vs : List V} (h : p + vs.length ≤ l.length) : (wrL l p vs).length = l.length := by
  unfold wrL; simp only [List.length_append, List.length_take, List.length_drop]; omega
theorem wrL_get {l : List V} {p : Nat} {vs : List V} (h : p + vs.length ≤ l.length) (k : Nat) : (wrL l p vs)[k]? = if k < p then l[k]? else if k < p + vs.length then vs[k - p]? else l[k]? := by
  unfold wrL
  have htl : (l.take p).length = p := by simp; omega
  by_cases h1 : k < p
  · rw [if_pos h1, List.getElem?_append_left (by omega), List.getElem?_take_of_lt h1]
  · rw [if_neg h1, List.getElem?_append_right (by omega), htl]
    by_cases h2 : k < p + vs.length
    · rw [if_pos h2, List.getElem?_append_left (by omega)]
    · rw [if_neg h2, List.getElem?_append_right (by omega), List.getElem?_drop, show p + vs.length + (k - p - vs.length) = k by omega]
theorem wrL_comm {l : List V} {p q : Nat} {vs us : List V} (h : p + vs.length ≤ l.length) (h' : q + us.length ≤ l.length) (hd : p + vs.length ≤ q ∨ q + us.length ≤ p) : wrL (wrL l p vs) q us = wrL (wrL l q us) p vs := by
  apply List.ext_getElem?
  intro k
  rw [wrL_get (l := wrL l p vs) (p := q) (vs := us) (by rw [wrL_length h]; exact h'), wrL_get (l := wrL l q us) (p := p) (vs := vs) (by rw [wrL_length h']; exact h), wrL_get (l := l) (p := p) (vs := vs) h, wrL_get (l := l) (p := q) (vs := us) h']
  by_cases h1 : k < p <;> by_cases h2 : k < q <;> by_cases h3 : k < p + vs.length <;> by_cases h4 : k < q + us.length <;> simp only [h1, h2, h3, h4, if_true, if_false] <;> omega
def stVs (P : Program) (e : Env) (t : TypeId) (x : Operand) : List V := bif isAg P t then (match evA P e x with | .agg l => l | _ => []) else [evA P e x]
theorem store_form {o : Oper} {t : TypeId} {x y : Operand} (ho : o.op = .store t x y) {e : Env} {h : H} {K : V → H → A} {r : V × H} (hh : dW P X S o e h K = some r) :
    ∃ b p fz l, evA P e x = .ptr b p ∧ h.get b = some (.cells false fz l) ∧ (stVs P e t y).length = P.cellsOf t ∧ p + (stVs P e t y).length ≤ l.length ∧ K (.tup []) (h.put b (.cells false fz (wrL l p (stVs P e t y)))) = some r ∧
      ∀ (g : H) (l' : List V), g.get b = some (.cells false fz l') → l'.length = l.length → GW P o e nt g (.tup []) (g.put b (.cells false fz (wrL l' p (stVs P e t y)))) := by
  unfold dW at hh
  rw [ho] at hh
  simp only at hh
  rw [toP_some] at hh
  obtain ⟨b, o', hx, hh⟩ := hh
  rw [bif_none] at hh
  obtain ⟨hi, hh⟩ := hh
  obtain ⟨d, i, hd, hi'⟩ := hasInfo_some hi
  cases hag : isAg P t with
  | true =>
    rw [hag, cd_true, toA_some] at hh
    obtain ⟨l, hy, hh⟩ := hh
    rw [stN_some] at hh
    obtain ⟨h1, hh⟩ := hh
    obtain ⟨fz, cs, h2, h3, h4⟩ := stL_some hh
    have hvs : stVs P e t y = l := by simp [stVs, hag, hy]
    rw [hvs]
    exact ⟨b, o', fz, cs, hx, h2, h1, h3, h4, fun g l' hg hl ι w a hr he => g_store_agg ho hx hy (by rw [hi']; rfl) h1 hg (by omega) hr he⟩
  | false =>
    rw [hag, cd_false, bif_none, beq_eq] at hh
    obtain ⟨h1, hh⟩ := hh
    have h1 := of_decide_eq_true h1
    obtain ⟨fz, cs, h2, h3, h4, h5⟩ := st_some hh
    have hvs : stVs P e t y = [evA P e y] := by simp [stVs, hag]
    have hset : ∀ l' : List V, o' < l'.length → wrL l' o' [evA P e y] = l'.set o' (evA P e y) := by
      intro l' hl
      unfold wrL
      rw [List.set_eq_take_append_cons_drop, if_pos hl]; rfl
    rw [hvs]
    refine ⟨b, o', fz, cs, hx, h2, h1.symm, (by show o' + 1 ≤ cs.length; omega), by rw [hset cs h4]; exact h5, fun g l' hg hl ι w a hr he => ?_⟩
    rw [hset l' (by omega)]
    exact g_store_one ho hx h3 h1 hg (by omega) hr he
theorem dsj_some {b p n b' p' n' : Nat} {K : A} {r : V × H} (h : dsj b p n b' p' n' K = some r) : K = some r ∧ (b ≠ b' ∨ p + n ≤ p' ∨ p' + n' ≤ p) := by
  unfold dsj at h
  rw [beq_eq] at h
  by_cases hb : b = b'
  · rw [decide_eq_true hb] at h
    have h' : (Bool.casesOn (Nat.ble (Nat.add p n) p') (Bool.casesOn (Nat.ble (Nat.add p' n') p) none K) K : A) = some r := h
    rw [ble_eq] at h'
    by_cases h1 : Nat.add p n ≤ p'
    · rw [decide_eq_true h1] at h'; exact ⟨h', .inr (.inl h1)⟩
    · rw [decide_eq_false h1] at h'
      have h'' : (Bool.casesOn (Nat.ble (Nat.add p' n') p) none K : A) = some r := h'
      rw [bool_none, ble_eq] at h''
      exact ⟨h''.2, .inr (.inr (of_decide_eq_true h''.1))⟩
  · rw [decide_eq_false hb] at h
    exact ⟨h, .inl hb⟩
theorem plainSt_of {o : Oper} (h : plainSt o = true) : ∃ t x y, o.op = .store t x y ∧ o.guard = none ∧ o.dst = none := by
  unfold plainSt at h
  split at h
  · rename_i t x y h1 h2 h3; exact ⟨t, x, y, h1, h2, h3⟩
  · cases h
theorem isPr_of {i : Nat} {r : List Nat} (h : isPr ops ms i r = true) : ∃ j, r = [j] ∧ bef ms j i = false ∧ plainSt (opAt ops i) = true ∧ plainSt (opAt ops j) = true := by
  unfold isPr at h
  split at h
  · rename_i j
    simp only [Bool.and_eq_true, Bool.not_eq_true'] at h
    exact ⟨j, rfl, h.1.1, h.1.2, h.2⟩
  · cases h
def JS (P : Program) (ops : Array Oper) (l js : List Nat) : Prop := ∀ j ∈ js, ∃ o, ops[j]? = some o ∧ (∀ t ∈ rd o ++ gds ops o, t ∉ dsts ops l) ∧ ∀ d, o.dst = some d → d ∉ dsts ops l
theorem dDr_TR (hX : XOK P X) (hS : SOK P S) {r : V × H} : ∀ (l js : List Nat) (e : Env) (h : H) (K : Env → H → A), okS P ops ms l = true → JS P ops l js → dDr P X S ops ms l js e h K = some r →
    ∃ f hf, K f hf = some r ∧ (∀ t, t ∉ dsts ops l → f t = e t) ∧ TR P ops ms nt f js l h hf
  | [], js, e, h, K, hok, hjs, hh => ⟨e, h, hh, fun _ _ => rfl, .nil⟩
  | i :: l, js, e, h, K, hok, hjs, hh => by
    obtain ⟨o, ho, h1, hok'⟩ := okS_cons hok
    unfold dDr at hh
    rw [ho] at hh
    simp only at hh
    have hjs' : JS P ops l (jsn P o i js) := by
      intro j hj
      unfold jsn at hj
      have sub : ∀ t, t ∉ dsts ops (i :: l) → t ∉ dsts ops l := fun t h2 h3 => h2 ((dsts_cons ho l t).2 (.inr h3))
      have old : j ∈ js → ∃ o, ops[j]? = some o ∧ (∀ t ∈ rd o ++ gds ops o, t ∉ dsts ops l) ∧ ∀ d, o.dst = some d → d ∉ dsts ops l := by
        intro hj
        obtain ⟨o2, g1, g2, g3⟩ := hjs j hj
        exact ⟨o2, g1, fun t ht => sub t (g2 t ht), fun d hd => sub d (g3 d hd)⟩
      cases hc : Nat.beq (cls P o.op) 1 with
      | false => rw [hc] at hj; exact old hj
      | true =>
        rw [hc, cond_true] at hj
        rcases List.mem_cons.1 hj with rfl | hj
        · exact ⟨o, ho, fun t ht => sub t (h1.rds t ht).1, fun d hd => h1.dst d hd⟩
        · exact old hj
    have next : ∀ (v : V) (h' : H), chks P ops (put e o.dst v) h' (cks P ms o i js) (dDr P X S ops ms l (jsn P o i js) (put e o.dst v) h' K) = some r →
        ∃ f hf, K f hf = some r ∧ (∀ t, t ∉ dsts ops (i :: l) → f t = e t) ∧ TR P ops ms nt f (jsn P o i js) l h' hf ∧ dv f o v ∧ (∀ t ∈ rd o ++ gds ops o, f t = e t) ∧ (cls P o.op = 3 → ∀ j ∈ js, bef ms i j = true ∨ Rok P ops nt f h' j) := by
      intro v h' hq
      obtain ⟨h2, h3⟩ := chks_some (nt := nt) _ hq
      obtain ⟨f, hf, h4, h5, h6⟩ := dDr_TR hX hS l _ _ _ _ hok' hjs' h2
      have hfe : ∀ t, t ∉ dsts ops (i :: l) → f t = e t := fun t ht => by
        rw [h5 t (fun h7 => ht ((dsts_cons ho l t).2 (.inr h7)))]
        exact put_other fun h7 => ht ((dsts_cons ho l t).2 (.inl h7))
      refine ⟨f, hf, h4, hfe, h6, fun d hd => ?_, fun t ht => hfe t (h1.rds t ht).1, fun hc j hj => ?_⟩
      · rw [h5 d (h1.dst d hd), hd]; exact put_self
      · cases hb : bef ms i j with
        | true => exact .inl rfl
        | false =>
          right
          have hmem : j ∈ cks P ms o i js := by
            unfold cks
            rw [hc]
            simp [hj, hb]
          obtain ⟨o2, g1, g2⟩ := h3 j hmem
          obtain ⟨o2', g3, g4, g5⟩ := hjs j hj
          rw [g1] at g3; cases g3
          have hrd : ∀ t ∈ rd o2 ++ gds ops o2, f t = put e o.dst v t := fun t ht => h5 t fun h7 => g4 t ht ((dsts_cons ho l t).2 (.inr h7))
          refine ⟨o2, g1, ?_⟩
          rcases g2 with ⟨g, want, hg, g6⟩ | ⟨d, hd, g6⟩
          · left
            refine ⟨g, want, hg, ?_⟩
            have : gv ops f g = gv ops (put e o.dst v) g := gv_eq fun t ht => hrd t (List.mem_append.2 (.inr (by unfold gds; rw [hg]; simp only []; rw [ht]; simp)))
            rw [this]; exact g6
          · right
            refine ⟨f d, fun d' hd' => by rw [hd] at hd'; cases hd'; rfl, fun h2 hs => ?_⟩
            have hm : msk o2 f = msk o2 (put e o.dst v) := msk_congr fun t ht => hrd t (List.mem_append.2 (.inl ht))
            have hd2 : f d = put e o.dst v d := h5 d fun h7 => g5 d hd ((dsts_cons ho l d).2 (.inr h7))
            rw [hm, hd2]; exact g6 h2 hs
    have run : ∀ {K' : V → H → A}, dAny P X S o (msk o e) h K' = some r → (∀ v h', K' v h' = chks P ops (put e o.dst v) h' (cks P ms o i js) (dDr P X S ops ms l (jsn P o i js) (put e o.dst v) h' K)) →
        (∀ f : Env, (∀ t ∈ rd o ++ gds ops o, f t = e t) → wnt ops f o) → (cls P o.op = 3 → ∀ j ∈ l, cls P (opAt ops j).op = 0 ∨ bef ms j i = true) → ∃ f hf, K f hf = some r ∧ (∀ t, t ∉ dsts ops (i :: l) → f t = e t) ∧ TR P ops ms nt f js (i :: l) h hf := by
      intro K' hq hK' hw hwr
      rw [dAny_eq] at hq
      have hle := cls_le (P := P) o.op
      split at hq
      · rename_i hc
        obtain ⟨v, g1, g2⟩ := dP_sound (nt := nt) hq
        rw [hK'] at g1
        obtain ⟨f, hf, g3, g4, g5, g6, g7, g8⟩ := next v h g1
        have hm : msk o e = msk o f := msk_congr fun t ht => (g7 t (List.mem_append.2 (.inl ht))).symm
        exact ⟨f, hf, g3, g4, .pr ho (hw f g7) hc g6 (hm ▸ g2) g5⟩
      · rename_i hc
        obtain ⟨v, g1, g2⟩ := dR_sound (nt := nt) hq
        rw [hK'] at g1
        obtain ⟨f, hf, g3, g4, g5, g6, g7, g8⟩ := next v h g1
        have hm : msk o e = msk o f := msk_congr fun t ht => (g7 t (List.mem_append.2 (.inl ht))).symm
        exact ⟨f, hf, g3, g4, .rr ho (hw f g7) hc g6 (hm ▸ g2) g5⟩
      · rename_i hc
        obtain ⟨x, vf, g1, g2⟩ := dA_sound (nt := nt) hq
        rw [nB_eq, hK'] at g1
        obtain ⟨f, hf, g3, g4, g5, g6, g7, g8⟩ := next _ _ g1
        have hm : msk o e = msk o f := msk_congr fun t ht => (g7 t (List.mem_append.2 (.inl ht))).symm
        exact ⟨f, hf, g3, g4, .ar ho (hw f g7) hc g6 (hm ▸ g2) g5⟩
      · rename_i n0 n1 n2
        have hc : cls P o.op = 3 := by
          have a0 : cls P o.op ≠ 0 := fun h => n0 h
          have a1 : cls P o.op ≠ 1 := fun h => n1 h
          have a2 : cls P o.op ≠ 2 := fun h => n2 h
          omega
        obtain ⟨v, h', g1, g2⟩ := dW_sound (nt := nt) hX hS hq
        rw [hK'] at g1
        obtain ⟨f, hf, g3, g4, g5, g6, g7, g8⟩ := next v h' g1
        have hm : msk o e = msk o f := msk_congr fun t ht => (g7 t (List.mem_append.2 (.inl ht))).symm
        exact ⟨f, hf, g3, g4, .wr ho (hw f g7) hc g6 (hm ▸ g2) (g8 hc) (hwr hc) g5⟩
    cases hg : o.guard with
    | none =>
      rw [hg] at hh
      simp only at hh
      cases hpr : isPr ops ms i l with
      | false =>
        rw [hpr, cd_false] at hh
        exact run hh (fun _ _ => rfl) (fun f _ => .inl hg) fun hc => by
          rcases h1.wr hc with h9 | h9
          · exact h9
          · rw [hpr] at h9; cases h9
      | true =>
        rw [hpr, cd_true] at hh
        obtain ⟨j, rfl, hbji, hpi, hpj⟩ := isPr_of hpr
        have hopi : opAt ops i = o := by unfold opAt; simp [ho]
        obtain ⟨oj, hoj, ok1j, _⟩ := okS_cons hok'
        have hopj : opAt ops j = oj := by unfold opAt; simp [hoj]
        rw [hopi] at hpi
        rw [hopj] at hpj
        obtain ⟨t, x, y, hs1, hs2, hs3⟩ := plainSt_of hpi
        obtain ⟨t', x', y', hs1', hs2', hs3'⟩ := plainSt_of hpj
        have hj0 : [j].headD 0 = j := rfl
        unfold dPair at hh
        rw [hj0, hopi, hopj, hs1, hs1'] at hh
        simp only [stT] at hh
        rw [toP_some] at hh
        obtain ⟨b, p, hb, hh⟩ := hh
        rw [toP_some] at hh
        obtain ⟨b', p', hb', hh⟩ := hh
        obtain ⟨hh, hdis⟩ := dsj_some hh
        obtain ⟨b1, p1, fz, cs, e1, g1, v1, f1, hh, W1⟩ := store_form (nt := nt) hs1 hh
        rw [hb] at e1; cases e1
        obtain ⟨b2, p2, fz2, cs2, e2, g2, v2, f2, hh, W2⟩ := store_form (nt := nt) hs1' hh
        rw [hb'] at e2; cases e2
        obtain ⟨b3, p3, fz3, cs3, e3, g3, v3, f3, hh, W3⟩ := store_form (nt := nt) hs1' hh
        rw [hb'] at e3; cases e3
        obtain ⟨hh, c1⟩ := chks_some (nt := nt) _ hh
        obtain ⟨hh, c2⟩ := chks_some (nt := nt) _ hh
        obtain ⟨hh, c3⟩ := chks_some (nt := nt) _ hh
        obtain ⟨hh, c4⟩ := chks_some (nt := nt) _ hh
        have hci : cls P o.op = 3 := by rw [hs1]
        have hcj : cls P oj.op = 3 := by rw [hs1']
        have stab : ∀ {k : Nat} {ok : Oper} {hx : H}, cls P ok.op = 3 → (∀ m ∈ cks P ms ok k js, ∃ o, ops[m]? = some o ∧
            ((∃ g want, o.guard = some (g, want) ∧ (gv ops e g = .bool (!want) ∨ ∃ l, gv ops e g = .tup l)) ∨ ∃ d, o.dst = some d ∧ ∀ h2, Sup hx h2 → GR P o (msk o e) nt h2 (e d))) →
            ∀ m ∈ js, bef ms k m = true ∨ Rok P ops nt e hx m := by
          intro k ok hx hc hall m hm
          cases hbm : bef ms k m with
          | true => exact .inl rfl
          | false =>
            right
            have hmem : m ∈ cks P ms ok k js := by
              unfold cks
              rw [hc]
              simp [hm, hbm]
            obtain ⟨o2, q1, q2⟩ := hall m hmem
            refine ⟨o2, q1, ?_⟩
            rcases q2 with q2 | ⟨d, hd, q3⟩
            · exact .inl q2
            · exact .inr ⟨e d, fun d' hd' => by rw [hd] at hd'; cases hd'; rfl, q3⟩
        have W1h := W1 h cs g1 rfl
        have W2h := W2 _ cs2 g2 rfl
        have W3h := W3 h cs3 g3 rfl
        -- the other order
        have other : ∃ h4, GW P o (msk o e) nt (h.put b' (.cells false fz3 (wrL cs3 p' (stVs P (msk oj e) t' y')))) (.tup []) h4 ∧ HEq' h4 ((h.put b (.cells false fz (wrL cs p (stVs P (msk o e) t y)))).put b' (.cells false fz2 (wrL cs2 p' (stVs P (msk oj e) t' y')))) := by
          by_cases hbb : b = b'
          · subst hbb
            rw [g1] at g3; cases g3
            rw [H.get_put, if_pos rfl] at g2; cases g2
            refine ⟨_, W1 _ (wrL cs p' (stVs P (msk oj e) t' y')) (by rw [H.get_put, if_pos rfl]) (wrL_length f3), by simp only [H.n_put], fun k => ?_⟩
            simp only [H.get_put]
            by_cases hk : k = b
            · simp only [if_pos hk]
              rw [wrL_comm f1 f3 (by rw [v1, v3]; rcases hdis with h9 | h9 | h9; exact absurd rfl h9; exact .inl h9; exact .inr h9)]
            · simp only [if_neg hk]
          · have g2' : h.get b' = some (.cells false fz2 cs2) := by rw [H.get_put, if_neg (Ne.symm hbb)] at g2; exact g2
            rw [g3] at g2'; cases g2'
            refine ⟨_, W1 _ cs (by rw [H.get_put, if_neg hbb]; exact g1) rfl, by simp only [H.n_put], fun k => ?_⟩
            simp only [H.get_put]
            by_cases hk : k = b
            · subst hk; simp only [if_true, if_neg hbb]
            · simp only [if_neg hk]
        obtain ⟨h4, W4, heq⟩ := other
        have c4' := stab hci c4
        refine ⟨e, _, hh, fun _ _ => rfl, .ws ho hoj hpr hg hs2' hci hcj hs3 hs3' W1h W2h W3h W4 heq (stab hci c1) (stab hcj c2) (stab hcj c3) fun k hk => ?_⟩
        rcases c4' k hk with h9 | ⟨o2, q1, q2⟩
        · exact .inl h9
        · refine .inr ⟨o2, q1, ?_⟩
          rcases q2 with q2 | ⟨v, q3, q4⟩
          · exact .inl q2
          · exact .inr ⟨v, q3, fun h5 hs => q4 h5 fun k hk => (hs k (by rw [heq.1]; exact hk)).trans (heq.2 k)⟩
    | some gw =>
      obtain ⟨g, want⟩ := gw
      rw [hg] at hh
      have hgv : ∀ f : Env, (∀ t ∈ rd o ++ gds ops o, f t = e t) → gv ops f g = gv ops e g := fun f hf => gv_eq fun t ht => hf t (List.mem_append.2 (.inr (by unfold gds; rw [hg]; simp only []; rw [ht]; simp)))
      rcases grd_some hh with ⟨q1, q2⟩ | ⟨q1, q2⟩
      · exact run q2 (fun _ _ => rfl) (fun f hf => .inr ⟨g, want, hg, by rw [hgv f hf]; exact q1⟩) fun hc => by
          rcases h1.wr hc with h9 | h9
          · exact h9
          · obtain ⟨_, _, _, hp9, _⟩ := isPr_of h9
            have hopi : opAt ops i = o := by unfold opAt; simp [ho]
            rw [hopi] at hp9
            obtain ⟨_, _, _, _, hgn, _⟩ := plainSt_of hp9
            rw [hg] at hgn; cases hgn
      · obtain ⟨f, hf, g3, g4, g5, g6, g7, g8⟩ := next _ _ q2
        exact ⟨f, hf, g3, g4, .skip ho ⟨g, want, hg, by rw [hgv f g7]; exact q1⟩ g6 g5⟩
end
end GoEv
namespace GoEv
open Go (IntKind Value World Addr MapEntry Program Oper Op Operand Act Exit undef execOp Sem Result TypeId TypeDesc BinOp UnOp Code Func)
open Go.RowKit (Below)

theorem Sup.push (h : H) (x : Blk) : Sup h (h.push x) := fun b hb => by rw [H.get_push, if_neg (by omega)]
theorem Sup.trans {a b c : H} (h1 : Sup a b) (hn : a.n ≤ b.n) (h2 : Sup b c) : Sup a c := fun k hk => (h2 k (by omega)).trans (h1 k hk)
section
variable {P : Program}
theorem HR.ghost {ι : Inj} {h : H} {w : World} (hr : HR P ι h w) (x : Blk) : HR P ι (h.push x) w := by
  have hne : ∀ b L, ι b = some L → b ≠ h.n := fun b L hb e => by rw [e, hr.dom _ (Nat.le_refl _)] at hb; cases hb
  refine ⟨fun b hb => hr.dom b (by rw [H.n_push] at hb; omega), hr.lt, fun b L y hb hy => ?_, fun b b' L L' y y' hn hb hb' hy hy' ho hl => ?_, H.wf_push hr.wf⟩
  · rw [H.get_push, if_neg (hne b L hb)] at hy; exact hr.blk b L y hb hy
  · rw [H.get_push, if_neg (hne b L hb)] at hy
    rw [H.get_push, if_neg (hne b' L' hb')] at hy'
    exact hr.apart b b' L L' y y' hn hb hb' hy hy' ho hl
theorem Ext.gpush {h0 h : H} {ι0 ι : Inj} {w0 w : World} (hx : Ext h0 ι0 w0 h ι w) (x : Blk) : Ext h0 ι0 w0 (h.push x) ι w := by
  have hn := hx.n
  refine ⟨hx.sub, by rw [H.n_push]; omega, fun b y hb hy ho => ?_, hx.os, hx.tape, hx.output, hx.size, hx.keep, fun b hb hn0 => ?_, hx.new⟩
  · rw [H.get_push, if_neg (by omega)] at hy; exact hx.mono b y hb hy ho
  · rw [H.get_push, if_neg (by omega)]; exact hx.ghost b hb hn0
theorem HR.late {ι : Inj} {h : H} {w : World} (hr : HR P ι h w) {n : Nat} {x : Blk} (hn : n < h.n) (hi : ι n = none) (hg : h.get n = some x) (obj : Go.Obj) (room : Nat) (hx : ∀ ι', Sub ι ι' → BR P ι' x ⟨w.heap.size, 0, room⟩ (w.alloc obj)) :
    ∃ ι', ι' n = some ⟨w.heap.size, 0, room⟩ ∧ (∀ b, b ≠ n → ι' b = ι b) ∧ Sub ι ι' ∧ HR P ι' h (w.alloc obj) := by
  let ι' : Inj := fun b => if b = n then some ⟨w.heap.size, 0, room⟩ else ι b
  have hnew : ι' n = some ⟨w.heap.size, 0, room⟩ := by simp [ι']
  have hold : ∀ b, b ≠ n → ι' b = ι b := fun b hb => by simp [ι', hb]
  have hsub : Sub ι ι' := fun b L hb => by
    have : b ≠ n := fun e => by rw [e, hi] at hb; cases hb
    rw [hold b this]; exact hb
  have hheap : ∀ c, c < w.heap.size → (w.alloc obj).heap[c]? = w.heap[c]? := fun c hc => Below.heap_alloc w obj c hc
  refine ⟨ι', hnew, hold, hsub, ⟨fun b hb => ?_, fun b L hb => ?_, fun b L y hb hy => ?_, fun b b' L L' y y' hne hb hb' hy hy' ho hl => ?_, hr.wf⟩⟩
  · rw [hold b (by omega)]; exact hr.dom b hb
  · by_cases e : b = n
    · subst e; rw [hnew] at hb; cases hb; simp
    · rw [hold b e] at hb; have := hr.lt b L hb; simp; omega
  · by_cases e : b = n
    · subst e; rw [hnew] at hb; cases hb; rw [hg] at hy; cases hy; exact hx ι' hsub
    · rw [hold b e] at hb
      exact (hr.blk b L y hb hy).same hsub (hheap _ (hr.lt b L hb))
  · by_cases e : b = n
    · subst e; rw [hnew] at hb; cases hb
      rw [hold b' (Ne.symm hne)] at hb'
      have := hr.lt b' L' hb'
      show w.heap.size ≠ L'.cb
      omega
    · by_cases e' : b' = n
      · subst e'; rw [hnew] at hb'; cases hb'
        rw [hold b e] at hb
        have := hr.lt b L hb
        show L.cb ≠ w.heap.size
        omega
      · rw [hold b e] at hb; rw [hold b' e'] at hb'
        exact hr.apart b b' L L' y y' hne hb hb' hy hy' ho hl
theorem Ext.late {h0 h : H} {ι0 ι ι' : Inj} {w0 w : World} (hx : Ext h0 ι0 w0 h ι w) {n : Nat} (hn : h0.n ≤ n) {obj : Go.Obj} {room : Nat} (h1 : ι' n = some ⟨w.heap.size, 0, room⟩) (h2 : ∀ b, b ≠ n → ι' b = ι b) (h3 : Sub ι ι') :
    Ext h0 ι0 w0 h ι' (w.alloc obj) := by
  have hs := hx.size
  refine ⟨hx.sub.trans h3, hx.n, hx.mono, hx.os, hx.tape, hx.output, by simp; omega, fun c hc hno => ?_, hx.ghost, fun b L hb hb0 => ?_⟩
  · rw [Below.heap_alloc w obj c (by omega)]; exact hx.keep c hc hno
  · by_cases e : b = n
    · subst e; rw [h1] at hb; cases hb; exact ⟨hn, .inl hs⟩
    · rw [h2 b e] at hb; exact hx.new b L hb hb0

variable (P) (ops : Array Oper) (ms : List Nat) (nt : Nat) (f : Env) (h0 : H) (ι0 : Inj) (w0 : World) (hf : H) (σ : List Nat)
def PendA (ι : Inj) (h : H) (o : Oper) (n : Nat) : Prop := ∃ x vf, GA P o (msk o f) nt x vf ∧ dv f o (vf n) ∧ h.get n = some x ∧ ι n = none ∧ n < h.n ∧ h0.n ≤ n
def Pend (ι : Inj) (h : H) (an : Nat → Nat) (i : Nat) : Prop := ∃ o, ops[i]? = some o ∧ ((unw ops f o ∧ dv f o (.tup [])) ∨ (wnt ops f o ∧
  ((cls P o.op = 0 ∧ ∃ v, dv f o v ∧ GQ P o (msk o f) nt v) ∨ (cls P o.op = 1 ∧ ∃ v, dv f o v ∧ ∀ h2, Sup h h2 → GR P o (msk o f) nt h2 v) ∨ (cls P o.op = 2 ∧ PendA P nt f h0 ι h o (an i)))))
def isA (i : Nat) : Prop := ∃ o, ops[i]? = some o ∧ cls P o.op = 2 ∧ wnt ops f o
structure Mid (D : Nat → Prop) (a : Act) (w : World) (pre suf js : List Nat) (ι : Inj) (h : H) (an : Nat → Nat) : Prop where
  tr : TR P ops ms nt f js suf h hf
  hr : HR P ι h w
  rel : ∀ t, (∀ j o, ops[j]? = some o → o.dst = some t → D j) → VR ι (f t) (a.tmps.getD t undef)
  size : a.tmps.size = nt
  glob : ∀ g, g < P.globals.size → ∃ room, ι g = some ⟨g, 0, room⟩
  defers : a.defers = []
  ext : Ext h0 ι0 w0 h ι w
  pend : ∀ i ∈ pre, ¬ D i → Pend P ops nt f h0 ι h an i
  apart : ∀ i ∈ pre, ∀ j ∈ pre, ¬ D i → ¬ D j → isA P ops f i → isA P ops f j → an i = an j → i = j
  js : ∀ i ∈ pre, ∀ o, ops[i]? = some o → cls P o.op = 1 → i ∈ js
  done : ∀ i ∈ suf, D i → ∀ o, ops[i]? = some o → cls P o.op = 0
def Hp : Prop := ∀ pre i j, σ = pre ++ [i, j] → isPr ops ms i [j] = true → okS P ops ms (pre ++ [j, i]) = true
def Inv (D : Nat → Prop) (a : Act) (w : World) : Prop := ∃ pre suf js ι h an, σ = pre ++ suf ∧ Mid P ops ms nt f h0 ι0 w0 hf D a w pre suf js ι h an ∧ (suf = [] ∨ ∃ i r o, suf = i :: r ∧ ops[i]? = some o ∧ cls P o.op = 3 ∧ ¬ D i)
def Inv2 (D : Nat → Prop) (a : Act) (w : World) : Prop := ∃ σ hf2, okS P ops ms σ = true ∧ Hp P ops ms σ ∧ (∀ i, i < ops.size → i ∈ σ) ∧ HEq' hf2 hf ∧ Inv P ops ms nt f h0 ι0 w0 hf2 σ D a w
end

section
variable {P : Program} {ops : Array Oper} {ms : List Nat} {nt : Nat} {f : Env} {h0 : H} {ι0 : Inj} {w0 : World} {hf : H} {σ : List Nat}
theorem Inv.two {D : Nat → Prop} {a : Act} {w : World} (h1 : okS P ops ms σ = true) (h2 : Hp P ops ms σ) (h3 : ∀ i, i < ops.size → i ∈ σ) (h : Inv P ops ms nt f h0 ι0 w0 hf σ D a w) : Inv2 P ops ms nt f h0 ι0 w0 hf D a w := ⟨σ, hf, h1, h2, h3, ⟨rfl, fun _ => rfl⟩, h⟩
theorem wnt_unw {o : Oper} (h1 : wnt ops f o) (h2 : unw ops f o) : False := by
  obtain ⟨g, want, hg, h3⟩ := h2
  rcases h1 with h1 | ⟨g', want', hg', h4⟩
  · rw [h1] at hg; cases hg
  · rw [hg] at hg'; cases hg'
    rcases h3 with h3 | ⟨l, h3⟩
    · rw [h3] at h4; cases want <;> cases h4
    · rw [h3] at h4; cases h4
theorem jsn_mem {o : Oper} {i : Nat} {js : List Nat} : (∀ j ∈ js, j ∈ jsn P o i js) ∧ (cls P o.op = 1 → i ∈ jsn P o i js) := by
  unfold jsn
  rw [beq_eq]
  by_cases hc : cls P o.op = 1
  · rw [decide_eq_true hc]; exact ⟨fun j hj => by simp [hj], fun _ => by simp⟩
  · rw [decide_eq_false hc]; exact ⟨fun j hj => hj, fun h => absurd h hc⟩
theorem okS_apart : ∀ (pre suf : List Nat), okS P ops ms (pre ++ suf) = true → okS P ops ms suf = true ∧ ∀ j ∈ pre, j ∉ suf
  | [], suf, h => ⟨h, by simp⟩
  | i :: pre, suf, h => by
    obtain ⟨o, ho, h1, h2⟩ := okS_cons (i := i) (r := pre ++ suf) h
    obtain ⟨h3, h4⟩ := okS_apart pre suf h2
    refine ⟨h3, fun j hj => ?_⟩
    rcases List.mem_cons.1 hj with rfl | hj
    · exact fun hm => h1.new (List.mem_append.2 (.inr hm))
    · exact h4 j hj
theorem okS_mem : ∀ (l : List Nat), okS P ops ms l = true → ∀ i ∈ l, ∃ r o, ops[i]? = some o ∧ OK1 P ops ms i r o
  | [], _, i, hi => by cases hi
  | k :: l, h, i, hi => by
    obtain ⟨o, ho, h1, h2⟩ := okS_cons h
    rcases List.mem_cons.1 hi with rfl | hi
    · exact ⟨l, o, ho, h1⟩
    · exact okS_mem l h2 i hi
theorem TR_mem : ∀ {js l : List Nat} {h : H}, TR P ops ms nt f js l h hf → ∀ i ∈ l, ∃ o, ops[i]? = some o ∧ ((unw ops f o ∧ dv f o (.tup [])) ∨ (wnt ops f o ∧ (cls P o.op = 0 → ∃ v, dv f o v ∧ GQ P o (msk o f) nt v))) := by
  intro js l h ht
  induction ht with
  | nil => intro i hi; cases hi
  | skip ho hu hd _ ih =>
    intro k hk
    rcases List.mem_cons.1 hk with rfl | hk
    · exact ⟨_, ho, .inl ⟨hu, hd⟩⟩
    · exact ih k hk
  | pr ho hw hc hd hg _ ih =>
    intro k hk
    rcases List.mem_cons.1 hk with rfl | hk
    · exact ⟨_, ho, .inr ⟨hw, fun _ => ⟨_, hd, hg⟩⟩⟩
    · exact ih k hk
  | rr ho hw hc hd hg _ ih =>
    intro k hk
    rcases List.mem_cons.1 hk with rfl | hk
    · exact ⟨_, ho, .inr ⟨hw, fun h => by omega⟩⟩
    · exact ih k hk
  | ar ho hw hc hd hg _ ih =>
    intro k hk
    rcases List.mem_cons.1 hk with rfl | hk
    · exact ⟨_, ho, .inr ⟨hw, fun h => by omega⟩⟩
    · exact ih k hk
  | wr ho hw hc hd hg hj _ _ ih =>
    intro k hk
    rcases List.mem_cons.1 hk with rfl | hk
    · exact ⟨_, ho, .inr ⟨hw, fun h => by omega⟩⟩
    · exact ih k hk
  | ws hi hj _ hgi hgj hci hcj =>
    intro k hk
    rcases List.mem_cons.1 hk with rfl | hk
    · exact ⟨_, hi, .inr ⟨.inl hgi, fun h => by omega⟩⟩
    · have := List.mem_singleton.1 hk
      subst this
      exact ⟨_, hj, .inr ⟨.inl hgj, fun h => by omega⟩⟩

theorem advance {D : Nat → Prop} {a : Act} {w : World} : ∀ (suf pre js : List Nat) (ι : Inj) (h : H) (an : Nat → Nat), σ = pre ++ suf → okS P ops ms σ = true → Mid P ops ms nt f h0 ι0 w0 hf D a w pre suf js ι h an → Inv P ops ms nt f h0 ι0 w0 hf σ D a w
  | [], pre, js, ι, h, an, hσ, hok, hm => ⟨pre, [], js, ι, h, an, hσ, hm, .inl rfl⟩
  | i :: r, pre, js, ι, h, an, hσ, hok, hm => by
    have hσ' : σ = (pre ++ [i]) ++ r := by rw [hσ]; simp
    have hip : i ∉ pre := fun hp => (okS_apart pre (i :: r) (hσ ▸ hok)).2 i hp (by simp)
    have stop : ∀ o, ops[i]? = some o → cls P o.op = 3 → Inv P ops ms nt f h0 ι0 w0 hf σ D a w := by
      intro o ho hc
      refine ⟨pre, i :: r, js, ι, h, an, hσ, hm, .inr ⟨i, r, o, rfl, ho, hc, fun hd => ?_⟩⟩
      have := hm.done i (by simp) hd o ho
      omega
    -- one more operation lies behind
    have move : ∀ o, ops[i]? = some o → cls P o.op ≠ 3 → cls P o.op ≠ 2 ∨ unw ops f o → TR P ops ms nt f (jsn P o i js) r h hf → (¬ D i → Pend P ops nt f h0 ι h an i) → Inv P ops ms nt f h0 ι0 w0 hf σ D a w := by
      intro o ho hc hna ht hp
      have hnA : ¬ isA P ops f i := by
        rintro ⟨o2, h1, h2, h3⟩
        rw [ho] at h1; cases h1
        rcases hna with h4 | h4
        · exact h4 h2
        · exact wnt_unw h3 h4
      refine advance r (pre ++ [i]) _ ι h an hσ' hok ⟨ht, hm.hr, hm.rel, hm.size, hm.glob, hm.defers, hm.ext, ?_, ?_, ?_, fun j hj => hm.done j (by simp [hj])⟩
      · intro j hj hD
        rcases List.mem_append.1 hj with hj | hj
        · exact hm.pend j hj hD
        · have : j = i := by simpa using hj
          subst this; exact hp hD
      · intro j hj k hk hDj hDk hAj hAk he
        rcases List.mem_append.1 hj with hj | hj
        · rcases List.mem_append.1 hk with hk | hk
          · exact hm.apart j hj k hk hDj hDk hAj hAk he
          · have : k = i := by simpa using hk
            subst this; exact absurd hAk hnA
        · have : j = i := by simpa using hj
          subst this; exact absurd hAj hnA
      · intro j hj o2 ho2 hc2
        rcases List.mem_append.1 hj with hj | hj
        · exact jsn_mem.1 j (hm.js j hj o2 ho2 hc2)
        · have : j = i := by simpa using hj
          subst this
          rw [ho] at ho2; cases ho2
          exact jsn_mem.2 hc2
    have ht := hm.tr
    cases ht with
    | skip ho hu hd ht' =>
      rename_i o
      by_cases hc : cls P o.op = 3
      · exact stop o ho hc
      · exact move o ho hc (.inr hu) ht' fun _ => ⟨o, ho, .inl ⟨hu, hd⟩⟩
    | pr ho hw hc hd hg ht' =>
      rename_i o v
      exact move o ho (by omega) (.inl (by omega)) ht' fun _ => ⟨o, ho, .inr ⟨hw, .inl ⟨hc, v, hd, hg⟩⟩⟩
    | rr ho hw hc hd hg ht' =>
      rename_i o v
      exact move o ho (by omega) (.inl (by omega)) ht' fun _ => ⟨o, ho, .inr ⟨hw, .inr (.inl ⟨hc, v, hd, hg⟩)⟩⟩
    | wr ho hw hc hd hg hj _ ht' => exact stop _ ho hc
    | ws hi hj hpr hgi hgj hci hcj => exact stop _ hi hci
    | ar ho hw hc hd hg ht' =>
      rename_i o x vf
      have hDi : ¬ D i := fun hD => by have := hm.done i (by simp) hD o ho; omega
      let an' : Nat → Nat := fun j => if j = i then h.n else an j
      have ani : an' i = h.n := by simp [an']
      have anj : ∀ j, j ≠ i → an' j = an j := fun j hj => by simp [an', hj]
      have hsup : ∀ h2, Sup (h.push x) h2 → Sup h h2 := fun h2 hs => (Sup.push h x).trans (by rw [H.n_push]; omega) hs
      have pold : ∀ j ∈ pre, ¬ D j → Pend P ops nt f h0 ι (h.push x) an' j := by
        intro j hj hD
        have hji : j ≠ i := fun e => hip (e ▸ hj)
        obtain ⟨o2, ho2, hp⟩ := hm.pend j hj hD
        refine ⟨o2, ho2, ?_⟩
        rcases hp with hp | ⟨hw2, hp⟩
        · exact .inl hp
        · refine .inr ⟨hw2, ?_⟩
          rcases hp with hp | ⟨hc2, v, hd2, hg2⟩ | ⟨hc2, x2, vf2, g1, g2, g3, g4, g5, g6⟩
          · exact .inl hp
          · exact .inr (.inl ⟨hc2, v, hd2, fun h2 hs => hg2 h2 (hsup h2 hs)⟩)
          · refine .inr (.inr ⟨hc2, x2, vf2, g1, ?_, ?_, ?_, ?_, ?_⟩)
            · rw [anj j hji]; exact g2
            · rw [anj j hji, H.get_push, if_neg (by omega)]; exact g3
            · rw [anj j hji]; exact g4
            · rw [anj j hji, H.n_push]; omega
            · rw [anj j hji]; exact g6
      refine advance r (pre ++ [i]) _ ι (h.push x) an' hσ' hok ⟨ht', hm.hr.ghost x, hm.rel, hm.size, hm.glob, hm.defers, hm.ext.gpush x, ?_, ?_, ?_, fun j hj => hm.done j (by simp [hj])⟩
      · intro j hj hD
        rcases List.mem_append.1 hj with hj | hj
        · exact pold j hj hD
        · have : j = i := by simpa using hj
          subst this
          refine ⟨o, ho, .inr ⟨hw, .inr (.inr ⟨hc, x, vf, hg, ?_, ?_, ?_, ?_, ?_⟩)⟩⟩
          · rw [ani]; exact hd
          · rw [ani, H.get_push, if_pos rfl]
          · rw [ani]; exact hm.hr.dom _ (Nat.le_refl _)
          · rw [ani, H.n_push]; omega
          · rw [ani]; exact hm.ext.n
      · have lt : ∀ j ∈ pre, ¬ D j → isA P ops f j → an' j < h.n := by
          intro j hj hD hA
          have hji : j ≠ i := fun e => hip (e ▸ hj)
          obtain ⟨o2, ho2, hp⟩ := hm.pend j hj hD
          obtain ⟨o3, ho3, hc3, hw3⟩ := hA
          rw [ho2] at ho3; cases ho3
          rcases hp with hp | ⟨hw2, hp⟩
          · exact (wnt_unw hw3 hp.1).elim
          · rcases hp with hp | hp | ⟨_, _, _, _, _, _, _, g5, _⟩
            · omega
            · omega
            · rw [anj j hji]; exact g5
        intro j hj k hk hDj hDk hAj hAk he
        rcases List.mem_append.1 hj with hj1 | hj1
        · rcases List.mem_append.1 hk with hk1 | hk1
          · rw [anj j (fun e => hip (e ▸ hj1)), anj k (fun e => hip (e ▸ hk1))] at he
            exact hm.apart j hj1 k hk1 hDj hDk hAj hAk he
          · have hki : k = i := by simpa using hk1
            have := lt j hj1 hDj hAj
            rw [he, hki, ani] at this; omega
        · have hji : j = i := by simpa using hj1
          rcases List.mem_append.1 hk with hk1 | hk1
          · have := lt k hk1 hDk hAk
            rw [← he, hji, ani] at this; omega
          · have hki : k = i := by simpa using hk1
            rw [hji, hki]
      · intro j hj o2 ho2 hc2
        rcases List.mem_append.1 hj with hj | hj
        · exact jsn_mem.1 j (hm.js j hj o2 ho2 hc2)
        · have : j = i := by simpa using hj
          subst this
          rw [ho] at ho2; cases ho2
          exact jsn_mem.2 hc2
end
end GoEv
namespace GoEv
open Go (IntKind Value World Addr MapEntry Program Oper Op Operand Act Exit undef execOp Sem Result TypeId TypeDesc BinOp UnOp Code Func)

section
variable {P : Program} {X : Nat → Nat} {S : Sm} {ops : Array Oper} {nt : Nat} {f : Env} {h0 : H} {ι0 : Inj} {w0 : World} {hf : H} {σ : List Nat} {ms : List Nat}

theorem rel_put {D : Nat → Prop} {i : Nat} {o : Oper} (ho : ops[i]? = some o) {ι ι' : Inj} {a : Act} {v : V} {cv : Value} (hs : Sub ι ι') (hv : VR ι' v cv) (hd : dv f o v) (hlt : ∀ t, o.dst = some t → t < a.tmps.size)
    (hrel : ∀ t, (∀ j o, ops[j]? = some o → o.dst = some t → D j) → VR ι (f t) (a.tmps.getD t undef)) :
    ∀ t, (∀ j o, ops[j]? = some o → o.dst = some t → D j ∨ j = i) → VR ι' (f t) ((a.put o.dst cv).tmps.getD t undef) := by
  intro t ht
  cases hdst : o.dst with
  | none =>
    refine VR.mono hs _ _ (hrel t fun j o' hj hj' => ?_)
    rcases ht j o' hj hj' with h | h
    · exact h
    · subst h; rw [ho] at hj; cases hj; rw [hdst] at hj'; cases hj'
  | some d =>
    by_cases e : t = d
    · subst e
      rw [hd t hdst]
      have := hlt t hdst
      simp [Go.Act.put, this]; exact hv
    · have h1 : VR ι (f t) (a.tmps.getD t undef) := hrel t fun j o' hj hj' => by
        rcases ht j o' hj hj' with h | h
        · exact h
        · subst h; rw [ho] at hj; cases hj; rw [hdst] at hj'; cases hj'; exact absurd rfl e
      have h2 : (a.put (some d) cv).tmps.getD t undef = a.tmps.getD t undef := by
        simp [Go.Act.put, Array.getElem?_setIfInBounds_ne (Ne.symm e)]
      rw [h2]; exact VR.mono hs _ _ h1
theorem put_size (a : Act) (d : Option Nat) (v : Value) : (a.put d v).tmps.size = a.tmps.size := by cases d <;> simp [Go.Act.put]
theorem put_defers (a : Act) (d : Option Nat) (v : Value) : (a.put d v).defers = a.defers := by cases d <;> rfl
theorem Pend.keep {ι ι' : Inj} {h : H} {an : Nat → Nat} {i : Nat} (hp : Pend P ops nt f h0 ι h an i) (hn : isA P ops f i → ∀ n, n < h.n → ι n = none → n = an i → ι' n = none) : Pend P ops nt f h0 ι' h an i := by
  obtain ⟨o, ho, hp⟩ := hp
  refine ⟨o, ho, ?_⟩
  rcases hp with hp | ⟨hw, hp⟩
  · exact .inl hp
  · refine .inr ⟨hw, ?_⟩
    rcases hp with hp | hp | ⟨hc, x, vf, g1, g2, g3, g4, g5, g6⟩
    · exact .inl hp
    · exact .inr (.inl hp)
    · exact .inr (.inr ⟨hc, x, vf, g1, g2, g3, hn ⟨o, ho, hc, hw⟩ _ g5 g4 rfl, g5, g6⟩)
/-- an operation was run, and the memory of the abstract machine is as it was -/
theorem Mid.same {D : Nat → Prop} {a : Act} {w w' : World} {pre suf js : List Nat} {ι ι' : Inj} {h : H} {an : Nat → Nat} {i : Nat} {o : Oper} {v : V} {cv : Value} (hok : okS P ops ms σ = true) (hσ : σ = pre ++ suf) (hm : Mid P ops ms nt f h0 ι0 w0 hf D a w pre suf js ι h an)
    (hhead : suf = [] ∨ ∃ i r o, suf = i :: r ∧ ops[i]? = some o ∧ cls P o.op = 3 ∧ ¬ D i) (ho : ops[i]? = some o) (hlt : ∀ t, o.dst = some t → t < nt)
    (hs : Sub ι ι') (hv : VR ι' v cv) (hd : dv f o v) (hr : HR P ι' h w') (hx : Ext h0 ι0 w0 h ι' w') (hi : i ∈ pre ∨ (i ∈ suf ∧ cls P o.op = 0))
    (hn : ∀ j ∈ pre, j ≠ i → ¬ D j → isA P ops f j → ∀ n, n < h.n → ι n = none → n = an j → ι' n = none) : Inv P ops ms nt f h0 ι0 w0 hf σ (fun j => D j ∨ j = i) (a.put o.dst cv) w' := by
  have hap := (okS_apart pre suf (hσ ▸ hok)).2
  refine ⟨pre, suf, js, ι', h, an, hσ, ⟨hm.tr, hr, rel_put ho hs hv hd (by rw [hm.size]; exact hlt) hm.rel, by rw [put_size]; exact hm.size, fun g hg => ?_, by rw [put_defers]; exact hm.defers, hx, fun j hj hD => ?_, fun j hj k hk hDj hDk => ?_, hm.js, fun j hj hD o' ho' => ?_⟩, ?_⟩
  · obtain ⟨r, h1⟩ := hm.glob g hg; exact ⟨r, hs _ _ h1⟩
  · have hD1 : ¬ D j := fun h => hD (.inl h)
    have hD2 : j ≠ i := fun h => hD (.inr h)
    exact (hm.pend j hj hD1).keep fun hA n h1 h2 h3 => hn j hj hD2 hD1 hA n h1 h2 h3
  · exact hm.apart j hj k hk (fun h => hDj (.inl h)) (fun h => hDk (.inl h))
  · rcases hD with hD | rfl
    · exact hm.done j hj hD o' ho'
    · rw [ho] at ho'; cases ho'
      rcases hi with hi | hi
      · exact absurd hj (hap _ hi)
      · exact hi.2
  · rcases hhead with h1 | ⟨i0, r, o1, h1, h2, h3, h4⟩
    · exact .inl h1
    · refine .inr ⟨i0, r, o1, h1, h2, h3, fun hD => ?_⟩
      rcases hD with hD | rfl
      · exact h4 hD
      · rcases hi with hi | hi
        · exact hap _ hi (by rw [h1]; simp)
        · rw [ho] at h2; cases h2; omega

theorem inv_step (hms : ms = bfrL ops.toList []) (hok : okS P ops ms σ = true) (hHp : Hp P ops ms σ) (hcov : ∀ i, i < ops.size → i ∈ σ) (hdst : dstOK nt ops = true) (hd0 : ∀ b, h0.n ≤ b → ι0 b = none) {Q : Exit → Act → World → Prop} {D : Nat → Prop}
    (hD : ∀ (j : Nat) (o : Oper), ops[j]? = some o → D j → ∀ d ∈ o.after.toList, Go.Region.binds .any d = true → D d.on)
    {i : Nat} (hi : i < ops.size) (hnD : ¬ D i) (hdeps : ∀ o, ops[i]? = some o → ∀ d ∈ o.after.toList, Go.Region.binds .any d = true → D d.on) {a : Act} {w : World} (hinv : Inv P ops ms nt f h0 ι0 w0 hf σ D a w) :
    Go.wpOp P ops Q i (fun a' w' => Inv2 P ops ms nt f h0 ι0 w0 hf (fun j => D j ∨ j = i) a' w') a w := by
  obtain ⟨r, o, ho, ok1⟩ := okS_mem σ hok i (hcov i hi)
  have hlt := dstOK_get hdst ho
  have hbef : ∀ k, bef ms i k = true → D k := fun k hk => bef_sound hD ho (hdeps o ho) (by rw [← hms]; exact hk)
  have hset : ∀ t ∈ rd o ++ gds ops o, ∀ j o', ops[j]? = some o' → o'.dst = some t → D j := by
    intro t ht j o' hj hj'
    have hjs : j < ops.size := (Array.getElem?_eq_some_iff.1 hj).1
    exact hbef j ((ok1.rds t ht).2 j t hjs (by rw [hj]; exact hj') rfl)
  obtain ⟨pre, suf, js, ι, h, an, hσ, hm, hhead⟩ := hinv
  obtain ⟨hoks, hap⟩ := okS_apart pre suf (hσ ▸ hok)
  -- the environment of what the operation reads
  have her : ∀ l : List Nat, (∀ t ∈ l, t ∈ rd o ++ gds ops o) → ER P ι (fun t => bif mem l t then f t else .undef) nt a := by
    intro l hl
    refine ⟨hm.size, fun t => ?_, hm.glob, hm.defers⟩
    cases hq : mem l t with
    | false => simp [VR]
    | true =>
      simp only [cond_true]
      exact hm.rel t (hset t (hl t (mem_true.1 hq)))
  have her1 : ER P ι (msk o f) nt a := her (rd o) fun t ht => List.mem_append.2 (.inl ht)
  have her2 := her (rd o ++ gds ops o) fun t ht => ht
  have hwant : wnt ops f o → Go.Region.wanted o (Go.yielded ops a.tmps) = true := by
    rintro (hg | ⟨g, want, hg, h1⟩)
    · exact wanted_none hg _
    · rw [wanted_some hg]
      have h2 : gv ops (fun t => bif mem (rd o ++ gds ops o) t then f t else .undef) g = .bool want := by
        rw [← h1]
        refine gv_eq fun t ht => ?_
        have : t ∈ rd o ++ gds ops o := List.mem_append.2 (.inr (by unfold gds; rw [hg]; simp only []; rw [ht]; simp))
        rw [mem_true.2 this]; rfl
      rw [(yielded_of her2 ops g).1 _ h2]; simp
  have hunw : unw ops f o → Go.Region.wanted o (Go.yielded ops a.tmps) = false := by
    rintro ⟨g, want, hg, h1⟩
    rw [wanted_some hg]
    have h2 : gv ops (fun t => bif mem (rd o ++ gds ops o) t then f t else .undef) g = gv ops f g := by
      refine gv_eq fun t ht => ?_
      have : t ∈ rd o ++ gds ops o := List.mem_append.2 (.inr (by unfold gds; rw [hg]; simp only []; rw [ht]; simp))
      rw [mem_true.2 this]; rfl
    rcases h1 with h1 | ⟨l, h1⟩
    · rw [(yielded_of her2 ops g).1 _ (h2.trans h1)]; cases want <;> rfl
    · rw [(yielded_of her2 ops g).2 _ (h2.trans h1)]; rfl
  unfold Go.wpOp
  rw [ho]
  simp only
  -- not wanted
  have skip : unw ops f o → dv f o (.tup []) → (i ∈ pre ∨ (i ∈ suf ∧ cls P o.op = 0)) → (if Go.Region.wanted o (Go.yielded ops a.tmps) = true then o.wp P a w (fun a' w' => Inv2 P ops ms nt f h0 ι0 w0 hf (fun j => D j ∨ j = i) a' w') Q ∨ (o.asks P a w ∧ Go.LetsOut Q) else Inv2 P ops ms nt f h0 ι0 w0 hf (fun j => D j ∨ j = i) (a.put o.dst undef) w) := by
    intro hu hdv hpl
    rw [hunw hu, if_neg (by simp)]
    refine Inv.two hok hHp hcov ?_
    exact Mid.same hok hσ hm hhead ho hlt (Sub.refl _) (VR_undef ι) hdv hm.hr hm.ext hpl fun _ _ _ _ _ _ _ h2 _ => h2
  -- wanted, and the memory stays
  have stay : wnt ops f o → ∀ v, dv f o v → Good P o h ι w a v h → (i ∈ pre ∨ (i ∈ suf ∧ cls P o.op = 0)) → (if Go.Region.wanted o (Go.yielded ops a.tmps) = true then o.wp P a w (fun a' w' => Inv2 P ops ms nt f h0 ι0 w0 hf (fun j => D j ∨ j = i) a' w') Q ∨ (o.asks P a w ∧ Go.LetsOut Q) else Inv2 P ops ms nt f h0 ι0 w0 hf (fun j => D j ∨ j = i) (a.put o.dst undef) w) := by
    intro hw v hdv hg hpl
    rw [hwant hw, if_pos rfl]
    refine .inl (hg _ Q fun cv w' ι' h1 h2 h3 => ?_)
    refine Inv.two hok hHp hcov ?_
    refine Mid.same hok hσ hm hhead ho hlt h3.sub h1 hdv h2 (hm.ext.trans hd0 h3) hpl fun _ _ _ _ _ n hn hι _ => ?_
    cases hq : ι' n with
    | none => rfl
    | some L => have := (h3.new n L hq hι).1; omega
  -- a write
  have wstep : ∀ (σx r : List Nat) (hfx h' : H) (v : V), okS P ops ms σx = true → Hp P ops ms σx → (∀ i, i < ops.size → i ∈ σx) → HEq' hfx hf → σx = (pre ++ [i]) ++ r → TR P ops ms nt f (jsn P o i js) r h' hfx → dv f o v → GW P o (msk o f) nt h v h' →
      (∀ k ∈ js, bef ms i k = true ∨ Rok P ops nt f h' k) → wnt ops f o → cls P o.op = 3 → (∀ k ∈ r, D k ∨ k = i → ∀ o', ops[k]? = some o' → cls P o'.op = 0) →
      (if Go.Region.wanted o (Go.yielded ops a.tmps) = true then o.wp P a w (fun a' w' => Inv2 P ops ms nt f h0 ι0 w0 hf (fun j => D j ∨ j = i) a' w') Q ∨ (o.asks P a w ∧ Go.LetsOut Q) else Inv2 P ops ms nt f h0 ι0 w0 hf (fun j => D j ∨ j = i) (a.put o.dst undef) w) := by
    intro σx r hfx h' v hokx hHpx hcovx heqx hσx htx hdv hg hchk hw hc3 hdonex
    have hjs' : ∀ k ∈ pre ++ [i], ∀ o', ops[k]? = some o' → cls P o'.op = 1 → k ∈ jsn P o i js := by
      intro k hk o' hk' hc
      rcases List.mem_append.1 hk with hk1 | hk1
      · exact jsn_mem.1 k (hm.js k hk1 o' hk' hc)
      · have : k = i := by simpa using hk1
        subst this
        rw [ho] at hk'; cases hk'; omega
    have hpre : ∀ k ∈ pre ++ [i], ¬ (D k ∨ k = i) → k ∈ pre ∧ ¬ D k := by
      intro k hk hD'
      rcases List.mem_append.1 hk with hk1 | hk1
      · exact ⟨hk1, fun hh => hD' (.inl hh)⟩
      · exact absurd (.inr (by simpa using hk1)) hD'
    have hapart' : ∀ k ∈ pre ++ [i], ∀ l ∈ pre ++ [i], ¬ (D k ∨ k = i) → ¬ (D l ∨ l = i) → isA P ops f k → isA P ops f l → an k = an l → k = l := by
      intro k hk l hl hDk hDl
      obtain ⟨k1, k2⟩ := hpre k hk hDk
      obtain ⟨l1, l2⟩ := hpre l hl hDl
      exact hm.apart k k1 l l1 k2 l2
    rw [hwant hw, if_pos rfl]
    refine .inl (hg ι w a hm.hr her1 _ Q fun cv w' ι' p1 p2 p3 => ?_)
    refine ⟨σx, hfx, hokx, hHpx, hcovx, heqx, ?_⟩
    refine advance r (pre ++ [i]) _ ι' h' an hσx hokx ⟨htx, p2, rel_put ho p3.sub p1 hdv (by rw [hm.size]; exact hlt) hm.rel, by rw [put_size]; exact hm.size, fun g hg => ?_, by rw [put_defers]; exact hm.defers, hm.ext.trans hd0 p3, fun k hk hDk => ?_, hapart', hjs', hdonex⟩
    · obtain ⟨r, h1⟩ := hm.glob g hg; exact ⟨r, p3.sub _ _ h1⟩
    · obtain ⟨k1, k2⟩ := hpre k hk hDk
      obtain ⟨o2, ho2, hp⟩ := hm.pend k k1 k2
      refine ⟨o2, ho2, ?_⟩
      rcases hp with hp | ⟨hw2, hp⟩
      · exact .inl hp
      · refine .inr ⟨hw2, ?_⟩
        rcases hp with hp | ⟨hc2, hp⟩ | ⟨hc2, x, vf, g1, g2, g3, g4, g5, g6⟩
        · exact .inl hp
        · refine .inr (.inl ⟨hc2, ?_⟩)
          rcases hchk k (hm.js k k1 o2 ho2 hc2) with hb | ⟨o3, ho3, hb⟩
          · exact absurd (hbef k hb) k2
          · rw [ho2] at ho3; cases ho3
            rcases hb with hb | hb
            · exact (wnt_unw hw2 hb).elim
            · exact hb
        · have hnn := p3.n
          refine .inr (.inr ⟨hc2, x, vf, g1, g2, by rw [p3.ghost _ g5 g4]; exact g3, ?_, by omega, g6⟩)
          cases hq : ι' (an k) with
          | none => rfl
          | some L => have := (p3.new _ L hq g4).1; omega
  have hrefl : HEq' hf hf := ⟨rfl, fun _ => rfl⟩
  have hjsn3 : cls P o.op = 3 → jsn P o i js = js := by
    intro hc; unfold jsn; rw [hc]; rfl
  have hmem : i ∈ pre ++ suf := hσ ▸ hcov i hi
  rcases List.mem_append.1 hmem with hip | his
  · obtain ⟨o2, ho2, hp⟩ := hm.pend i hip hnD
    rw [ho] at ho2; cases ho2
    rcases hp with ⟨hu, hdv⟩ | ⟨hw, hp⟩
    · exact skip hu hdv (.inl hip)
    · rcases hp with ⟨hc, v, hdv, hg⟩ | ⟨hc, v, hdv, hg⟩ | ⟨hc, x, vf, g1, g2, g3, g4, g5, g6⟩
      · exact stay hw v hdv (hg h ι w a hm.hr her1) (.inl hip)
      · exact stay hw v hdv (hg h (Sup.refl h) ι w a hm.hr her1) (.inl hip)
      · rw [hwant hw, if_pos rfl]
        left
        obtain ⟨cv, w1, obj, room, q1, q2, q3, q4⟩ := g1 h ι w a hm.hr her1
        have hr1 : HR P ι h w1 := by rcases q2 with rfl | rfl; exact hm.hr; exact hm.hr.drew
        have hx1 : Ext h0 ι0 w0 h ι w1 := by rcases q2 with rfl | rfl; exact hm.ext; exact hm.ext.drew
        have hs1 : w1.heap.size = w.heap.size := by rcases q2 with rfl | rfl <;> rfl
        obtain ⟨ι', p1, p2, p3, p4⟩ := hr1.late g5 g4 g3 obj room (by rw [hs1]; exact q3)
        unfold Go.Oper.wp
        rw [q1]
        refine Inv.two hok hHp hcov ?_
        refine Mid.same hok hσ hm hhead ho hlt p3 (q4 ι' _ (by rw [← hs1]; exact p1)) g2 p4 (hx1.late g6 p1 p2 p3) (.inl hip) fun j hj hji hDj hA n hn hι hnj => ?_
        have : n ≠ an i := fun e => hji (hm.apart j hj i hip hDj hnD hA ⟨o, ho, hc, hw⟩ (by rw [← hnj, e]))
        rw [p2 n this]; exact hι
  · rcases hhead with h1 | ⟨i0, r0, oo, hsuf, ho0, hc0, hnD0⟩
    · rw [h1] at his; cases his
    · subst hsuf
      by_cases hii : i = i0
      · subst hii
        rw [ho] at ho0; cases ho0
        have hσ' : σ = (pre ++ [i]) ++ r0 := by rw [hσ]; simp
        have hnr : i ∉ r0 := by
          obtain ⟨o', ho', ok', _⟩ := okS_cons hoks
          exact ok'.new
        have hjs' : ∀ k ∈ pre ++ [i], ∀ o', ops[k]? = some o' → cls P o'.op = 1 → k ∈ jsn P o i js := by
          intro k hk o' hk' hc
          rcases List.mem_append.1 hk with hk1 | hk1
          · exact jsn_mem.1 k (hm.js k hk1 o' hk' hc)
          · have : k = i := by simpa using hk1
            subst this
            rw [ho] at hk'; cases hk'; omega
        have hdone' : ∀ k ∈ r0, D k ∨ k = i → ∀ o', ops[k]? = some o' → cls P o'.op = 0 := by
          intro k hk hDk o' hk'
          rcases hDk with hDk | rfl
          · exact hm.done k (by simp [hk]) hDk o' hk'
          · exact absurd hk hnr
        have hpre : ∀ k ∈ pre ++ [i], ¬ (D k ∨ k = i) → k ∈ pre ∧ ¬ D k := by
          intro k hk hD'
          rcases List.mem_append.1 hk with hk1 | hk1
          · exact ⟨hk1, fun hh => hD' (.inl hh)⟩
          · exact absurd (.inr (by simpa using hk1)) hD'
        have hapart' : ∀ k ∈ pre ++ [i], ∀ l ∈ pre ++ [i], ¬ (D k ∨ k = i) → ¬ (D l ∨ l = i) → isA P ops f k → isA P ops f l → an k = an l → k = l := by
          intro k hk l hl hDk hDl
          obtain ⟨k1, k2⟩ := hpre k hk hDk
          obtain ⟨l1, l2⟩ := hpre l hl hDl
          exact hm.apart k k1 l l1 k2 l2
        have ht := hm.tr
        cases ht with
        | skip ho' hu hdv ht' =>
          rw [ho] at ho'; cases ho'
          rw [hunw hu, if_neg (by simp)]
          refine Inv.two hok hHp hcov ?_
          refine advance r0 (pre ++ [i]) _ ι h an hσ' hok ⟨ht', hm.hr, rel_put ho (Sub.refl _) (VR_undef ι) hdv (by rw [hm.size]; exact hlt) hm.rel, by rw [put_size]; exact hm.size, hm.glob, by rw [put_defers]; exact hm.defers, hm.ext, fun k hk hDk => ?_, hapart', hjs', hdone'⟩
          obtain ⟨k1, k2⟩ := hpre k hk hDk
          exact hm.pend k k1 k2
        | pr ho' hw hc => rw [ho] at ho'; cases ho'; omega
        | rr ho' hw hc => rw [ho] at ho'; cases ho'; omega
        | ar ho' hw hc => rw [ho] at ho'; cases ho'; omega
        | wr ho' hw hc hdv hg hchk _ ht' =>
          rw [ho] at ho'; cases ho'
          exact wstep σ r0 hf _ _ hok hHp hcov hrefl hσ' ht' hdv hg hchk hw hc hdone'
        | ws hi' hj' hpr hgi hgj hci hcj hdi hdj w1 w2 w3 w4 heq s1 s2 s3 s4 =>
          rename_i j h1 h3 h4 oj oi
          rw [ho] at hi'; cases hi'
          refine wstep σ [j] hf _ _ hok hHp hcov hrefl hσ' ?_ (fun d hd => by rw [hdi] at hd; cases hd) w1 s1 (.inl hgi) hci hdone'
          rw [hjsn3 hci]
          exact .wr hj' (.inl hgj) hcj (fun d hd => by rw [hdj] at hd; cases hd) w2 s2 (by simp) .nil
      · have hir : i ∈ r0 := by
          rcases List.mem_cons.1 his with h1 | h1
          · exact absurd h1 hii
          · exact h1
        obtain ⟨o0, ho0', ok0, _⟩ := okS_cons hoks
        rw [ho0] at ho0'; cases ho0'
        have hopAt : opAt ops i = o := by unfold opAt; simp [ho]
        have plain : (∀ j ∈ r0, cls P (opAt ops j).op = 0 ∨ bef ms j i0 = true) → (if Go.Region.wanted o (Go.yielded ops a.tmps) = true then o.wp P a w (fun a' w' => Inv2 P ops ms nt f h0 ι0 w0 hf (fun j => D j ∨ j = i) a' w') Q ∨ (o.asks P a w ∧ Go.LetsOut Q) else Inv2 P ops ms nt f h0 ι0 w0 hf (fun j => D j ∨ j = i) (a.put o.dst undef) w) := by
          intro hall
          have hc : cls P o.op = 0 := by
            rcases hall i hir with h1 | h1
            · rw [hopAt] at h1; exact h1
            · exact absurd (hbef i0 h1) hnD0
          obtain ⟨o2, ho2, hp⟩ := TR_mem hm.tr i his
          rw [ho] at ho2; cases ho2
          rcases hp with ⟨hu, hdv⟩ | ⟨hw, hp⟩
          · exact skip hu hdv (.inr ⟨his, hc⟩)
          · obtain ⟨v, hdv, hg⟩ := hp hc
            exact stay hw v hdv (hg h ι w a hm.hr her1) (.inr ⟨his, hc⟩)
        have ht := hm.tr
        cases ht with
        | skip ho' hu hdv ht' =>
          rw [ho0] at ho'; cases ho'
          rcases ok0.wr hc0 with h9 | h9
          · exact plain h9
          · exfalso
            obtain ⟨_, _, _, hp9, _⟩ := isPr_of h9
            have hopi : opAt ops i0 = oo := by unfold opAt; simp [ho0]
            rw [hopi] at hp9
            obtain ⟨_, _, _, _, hgn, _⟩ := plainSt_of hp9
            obtain ⟨g, want, hg, _⟩ := hu
            rw [hg] at hgn; cases hgn
        | pr ho' hw hc => rw [ho0] at ho'; cases ho'; omega
        | rr ho' hw hc => rw [ho0] at ho'; cases ho'; omega
        | ar ho' hw hc => rw [ho0] at ho'; cases ho'; omega
        | wr ho' hw hc hdv hg hchk hall ht' => exact plain hall
        | ws hi' hj' hpr hgi hgj hci hcj hdi hdj w1 w2 w3 w4 heq s1 s2 s3 s4 =>
          have hij := List.mem_singleton.1 hir
          subst hij
          rw [ho] at hj'; cases hj'
          refine wstep (pre ++ [i, i0]) [i0] _ _ _ (hHp pre i0 i hσ hpr) ?_ (fun k hk => ?_) heq (by simp) ?_ (fun d hd => by rw [hdj] at hd; cases hd) w3 s3 (.inl hgj) hcj ?_
          · intro pre' i' j' he _
            have h9 := congrArg List.reverse he
            simp at h9
            obtain ⟨rfl, rfl, rfl⟩ := h9
            rw [← hσ]; exact hok
          · have := hcov k hk
            rw [hσ] at this
            simp at this ⊢
            rcases this with h9 | h9 | h9
            · exact .inl h9
            · exact .inr (.inr h9)
            · exact .inr (.inl h9)
          · rw [hjsn3 hcj]
            exact .wr hi' (.inl hgi) hci (fun d hd => by rw [hdi] at hd; cases hd) w4 s4 (by simp) .nil
          · intro k hk hDk
            have hk0 : k = i0 := List.mem_singleton.1 hk
            subst hk0
            rcases hDk with h9 | h9
            · exact absurd h9 hnD0
            · exact absurd h9.symm hii
end
end GoEv
namespace GoEv
open Go (IntKind Value World Addr MapEntry Program Oper Op Operand Act Exit undef execOp Sem Result TypeId TypeDesc BinOp UnOp Code Func)

theorem HR.heq {P : Program} {ι : Inj} {h h' : H} {w : World} (hr : HR P ι h w) (e : HEq' h h') : HR P ι h' w :=
  ⟨fun b hb => hr.dom b (by rw [e.1]; exact hb), hr.lt, fun b L x hb hg => hr.blk b L x hb (by rw [e.2]; exact hg), fun b b' L L' x x' hne hb hb' hg hg' => hr.apart b b' L L' x x' hne hb hb' (by rw [e.2]; exact hg) (by rw [e.2]; exact hg'), fun b hb => by rw [← e.2]; exact hr.wf b (by rw [e.1]; exact hb)⟩
theorem Ext.heq {h0 h h' : H} {ι0 ι : Inj} {w0 w : World} (hx : Ext h0 ι0 w0 h ι w) (e : HEq' h h') : Ext h0 ι0 w0 h' ι w :=
  ⟨hx.sub, by rw [← e.1]; exact hx.n, fun b x hb hg ho => hx.mono b x hb (by rw [e.2]; exact hg) ho, hx.os, hx.tape, hx.output, hx.size, hx.keep, fun b hb hn => by rw [← e.2]; exact hx.ghost b hb hn, hx.new⟩
theorem filter_lt {α : Type} (p p' : α → Bool) (hp : ∀ x, p' x = true → p x = true) : ∀ (l : List α), (l.filter p').length ≤ (l.filter p).length ∧ ∀ x ∈ l, p x = true → p' x = false → (l.filter p').length < (l.filter p).length
  | [] => ⟨Nat.le_refl _, by simp⟩
  | a :: l => by
    obtain ⟨h1, h2⟩ := filter_lt p p' hp l
    cases h3 : p' a with
    | true =>
      have h4 := hp a h3
      simp only [List.filter_cons, h3, h4, if_true, List.length_cons]
      refine ⟨by omega, fun x hx hpx hpx' => ?_⟩
      rcases List.mem_cons.1 hx with rfl | hx
      · rw [h3] at hpx'; cases hpx'
      · have := h2 x hx hpx hpx'; omega
    | false =>
      cases h4 : p a with
      | true =>
        simp only [List.filter_cons, h3, h4, if_true, List.length_cons]
        refine ⟨by simp; omega, fun x hx hpx hpx' => by simp; omega⟩
      | false =>
        simp only [List.filter_cons, h3, h4]
        refine ⟨by simpa using h1, fun x hx hpx hpx' => ?_⟩
        rcases List.mem_cons.1 hx with rfl | hx
        · rw [h4] at hpx; cases hpx
        · simpa using h2 x hx hpx hpx'

section
variable {P : Program} {X : Nat → Nat} {S : Sm} {ops : Array Oper} {nt : Nat} {f : Env} {h0 : H} {ι0 : Inj} {w0 : World} {hf : H} {σ : List Nat} {ms : List Nat}
def Dl (l : Array Bool) (i : Nat) : Prop := l.getD i false = true
theorem ready_mem {l : Array Bool} (hl : l.size = ops.size) {i : Nat} : i ∈ Go.Region.ready .any ops l ↔ i < ops.size ∧ ¬ Dl l i ∧ ∀ o, ops[i]? = some o → ∀ d ∈ o.after.toList, Go.Region.binds .any d = true → Dl l d.on := by
  unfold Go.Region.ready
  rw [List.mem_filter, List.mem_range]
  refine and_congr_right fun hi => ?_
  rw [Bool.and_eq_true]
  obtain ⟨o, ho⟩ : ∃ o, ops[i]? = some o := ⟨ops[i], Array.getElem?_eq_getElem hi⟩
  have hli : i < l.size := by omega
  refine and_congr ?_ ?_
  · unfold Dl
    simp [hli]
  · rw [ho]
    simp only [Option.map_some, Option.getD_some]
    rw [Array.all_eq_true_iff_forall_mem]
    constructor
    · intro h o' ho' d hd hb
      cases ho'
      have := h d (by simpa using hd)
      rw [hb] at this
      simpa [Dl] using this
    · intro h d hd
      cases hb : Go.Region.binds .any d with
      | false => rfl
      | true => have := h o rfl d (by simpa using hd) hb; simpa [Dl] using this
theorem all_listed {l : Array Bool} (hl : l.size = ops.size) (hok : okS P ops ms σ = true) (hcov : ∀ i, i < ops.size → i ∈ σ) (hr : Go.Region.ready .any ops l = []) : ∀ (suf pre : List Nat), σ = pre ++ suf → (∀ k ∈ pre, Dl l k) → ∀ k ∈ suf, Dl l k
  | [], _, _, _ => by simp
  | i :: r, pre, hσ, hp => by
    obtain ⟨o, ho, ok1, _⟩ := okS_cons (okS_apart pre (i :: r) (hσ ▸ hok)).1
    have hi : Dl l i := by
      by_cases hD : Dl l i
      · exact hD
      · exfalso
        have hlt : i < ops.size := (Array.getElem?_eq_some_iff.1 ho).1
        have : i ∈ Go.Region.ready .any ops l := by
          rw [ready_mem hl]
          refine ⟨hlt, hD, fun o' ho' d hd hb => ?_⟩
          rw [ho] at ho'; cases ho'
          obtain ⟨h1, h2⟩ := ok1.deps d hd hb
          have h3 : d.on ∈ pre ++ i :: r := hσ ▸ hcov _ h1
          rcases List.mem_append.1 h3 with h4 | h4
          · exact hp _ h4
          · exact absurd h4 h2
        rw [hr] at this; cases this
    intro k hk
    rcases List.mem_cons.1 hk with rfl | hk
    · exact hi
    · refine all_listed hl hok hcov hr r (pre ++ [i]) (by rw [hσ]; simp) (fun j hj => ?_) k hk
      rcases List.mem_append.1 hj with h1 | h1
      · exact hp j h1
      · have : j = i := by simpa using h1
        subst this; exact hi
theorem any_sound (hms : ms = bfrL ops.toList []) (hok : okS P ops ms σ = true) (hcov : ∀ i, i < ops.size → i ∈ σ) (hHp : Hp P ops ms σ) (hdst : dstOK nt ops = true) (hd0 : ∀ b, h0.n ≤ b → ι0 b = none) {Q : Exit → Act → World → Prop}
    (hQ : ∀ a w, St P nt h0 ι0 w0 f hf a w → Q .normal a w) : ∀ (fuel : Nat) (l : Array Bool) (a : Act) (w : World), l.size = ops.size → ((List.range ops.size).filter fun i => !l.getD i false).length ≤ fuel →
      (∀ (j : Nat) (o : Oper), ops[j]? = some o → Dl l j → ∀ d ∈ o.after.toList, Go.Region.binds .any d = true → Dl l d.on) → Inv2 P ops ms nt f h0 ι0 w0 hf (Dl l) a w → Go.wpAny P .any ops Q fuel l a w := by
  have fin : ∀ (l : Array Bool) (a : Act) (w : World), (∀ k ∈ σ, Dl l k) → Inv2 P ops ms nt f h0 ι0 w0 hf (Dl l) a w → Q .normal a w := by
    intro l a w hall2 hinv2
    obtain ⟨σ2, hf2, hok2, hHp2, hcov2, heq2, hinv⟩ := hinv2
    have hall : ∀ k ∈ σ2, Dl l k := fun k hk => by
      obtain ⟨r, o, ho, _⟩ := okS_mem σ2 hok2 k hk
      exact hall2 k (hcov k (Array.getElem?_eq_some_iff.1 ho).1)
    obtain ⟨pre, suf, js, ι, h, an, hσ, hm, hhead⟩ := hinv
    rcases hhead with rfl | ⟨i, r, o, rfl, ho, hc, hnD⟩
    · have ht := hm.tr
      cases ht
      exact hQ a w ⟨ι, hm.hr.heq heq2, ⟨hm.size, fun t => hm.rel t fun j o hj _ => hall j (hcov2 j (Array.getElem?_eq_some_iff.1 hj).1), hm.glob, hm.defers⟩, hm.ext.heq heq2⟩
    · exact absurd (hall i (by rw [hσ]; simp)) hnD
  intro fuel
  induction fuel with
  | zero =>
    intro l a w hl hc hD hinv
    have hnil : ((List.range ops.size).filter fun i => !l.getD i false) = [] := List.eq_nil_of_length_eq_zero (by omega)
    have hall : ∀ i, i < ops.size → Dl l i := by
      intro i hi
      unfold Dl
      cases hq : l.getD i false with
      | true => rfl
      | false =>
        have : i ∈ (List.range ops.size).filter fun i => !l.getD i false := List.mem_filter.2 ⟨List.mem_range.2 hi, by rw [hq]; rfl⟩
        rw [hnil] at this; cases this
    have hrn : Go.Region.ready .any ops l = [] := by
      rw [List.eq_nil_iff_forall_not_mem]
      intro i hi
      rw [ready_mem hl] at hi
      exact hi.2.1 (hall i hi.1)
    refine ⟨hrn, fin l a w (fun k hk => ?_) hinv⟩
    obtain ⟨r, o, ho, _⟩ := okS_mem σ hok k hk
    exact hall k (Array.getElem?_eq_some_iff.1 ho).1
  | succ fuel ih =>
    intro l a w hl hc hD hinv
    refine ⟨fun hrn => fin l a w (fun k hk => all_listed hl hok hcov hrn σ [] (by simp) (by simp) k hk) hinv, fun i hi => ?_⟩
    rw [ready_mem hl] at hi
    obtain ⟨hi1, hi2, hi3⟩ := hi
    obtain ⟨σ2, hf2, hok2, hHp2, hcov2, heq2, hinv⟩ := hinv
    refine Go.wpOp_mono (fun a' w' hinv2 => ?_) (inv_step hms hok2 hHp2 hcov2 hdst hd0 hD hi1 hi2 hi3 hinv)
    have hinv' : Inv2 P ops ms nt f h0 ι0 w0 hf (fun j => Dl l j ∨ j = i) a' w' := by
      obtain ⟨σ3, hf3, q1, q2, q3, q4, q5⟩ := hinv2
      exact ⟨σ3, hf3, q1, q2, q3, ⟨q4.1.trans heq2.1, fun k => (q4.2 k).trans (heq2.2 k)⟩, q5⟩
    have hDl : ∀ j, Dl (l.setIfInBounds i true) j ↔ (Dl l j ∨ j = i) := by
      intro j
      unfold Dl
      by_cases e : j = i
      · subst e; simp [hl, hi1]
      · simp [e, Array.getElem?_setIfInBounds_ne (Ne.symm e)]
    have hfun : Dl (l.setIfInBounds i true) = fun j => Dl l j ∨ j = i := funext fun j => propext (hDl j)
    refine ih _ a' w' (by simp [hl]) ?_ ?_ (by rw [hfun]; exact hinv')
    · have h1 := (filter_lt (fun k => !l.getD k false) (fun k => !(l.setIfInBounds i true).getD k false) (fun x hx => by
        have hx' : ¬ Dl (l.setIfInBounds i true) x := by
          intro h; unfold Dl at h; rw [h] at hx; cases hx
        rw [hDl] at hx'
        cases hq : l.getD x false with
        | false => rfl
        | true => exact absurd (.inl hq) hx') (List.range ops.size)).2 i (List.mem_range.2 hi1) (by
          cases hq : l.getD i false with
          | false => rfl
          | true => exact absurd hq hi2) (by
          have : Dl (l.setIfInBounds i true) i := (hDl i).2 (.inr rfl)
          unfold Dl at this; rw [this]; rfl)
      omega
    · intro j o hj hDj d hd hb
      rw [hDl] at hDj
      rw [hDl]
      rcases hDj with hDj | rfl
      · exact .inl (hD j o hj hDj d hd hb)
      · exact .inl (hi3 o hj d hd hb)
theorem popA_size (opz : Array Oper) : (popA opz).size = opz.size - 1 := by simp [popA]
theorem popA_get {opz : Array Oper} {i : Nat} (hi : i < opz.size - 1) : (popA opz)[i]? = opz[i]? := by
  simp only [popA, List.getElem?_toArray, List.getElem?_dropLast, Array.length_toList]
  rw [if_pos hi, Array.getElem?_toList]
theorem wp_exits {o : Oper} {a : Act} {w : World} {K : Act → World → Prop} {Q1 Q : Exit → Act → World → Prop} (h : ∀ ex a w, ex ≠ .normal → Q1 ex a w → Q ex a w) (hh : o.wp P a w K Q1) : o.wp P a w K Q := by
  unfold Go.Oper.wp at *
  generalize (execOp a.eval o).run P w = r at *
  cases r with
  | ok n w' =>
    cases n <;> simp only [Go.Oper.upon] at hh ⊢ <;>
      first
        | exact hh
        | exact Go.Calls.mono hh (fun e w'' he => by
            cases e with
            | returned v => exact he
            | panicked c => exact h _ _ _ (by simp) he
            | outgrown => exact he.imp fun a he => he.imp fun w he => h _ _ _ (by simp) he)
  | halt x w' =>
    cases x <;> simp only [Go.Oper.upon] at hh ⊢ <;> first | exact hh | exact h _ _ _ (by simp) hh
/-- a region whose last operation comes behind all others -/
theorem wpAny_last {opz : Array Oper} {oz : Oper} (hoz : opz[opz.size - 1]? = some oz) (hsz : 0 < opz.size) (hbz : ∀ j, j < opz.size - 1 → bef (bfrL opz.toList []) (opz.size - 1) j = true)
    (hdown : ∀ i o, opz[i]? = some o → ∀ d ∈ o.after.toList, Go.Region.binds .any d = true → d.on < i) (hgd : ∀ o ∈ (popA opz).toList, ∀ g want, o.guard = some (g, want) → g < opz.size - 1)
    {Q Q1 : Exit → Act → World → Prop} (hQn : ∀ a w, Q1 .normal a w → Go.wpOp P opz Q (opz.size - 1) (fun a w => Q .normal a w) a w) (hQx : ∀ ex a w, ex ≠ .normal → Q1 ex a w → Q ex a w) : ∀ (fuel : Nat) (l : Array Bool) (a : Act) (w : World), l.size = opz.size - 1 →
      (∀ (j : Nat) (o : Oper), (popA opz)[j]? = some o → Dl l j → ∀ d ∈ o.after.toList, Go.Region.binds .any d = true → Dl l d.on) → Go.wpAny P .any (popA opz) Q1 fuel l a w → Go.wpAny P .any opz Q (fuel + 1) (l.push false) a w := by
  have hget : ∀ i, i < opz.size - 1 → (popA opz)[i]? = opz[i]? := fun i hi => popA_get hi
  have hps := popA_size opz
  have hDl : ∀ (l : Array Bool), l.size = opz.size - 1 → ∀ k, k < opz.size - 1 → (Dl (l.push false) k ↔ Dl l k) := by
    intro l hl k hk
    unfold Dl
    simp [Array.getElem?_push, hl, Nat.ne_of_lt hk]
  have hDz : ∀ (l : Array Bool), l.size = opz.size - 1 → ¬ Dl (l.push false) (opz.size - 1) := by
    intro l hl hh
    unfold Dl at hh
    rw [← hl] at hh
    simp at hh
  have hpz : ∀ (l : Array Bool), l.size = opz.size - 1 → (l.push false).size = opz.size := fun l hl => by simp [hl]; omega
  have rdy : ∀ (l : Array Bool), l.size = opz.size - 1 → ∀ i, i < opz.size - 1 → (i ∈ Go.Region.ready .any opz (l.push false) ↔ i ∈ Go.Region.ready .any (popA opz) l) := by
    intro l hl i hi
    rw [ready_mem (hpz l hl), ready_mem (by rw [hps, hl]), hget i hi]
    refine ⟨fun ⟨_, h2, h3⟩ => ⟨by omega, fun hh => h2 ((hDl l hl i hi).2 hh), fun o ho d hd hb => ?_⟩, fun ⟨_, h2, h3⟩ => ⟨by omega, fun hh => h2 ((hDl l hl i hi).1 hh), fun o ho d hd hb => ?_⟩⟩
    · have := hdown i o ho d hd hb
      exact (hDl l hl _ (by omega)).1 (h3 o ho d hd hb)
    · have := hdown i o ho d hd hb
      exact (hDl l hl _ (by omega)).2 (h3 o ho d hd hb)
  -- nothing ready: all done
  have hall : ∀ (l : Array Bool), l.size = opz.size - 1 → Go.Region.ready .any (popA opz) l = [] → ∀ n k, k < n → k < opz.size - 1 → Dl l k := by
    intro l hl hr n
    induction n with
    | zero => intro k hk; omega
    | succ n ih =>
      intro k hk hks
      by_cases hD : Dl l k
      · exact hD
      · exfalso
        have : k ∈ Go.Region.ready .any (popA opz) l := by
          rw [ready_mem (by rw [hps, hl])]
          refine ⟨by omega, hD, fun o ho d hd hb => ?_⟩
          have := hdown k o (by rw [← hget k hks]; exact ho) d hd hb
          exact ih d.on (by omega) (by omega)
        rw [hr] at this; cases this
  -- the last one is ready if and only if all others are done
  have zready : ∀ (l : Array Bool), l.size = opz.size - 1 → (∀ k, k < opz.size - 1 → Dl l k) → opz.size - 1 ∈ Go.Region.ready .any opz (l.push false) := by
    intro l hl hd
    rw [ready_mem (hpz l hl)]
    refine ⟨by omega, hDz l hl, fun o ho d hd' hb => ?_⟩
    have := hdown _ o ho d hd' hb
    exact (hDl l hl _ this).2 (hd _ this)
  have zdone : ∀ (l : Array Bool), l.size = opz.size - 1 → (∀ (j : Nat) (o : Oper), (popA opz)[j]? = some o → Dl l j → ∀ d ∈ o.after.toList, Go.Region.binds .any d = true → Dl l d.on) →
      opz.size - 1 ∈ Go.Region.ready .any opz (l.push false) → ∀ k, k < opz.size - 1 → Dl l k := by
    intro l hl hD hi k hk
    have hrd := (ready_mem (hpz l hl)).1 hi
    have hz2 : ∀ d ∈ oz.after.toList, Go.Region.binds .any d = true → Dl (l.push false) d.on := hrd.2.2 oz hoz
    have := bfrL_sound (fun j => Dl (l.push false) j) opz.toList [] [] rfl (fun j o ho hDj d hd hb => ?_) (fun j o ho => by simp at ho) (opz.size - 1) oz (by simpa using hoz) hz2 k (hbz k hk)
    · exact (hDl l hl k hk).1 this
    · have ho' : opz[j]? = some o := by simpa using ho
      by_cases hj : j < opz.size - 1
      · have hdn := hdown j o ho' d hd hb
        exact (hDl l hl _ (by omega)).2 (hD j o (by rw [hget j hj]; exact ho') ((hDl l hl j hj).1 hDj) d hd hb)
      · have hj2 : j = opz.size - 1 := by have := (Array.getElem?_eq_some_iff.1 ho').1; omega
        subst hj2
        exact absurd hDj (hDz l hl)
  have zrest : ∀ (l : Array Bool), l.size = opz.size - 1 → (∀ k, k < opz.size - 1 → Dl l k) → Go.Region.ready .any opz ((l.push false).setIfInBounds (opz.size - 1) true) = [] := by
    intro l hl hd
    rw [List.eq_nil_iff_forall_not_mem]
    intro k hk
    rw [ready_mem (by simp [hl]; omega)] at hk
    refine hk.2.1 ?_
    unfold Dl
    by_cases e : k = opz.size - 1
    · subst e; rw [← hl]; simp
    · have := (hDl l hl k (by omega)).2 (hd k (by omega))
      unfold Dl at this
      simp only [Array.getD_eq_getD_getElem?] at this ⊢
      rw [Array.getElem?_setIfInBounds_ne (Ne.symm e)]
      exact this
  have conv : ∀ i, i < opz.size - 1 → ∀ (K : Act → World → Prop) a w, Go.wpOp P (popA opz) Q1 i K a w → Go.wpOp P opz Q i K a w := by
    intro i hi K a w hh
    unfold Go.wpOp at hh ⊢
    rw [← hget i hi]
    cases ho : (popA opz)[i]? with
    | none => rw [ho] at hh; exact hh
    | some o =>
      rw [ho] at hh
      simp only at hh ⊢
      have hwn : Go.Region.wanted o (Go.yielded opz a.tmps) = Go.Region.wanted o (Go.yielded (popA opz) a.tmps) := by
        cases hg : o.guard with
        | none => rw [wanted_none hg, wanted_none hg]
        | some gw =>
          obtain ⟨g, want⟩ := gw
          rw [wanted_some hg, wanted_some hg]
          have hg2 := hgd o (by have := Array.mem_of_getElem? ho; simpa using this) g want hg
          unfold Go.yielded
          rw [hget g hg2]
      rw [hwn]
      split
      · rename_i hw
        rw [if_pos hw] at hh
        refine hh.imp (wp_exits hQx) fun ⟨h1, h2⟩ => ⟨h1, h2.imp fun a h2 => h2.imp fun w h2 => hQx _ _ _ (by simp) h2⟩
      · rename_i hw
        rw [if_neg hw] at hh
        exact hh
  have zstep : ∀ (fuel : Nat) (l : Array Bool) (a : Act) (w : World), l.size = opz.size - 1 → (∀ k, k < opz.size - 1 → Dl l k) → Q1 .normal a w → Go.wpOp P opz Q (opz.size - 1) (Go.wpAny P .any opz Q fuel ((l.push false).setIfInBounds (opz.size - 1) true)) a w := by
    intro fuel l a w hl hd hq
    refine Go.wpOp_mono (fun a' w' hq => ?_) (hQn a w hq)
    have hnone := zrest l hl hd
    cases fuel with
    | zero => exact ⟨hnone, hq⟩
    | succ fuel => exact ⟨fun _ => hq, fun k hk => by rw [hnone] at hk; cases hk⟩
  intro fuel
  induction fuel with
  | zero =>
    intro l a w hl hD hh
    obtain ⟨hr, hq⟩ := hh
    have hd := fun k hk => hall l hl hr (k + 1) k (by omega) hk
    refine ⟨(fun hrn => by have := zready l hl hd; rw [hrn] at this; cases this), fun i hi => ?_⟩
    have hi1 := ((ready_mem (hpz l hl)).1 hi)
    by_cases e : i = opz.size - 1
    · subst e; exact zstep 0 l a w hl hd hq
    · exact absurd ((hDl l hl i (by omega)).2 (hd i (by omega))) hi1.2.1
  | succ fuel ih =>
    intro l a w hl hD hh
    obtain ⟨hq, hs⟩ := hh
    refine ⟨fun hrn => ?_, fun i hi => ?_⟩
    · exfalso
      have hr : Go.Region.ready .any (popA opz) l = [] := by
        rw [List.eq_nil_iff_forall_not_mem]
        intro i hi
        have hlt : i < opz.size - 1 := by have := ((ready_mem (by rw [hps, hl])).1 hi).1; omega
        have := (rdy l hl i hlt).2 hi
        rw [hrn] at this; cases this
      have := zready l hl fun k hk => hall l hl hr (k + 1) k (by omega) hk
      rw [hrn] at this; cases this
    · have hi1 := ((ready_mem (hpz l hl)).1 hi)
      by_cases e : i = opz.size - 1
      · subst e
        have hd := zdone l hl hD hi
        refine zstep (fuel + 1) l a w hl hd (hq ?_)
        rw [List.eq_nil_iff_forall_not_mem]
        intro k hk
        have hk1 := (ready_mem (by rw [hps, hl])).1 hk
        exact hk1.2.1 (hd k (by omega))
      · have hlt : i < opz.size - 1 := by omega
        have hi' := (rdy l hl i hlt).1 hi
        refine Go.wpOp_mono (fun a' w' hq' => ?_) (conv i hlt _ _ _ (hs i hi'))
        have hset : (l.push false).setIfInBounds i true = (l.setIfInBounds i true).push false := by
          apply Array.ext_getElem?
          intro k
          simp only [Array.getElem?_setIfInBounds, Array.getElem?_push, Array.size_push, Array.size_setIfInBounds]
          by_cases h1 : i = k
          · subst h1
            rw [if_pos rfl, if_pos (by omega), if_neg (by omega), if_pos rfl, if_pos (by omega)]
          · rw [if_neg h1, if_neg h1]
        rw [hset]
        have hDs : ∀ j, Dl (l.setIfInBounds i true) j ↔ (Dl l j ∨ j = i) := by
          intro j
          unfold Dl
          by_cases e : j = i
          · subst e; simp [hl]; omega
          · simp [e, Array.getElem?_setIfInBounds_ne (Ne.symm e)]
        refine ih _ a' w' (by simp [hl]) (fun j o hj hDj d hd hb => ?_) hq'
        rw [hDs] at hDj
        rw [hDs]
        rcases hDj with hDj | rfl
        · exact .inl (hD j o hj hDj d hd hb)
        · have hdn := hdown j o (by rw [← hget j hlt]; exact hj) d hd hb
          exact .inl ((hDl l hl _ (by omega)).1 (hi1.2.2 o (by rw [← hget j hlt]; exact hj) d hd hb))
theorem Hp_of (hok2 : okP P ops (bfrL ops.toList []) σ = true) : Hp P ops (bfrL ops.toList []) σ := by
  intro pre i j hσ hpr
  unfold okP at hok2
  rw [hσ] at hok2
  simp only [List.reverse_append, List.reverse_cons, List.reverse_nil, List.nil_append, List.cons_append, List.singleton_append] at hok2
  rw [hpr] at hok2
  simpa using hok2
theorem Inv2_start (hok : okS P ops (bfrL ops.toList []) σ = true) (hHp : Hp P ops (bfrL ops.toList []) σ) (hcov : ∀ i, i < ops.size → i ∈ σ) {n : Nat} {e : Env} {h : H} {a : Act} {w : World} (hs : St P nt h0 ι0 w0 e h a w)
    (h2 : ∀ t, t ∉ dsts ops σ → f t = e t) (h3 : TR P ops (bfrL ops.toList []) nt f [] σ h hf) : Inv2 P ops (bfrL ops.toList []) nt f h0 ι0 w0 hf (Dl (Array.replicate n false)) a w.drew := by
  obtain ⟨ι, hr, he, hx⟩ := hs
  have hDf : ∀ j, ¬ Dl (Array.replicate n false) j := by
    intro j hj
    unfold Dl at hj
    by_cases hlt : j < n
    · simp [hlt] at hj
    · simp [hlt] at hj
  refine Inv.two hok hHp hcov ?_
  refine advance σ [] [] ι h (fun _ => 0) rfl hok ⟨h3, hr.drew, fun t ht => ?_, he.size, he.glob, he.defers, hx.drew, (fun i hi => nomatch hi), (fun i hi => nomatch hi), (fun i hi => nomatch hi), fun i _ hD => absurd hD (hDf i)⟩
  have hnd : t ∉ dsts ops σ := by
    intro hm
    unfold dsts at hm
    obtain ⟨j, hj, hjd⟩ := List.mem_filterMap.1 hm
    cases hoj : ops[j]? with
    | none => rw [hoj] at hjd; cases hjd
    | some o => rw [hoj] at hjd; exact hDf j (ht j o hoj hjd)
  rw [h2 t hnd]; exact he.tmp t
theorem dDrN_sound (hX : XOK P X) (hS : SOK P S) {h0 : H} {ι0 : Inj} {w0 : World} (hd0 : ∀ b, h0.n ≤ b → ι0 b = none) : ∀ (k : Nat) (ops : Array Oper) (σ : List Nat) (e : Env) (h : H) (K : Env → H → A) (r : V × H) (Q : Exit → Act → World → Prop) (a : Act) (w : World),
    dstOK nt ops = true → dDrN P X S k ops σ e h K = some r → (∀ e h a w, K e h = some r → St P nt h0 ι0 w0 e h a w → Q .normal a w) → St P nt h0 ι0 w0 e h a w → Go.wpAny P .any ops Q ops.size (Array.replicate ops.size false) a w.drew := by
  intro k ops σ e h K r Q a w hdst hh hK hs
  have hDf : ∀ (n j : Nat), ¬ Dl (Array.replicate n false) j := by
    intro n j hj
    unfold Dl at hj
    by_cases hlt : j < n
    · simp [hlt] at hj
    · simp [hlt] at hj
  have base : okσ P ops (bfrL ops.toList []) σ = true → dDr P X S ops (bfrL ops.toList []) σ [] e h K = some r → Go.wpAny P .any ops Q ops.size (Array.replicate ops.size false) a w.drew := by
    intro hc0 hh
    unfold okσ at hc0
    rw [Bool.and_eq_true, Bool.and_eq_true] at hc0
    obtain ⟨hc, hok, hok2⟩ := hc0
    have hHp := Hp_of hok2
    have hcov : ∀ i, i < ops.size → i ∈ σ := fun i hi => mem_true.1 (List.all_eq_true.1 hc i (List.mem_range.2 hi))
    obtain ⟨f, hf, h1, h2, h3⟩ := dDr_TR (nt := nt) hX hS σ [] e h K hok (fun j hj => nomatch hj) hh
    refine any_sound (h0 := h0) (ι0 := ι0) (w0 := w0) (f := f) (hf := hf) rfl hok hcov hHp hdst hd0 (fun a w hst => hK f hf a w h1 hst) ops.size _ a _ (by simp) ?_ (fun j o _ hj => absurd hj (hDf _ j)) (Inv2_start hok hHp hcov hs h2 h3)
    exact Nat.le_trans (List.length_filter_le _ _) (by simp)
  cases k with
  | zero =>
    unfold dDrN at hh
    rw [bif_none] at hh
    exact base hh.1 hh.2
  | succ k =>
    unfold dDrN at hh
    cases hc0 : okσ P ops (bfrL ops.toList []) σ with
    | true => rw [hc0, cd_true] at hh; exact base hc0 hh
    | false =>
      rw [hc0, cd_false, bif_none] at hh
      obtain ⟨hz, hh⟩ := hh
      unfold okZ at hz
      split at hz
      case h_2 => cases hz
      rename_i oz hoz
      rw [Bool.and_eq_true, Bool.and_eq_true, Bool.and_eq_true] at hz
      obtain ⟨⟨⟨z1, z2⟩, z3⟩, z4⟩ := hz
      have hoz' : ops[ops.size - 1]? = some oz := by
        rw [List.getLast?_eq_getElem?] at hoz
        simpa using hoz
      have hpos : 0 < ops.size := by have := (Array.getElem?_eq_some_iff.1 hoz').1; omega
      have hopz : opAt ops (ops.size - 1) = oz := by
        unfold opAt
        simp [hoz']
      rw [hopz] at hh
      have hdst' : dstOK nt (popA ops) = true := by
        unfold dstOK at hdst ⊢
        rw [List.all_eq_true] at hdst ⊢
        intro o ho
        exact hdst o (List.dropLast_subset _ ho)
      have ih := dDrN_sound hX hS hd0 k (popA ops) σ.dropLast e h _ r (fun ex a w => match ex with | .normal => Go.wpOp P ops Q (ops.size - 1) (fun a w => Q .normal a w) a w | ex => Q ex a w) a w hdst' hh (fun e h a w hq hst => by
        obtain ⟨v, h', q1, q2⟩ := dAny_sound (nt := nt) hX hS hq
        show Go.wpOp P ops Q (ops.size - 1) (fun a w => Q .normal a w) a w
        unfold Go.wpOp
        rw [hoz']
        simp only
        rw [wanted_none (by simpa using z1), if_pos rfl]
        exact .inl (hst.step hd0 q2 (dstOK_get hdst hoz') fun a' w' hs' => hK _ _ a' w' q1 hs')) hs
      have hl := wpAny_last (P := P) (Q := Q) hoz' hpos (fun j hj => List.all_eq_true.1 z2 j (List.mem_range.2 hj)) (fun i o ho d hd hb => ?_) (fun o ho g want hg => ?_) (fun a w hq => hq) (fun ex a w hne hq => by cases ex <;> first | exact absurd rfl hne | exact hq) (popA ops).size (Array.replicate (popA ops).size false) a w.drew (by simp) (fun j o _ hj => absurd hj (hDf _ j)) ih
      · rw [popA_size] at hl
        have e1 : (Array.replicate (ops.size - 1) false).push false = Array.replicate ops.size false := by
          have : ops.size = (ops.size - 1) + 1 := by omega
          rw [this, Nat.add_sub_cancel, Array.replicate_succ]
        rw [e1, show ops.size - 1 + 1 = ops.size by omega] at hl
        exact hl
      · have hi := (Array.getElem?_eq_some_iff.1 ho).1
        have := List.all_eq_true.1 (List.all_eq_true.1 z3 i (List.mem_range.2 hi)) d (by unfold opAt; simpa [ho] using hd)
        rw [hb] at this
        exact Nat.le_of_ble_eq_true this
      · have := List.all_eq_true.1 z4 o ho
        rw [hg] at this
        exact Nat.le_of_ble_eq_true this
theorem dDraw_sound (hmix : P.follows .mixedOrders = true) (hX : XOK P X) (hS : SOK P S) : DOK P nt (dDraw P X S nt) := by
  intro h0 ι0 w0 hd0 id ops σ e h K r Q a w hdst hh hK hs
  exact Go.wp_region_any hmix (dDrN_sound hX hS hd0 4 ops σ e h K r Q a w hdst hh hK hs)
/-- what function f comes to -/
noncomputable abbrev theD (P : Program) (X : Nat → Nat) : Sm → Nat → Array Oper → List Nat → Env → H → (Env → H → A) → A := fun S nt => dDraw P X S nt
theorem Sem_ok (hmix : P.follows .mixedOrders = true) (hX : XOK P X) {t : Tr} (ht : t.All (FOK P X (theD P X))) (n : Nat) : SOK P (GoEv.Sem t n) :=
  Sem_sound hX (fun S hS nt => dDraw_sound hmix hX hS) ht n
end
end GoEv
namespace GoEv
open Go (IntKind Value World Addr Program Ending)
open Go.RowKit (Below)

/-- what a call does, told of abstract memories -/
def Snd (P : Program) (f : Nat) (args : List V) (h : H) (v : V) (h' : H) : Prop :=
  ∀ (ι : Inj) (w : World) (cargs : Array Value), HR P ι h w → VRs ι args cargs.toList → (∀ g, g < P.globals.size → ∃ room, ι g = some ⟨g, 0, room⟩) →
    Go.Calls P f cargs w fun ex w' => ∃ cv ι', ex = .returned cv ∧ VR ι' v cv ∧ HR P ι' h' w' ∧ Ext h ι w h' ι' w'
/-- what a function does, if those that it calls do what they are told to do -/
def FSnd (P : Program) (f : Nat) (F : Sm → List V → H → A) : Prop := ∀ S, SOK P S → ∀ args h v h', F S args h = some (v, h') → Snd P f args h v h'
theorem FSnd.of {P : Program} {X : Nat → Nat} (hmix : P.follows .mixedOrders = true) (hX : XOK P X) {f : Nat} {F : Sm → List V → H → A} (hF : FOK P X (theD P X) f F) : FSnd P f F := by
  intro S hS args h v h' hh ι w cargs hr ha hg
  obtain ⟨fn, c, hn, na, h1, h2, rfl⟩ := hF
  exact dFun_sound hX hS (fun nt => dDraw_sound hmix hX hS) h1 h2 hh hr ha hg
theorem Tr.All.mono {p q : Nat → (Sm → List V → H → A) → Prop} (hpq : ∀ f F, p f F → q f F) : ∀ {t : Tr}, t.All p → t.All q
  | .nl, _ => trivial
  | .lf _ _, h => hpq _ _ h
  | .nd _ _ _, h => ⟨Tr.All.mono hpq h.1, Tr.All.mono hpq h.2⟩
theorem Sem_snd {P : Program} {t : Tr} (ht : t.All (FSnd P)) : ∀ n, SOK P (GoEv.Sem t n)
  | 0 => by intro f args h v h' hh; cases hh
  | n + 1 => by
    intro f args h v h' hh
    have ih := Sem_snd ht n
    have hh' : t.get f (GoEv.Sem t n) args h = some (v, h') := hh
    obtain ⟨F, h1, h2⟩ := Tr.get_some ht hh'
    exact h1 _ ih args h v h' h2

/-! ### from a small memory to a larger one -/
theorem HR.sub {P : Program} {ι : Inj} {h h0 : H} {w : World} (hr : HR P ι h w) (hn : h0.n = h.n) (hs : ∀ b x, h0.get b = some x → h.get b = some x) : HR P ι h0 w :=
  ⟨fun b hb => hr.dom b (by rw [← hn]; exact hb), hr.lt, fun b L x hb hg => hr.blk b L x hb (hs _ _ hg), fun b b' L L' x x' hne hb hb' hg hg' => hr.apart b b' L L' x x' hne hb hb' (hs _ _ hg) (hs _ _ hg'), fun b hb => by
    cases hc : h0.get b with
    | none => rfl
    | some x => rw [hn] at hb; have h1 := hr.wf b hb; rw [hs b x hc] at h1; cases h1⟩
/-- the larger memory behind the call: what the small one has there, else as it was; what is new may be forgotten -/
structure Fr (h0 h1 h h' : H) : Prop where
  n0 : h0.n = h.n
  n1 : h1.n = h'.n
  le : h0.n ≤ h1.n
  sub : ∀ b x, h0.get b = some x → h.get b = some x ∧ live x = true
  old : ∀ b x, b < h.n → h0.get b = some x → h'.get b = h1.get b
  out : ∀ b, b < h.n → h0.get b = none → h'.get b = h.get b
  new : (∀ b, h.n ≤ b → h.get b = none) → ∀ b x, h.n ≤ b → h'.get b = some x → h1.get b = some x
theorem Snd.frame {P : Program} {f : Nat} {args : List V} {v : V} {h0 h1 h h' : H} (hS : Snd P f args h0 v h1) (fr : Fr h0 h1 h h') : Snd P f args h v h' := by
  intro ι w cargs hr ha hg
  have hr0 : HR P ι h0 w := hr.sub fr.n0 fun b x hb => (fr.sub b x hb).1
  refine (hS ι w cargs hr0 ha hg).mono ?_
  rintro ex w' ⟨cv, ι', rfl, hv, hr1, hx⟩
  have hlt : ∀ b L, ι b = some L → b < h.n := fun b L hb => Nat.lt_of_not_le fun hle => by rw [hr.dom b hle] at hb; cases hb
  -- a block outside of the small memory reads as it did
  have hkeep : ∀ b L x, ι b = some L → h0.get b = none → h.get b = some x → live x = true → w'.heap[L.cb]? = w.heap[L.cb]? := by
    intro b L x hb h0n hgx hl
    refine hx.keep _ (hr.lt b L hb) fun b0 L0 x0 hb0 hg0 ho => ?_
    exact hr.apart b0 b L0 L x0 x (fun e => by rw [e, h0n] at hg0; cases hg0) hb0 hb (fr.sub _ _ hg0).1 hgx ho hl
  -- where a block of the larger memory behind the call comes from
  have src : ∀ b L x, ι' b = some L → h'.get b = some x → (h1.get b = some x ∧ (h.n ≤ b ∨ (b < h.n ∧ ∃ y, h0.get b = some y ∧ ι b = some L))) ∨ (b < h.n ∧ h0.get b = none ∧ h.get b = some x ∧ ι b = some L) := by
    intro b L x hb hgx
    by_cases hbn : b < h.n
    · have hιb : ι b = some L := by
        cases hc : ι b with
        | none => have := (hx.new b L hb hc).1; rw [fr.n0] at this; omega
        | some L' => have := hx.sub b L' hc; rw [hb] at this; exact this.symm
      cases h0b : h0.get b with
      | none => exact .inr ⟨hbn, rfl, by rw [← fr.out b hbn h0b]; exact hgx, hιb⟩
      | some y => exact .inl ⟨by rw [← fr.old b y hbn h0b]; exact hgx, .inr ⟨hbn, y, rfl, hιb⟩⟩
    · exact .inl ⟨fr.new hr.wf b x (by omega) hgx, .inl (by omega)⟩
  -- an own block of the small memory behind the call stands in a place of its own
  have place : ∀ b L x, ι' b = some L → h1.get b = some x → (h.n ≤ b ∨ (b < h.n ∧ ∃ y, h0.get b = some y ∧ ι b = some L)) → (w.heap.size ≤ L.cb ∨ ∃ b0 L0 x0, ι b0 = some L0 ∧ h0.get b0 = some x0 ∧ L0.cb = L.cb ∧ (own x = true → own x0 = true) ∧ live x0 = true ∧ (h.n ≤ b → own x0 = true) ∧ (b < h.n → b0 = b)) := by
    intro b L x hb hgx hc
    rcases hc with hbn | ⟨hbn, y, hy, hιb⟩
    · have hn : ι b = none := hr.dom b hbn
      rcases (hx.new b L hb hn).2 with h5 | ⟨b0, L0, x0, h5, h6, h7, h8⟩
      · exact .inl h5
      · exact .inr ⟨b0, L0, x0, h5, h6, h8, fun _ => h7, (fr.sub _ _ h6).2, fun _ => h7, fun h => by omega⟩
    · refine .inr ⟨b, L, y, hιb, hy, rfl, fun ho => ?_, (fr.sub _ _ hy).2, fun h => by omega, fun _ => rfl⟩
      obtain ⟨z, hz, hoz⟩ := hx.mono b x (by rw [fr.n0]; exact hbn) hgx ho
      rw [hy] at hz; cases hz; exact hoz
  have hwf : ∀ b, h'.n ≤ b → h'.get b = none := fun b hb => by
    cases hc : h'.get b with
    | none => rfl
    | some x =>
      have := fr.new hr.wf b x (by have := fr.le; rw [fr.n0, fr.n1] at this; omega) hc
      rw [hr1.wf b (by rw [fr.n1]; exact hb)] at this; cases this
  refine ⟨cv, ι', rfl, hv, ⟨fun b hb => hr1.dom b (by rw [fr.n1]; exact hb), hr1.lt, ?_, ?_, hwf⟩, ⟨hx.sub, ?_, ?_, hx.os, hx.tape, hx.output, hx.size, ?_, ?_, ?_⟩⟩
  · intro b L x hb hgx
    rcases src b L x hb hgx with ⟨h5, _⟩ | ⟨h5, h6, h7, h8⟩
    · exact hr1.blk b L x hb h5
    · have hbr := hr.blk b L x h8 h7
      cases hl : live x with
      | false => cases x <;> first | trivial | cases hl
      | true => exact hbr.same hx.sub (hkeep b L x h8 h6 h7 hl)
  · intro b b' L L' x x' hne hb hb' hgx hgx' ho hl
    rcases src b L x hb hgx with ⟨h5, c5⟩ | ⟨h5, h6, h7, h8⟩
    · rcases src b' L' x' hb' hgx' with ⟨g5, _⟩ | ⟨g5, g6, g7, g8⟩
      · exact hr1.apart b b' L L' x x' hne hb hb' h5 g5 ho hl
      · rcases place b L x hb h5 c5 with p | ⟨b0, L0, x0, p1, p2, p3, p4, _⟩
        · have := hr.lt b' L' g8; omega
        · rw [← p3]
          exact hr.apart b0 b' L0 L' x0 x' (fun e => by rw [e, g6] at p2; cases p2) p1 g8 (fr.sub _ _ p2).1 g7 (p4 ho) hl
    · rcases src b' L' x' hb' hgx' with ⟨g5, c5⟩ | ⟨g5, g6, g7, g8⟩
      · rcases place b' L' x' hb' g5 c5 with p | ⟨b0, L0, x0, p1, p2, p3, p4, p5, _⟩
        · have := hr.lt b L h8; omega
        · rw [← p3]
          exact hr.apart b b0 L L0 x x0 (fun e => by rw [← e, h6] at p2; cases p2) h8 p1 h7 (fr.sub _ _ p2).1 ho p5
      · exact hr.apart b b' L L' x x' hne h8 g8 h7 g7 ho hl
  · rw [← fr.n0, ← fr.n1]; exact fr.le
  · intro b x hbn hgx ho
    cases h0b : h0.get b with
    | none => exact ⟨x, by rw [← fr.out b hbn h0b]; exact hgx, ho⟩
    | some y =>
      obtain ⟨z, hz, hoz⟩ := hx.mono b x (by rw [fr.n0]; exact hbn) (by rw [← fr.old b y hbn h0b]; exact hgx) ho
      exact ⟨z, (fr.sub _ _ hz).1, hoz⟩
  · intro c hc hno
    exact hx.keep c hc fun b L x h5 h6 h7 => hno b L x h5 (fr.sub _ _ h6).1 h7
  · intro b hbn hn
    cases h0b : h0.get b with
    | none => exact fr.out b hbn h0b
    | some y => rw [fr.old b y hbn h0b, hx.ghost b (by rw [fr.n0]; exact hbn) hn, h0b, (fr.sub b y h0b).1]
  · intro b L h5 h6
    obtain ⟨h7, h8⟩ := hx.new b L h5 h6
    refine ⟨by rw [← fr.n0]; exact h7, ?_⟩
    rcases h8 with h8 | ⟨b0, L0, x0, q1, q2, q3, q4⟩
    · exact .inl h8
    · exact .inr ⟨b0, L0, x0, q1, (fr.sub _ _ q2).1, q3, q4⟩

/-! ### what is told -/
structure Told where
  n : Nat
  args : List V
  pre : List (Nat × Blk)
  v : V
  n1 : Nat
  post : List (Nat × Blk)
noncomputable def sets (l : List (Nat × Blk)) (t : T) : T := List.rec (motive := fun _ => T) t (fun p _ ih => Prod.casesOn p fun b x => T.set (Nat.succ b) x ih b) l
theorem sets_cons (b : Nat) (x : Blk) (l : List (Nat × Blk)) (t : T) : sets ((b, x) :: l) t = T.set (Nat.succ b) x (sets l t) b := rfl
theorem sets_get (t : T) (c : Nat) : ∀ l : List (Nat × Blk), (sets l t).get c = match l.find? (fun p => p.1 == c) with | some p => some p.2 | none => t.get c
  | [] => rfl
  | (b, x) :: l => by
    rw [sets_cons, T.get_set _ _ _ _ _ (Nat.lt_succ_self b), sets_get t c l]
    by_cases e : b = c
    · subst e; simp
    · simp [e, Ne.symm e]
/-- the small memories -/
noncomputable def Told.h0 (s : Told) : H := H.mk s.n (sets s.pre .lf)
noncomputable def Told.h1 (s : Told) : H := H.mk s.n1 (sets s.post (sets s.pre .lf))
noncomputable def eq3 (a b : V) : Bool := V.casesOn a (eq2 a b) (fun _ => eq2 a b) (fun _ => eq2 a b) (fun _ => eq2 a b) (fun _ _ => eq2 a b) (fun _ _ => eq2 a b) (fun _ _ => eq2 a b) (eq2 a b) (fun _ _ _ _ _ _ => eq2 a b) (eq2 a b) (fun _ => eq2 a b) (eq2 a b)
  (fun f p q => V.casesOn b false (fun _ => false) (fun _ => false) (fun _ => false) (fun _ _ => false) (fun _ _ => false) (fun _ _ => false) false (fun _ _ _ _ _ _ => false) false (fun _ => false) false (fun g r s => Bool.casesOn (Nat.beq f g) false (Bool.casesOn (eqL p r) false (eqL q s))) false (fun _ _ => false) false (fun _ => false) (fun _ => false))
  (eq2 a b) (fun _ _ => eq2 a b) (eq2 a b) (fun _ => eq2 a b) (fun _ => eq2 a b)
theorem bcase {b c : Bool} : (Bool.casesOn b false c : Bool) = true ↔ b = true ∧ c = true := by cases b <;> simp
theorem eq3_eq {a b : V} (h : eq3 a b = true) : a = b := by
  cases a <;> first | exact eq2_eq h | skip
  rename_i f p q
  cases b <;> first | cases h | skip
  rename_i g r s
  have h' : (Bool.casesOn (Nat.beq f g) false (Bool.casesOn (eqL p r) false (eqL q s)) : Bool) = true := h
  rw [bcase, bcase, beq_eq] at h'
  rw [of_decide_eq_true h'.1, eqL_eq h'.2.1, eqL_eq h'.2.2]
noncomputable def eqL3 (l : List V) : List V → Bool := List.rec (motive := fun _ => List V → Bool) (fun r => List.casesOn r true (fun _ _ => false)) (fun a _ ih r => List.casesOn r false (fun b r => Bool.casesOn (eq3 a b) false (ih r))) l
theorem eqL3_eq : ∀ {l r : List V}, eqL3 l r = true → l = r
  | [], [], _ => rfl
  | [], _ :: _, h => by cases h
  | _ :: _, [], h => by cases h
  | a :: l, b :: r, h => by
    have h' : (Bool.casesOn (eq3 a b) false (eqL3 l r) : Bool) = true := h
    rw [bcase] at h'
    rw [eq3_eq h'.1, eqL3_eq h'.2]
noncomputable def eqE (l : List (V × V)) : List (V × V) → Bool := List.rec (motive := fun _ => List (V × V) → Bool) (fun r => List.casesOn r true (fun _ _ => false)) (fun a _ ih r => List.casesOn r false (fun b r => Prod.casesOn a fun k v => Prod.casesOn b fun k' v' => Bool.casesOn (eq3 k k') false (Bool.casesOn (eq3 v v') false (ih r)))) l
theorem eqE_eq : ∀ {l r : List (V × V)}, eqE l r = true → l = r
  | [], [], _ => rfl
  | [], _ :: _, h => by cases h
  | _ :: _, [], h => by cases h
  | (k, v) :: l, (k', v') :: r, h => by
    have h' : (Bool.casesOn (eq3 k k') false (Bool.casesOn (eq3 v v') false (eqE l r)) : Bool) = true := h
    rw [bcase, bcase] at h'
    rw [eq3_eq h'.1, eq3_eq h'.2.1, eqE_eq h'.2.2]
noncomputable def eqBlk (a b : Blk) : Bool := Blk.casesOn a (fun ro fz l => Blk.casesOn b (fun ro' fz' l' => Bool.casesOn (eqB ro ro') false (Bool.casesOn (Nat.beq fz fz') false (eqL3 l l'))) (fun _ => false) false) (fun es => Blk.casesOn b (fun _ _ _ => false) (fun es' => eqE es es') false) false
theorem eqBlk_eq {a b : Blk} (h : eqBlk a b = true) : a = b ∧ live a = true := by
  cases a with
  | cells ro fz l =>
    cases b with
    | cells ro' fz' l' =>
      have h' : (Bool.casesOn (eqB ro ro') false (Bool.casesOn (Nat.beq fz fz') false (eqL3 l l')) : Bool) = true := h
      rw [bcase, bcase, eqB_eq, beq_eq] at h'
      rw [eq_of_beq h'.1, of_decide_eq_true h'.2.1, eqL3_eq h'.2.2]
      exact ⟨rfl, rfl⟩
    | map _ => cases h
    | dead => cases h
  | map es =>
    cases b with
    | map es' => exact ⟨by rw [eqE_eq h], rfl⟩
    | cells _ _ _ => cases h
    | dead => cases h
  | dead => cases h
/-- are the blocks of a list there? -/
noncomputable def there (t : T) (l : List (Nat × Blk)) : Bool := List.rec (motive := fun _ => Bool) true (fun p _ ih => Prod.casesOn p fun b x => Option.casesOn (T.get t b) false fun y => Bool.casesOn (eqBlk x y) false ih) l
theorem there_iff {t : T} : ∀ {l : List (Nat × Blk)}, there t l = true → ∀ p ∈ l, t.get p.1 = some p.2 ∧ live p.2 = true
  | [], _, p, hp => by cases hp
  | (b, x) :: l, h, p, hp => by
    have h' : (Option.casesOn (T.get t b) false (fun y => Bool.casesOn (eqBlk x y) false (there t l)) : Bool) = true := h
    cases hg : T.get t b with
    | none => rw [hg] at h'; cases h'
    | some y =>
      rw [hg] at h'
      have h'' : (Bool.casesOn (eqBlk x y) false (there t l) : Bool) = true := h'
      rw [bcase] at h''
      rcases List.mem_cons.1 hp with rfl | hp
      · obtain ⟨h1, h2⟩ := eqBlk_eq h''.1
        exact ⟨by rw [h1]; exact hg, h2⟩
      · exact there_iff h''.2 p hp
/-- a function with calls that are told -/
noncomputable def told (l : List Told) (F : Sm → List V → H → A) (S : Sm) (args : List V) (h : H) : A :=
  H.casesOn h fun n t => List.rec (motive := fun _ => A) (F S args (H.mk n t))
    (fun s _ ih => Told.casesOn s fun n0 args0 pre v n1 post => Bool.casesOn (Nat.beq n n0) ih (Bool.casesOn (eqL3 args0 args) ih (Bool.casesOn (there t pre) ih (some (v, H.mk n1 (sets post t)))))) l
/-- what is told is so -/
structure Told.OK (P : Program) (f : Nat) (s : Told) : Prop where
  le : s.n ≤ s.n1
  old : ∀ p ∈ s.post, p.1 < s.n → ∃ q ∈ s.pre, q.1 = p.1
  snd : Snd P f s.args s.h0 s.v s.h1
theorem told_snd {P : Program} {f : Nat} {F : Sm → List V → H → A} (hF : FSnd P f F) : ∀ {l : List Told}, (∀ s ∈ l, s.OK P f) → FSnd P f (told l F)
  | [], _ => by
    intro S hS args h v h' hh
    cases h with
    | mk n t => exact hF S hS args _ v h' hh
  | s :: l, hl => by
    intro S hS args h v h' hh
    have ih := told_snd hF (l := l) fun s hs => hl s (by simp [hs])
    cases h with
    | mk n t =>
      have e : told (s :: l) F S args (H.mk n t) = Bool.casesOn (Nat.beq n s.n) (told l F S args (H.mk n t)) (Bool.casesOn (eqL3 s.args args) (told l F S args (H.mk n t)) (Bool.casesOn (there t s.pre) (told l F S args (H.mk n t)) (some (s.v, H.mk s.n1 (sets s.post t))))) := by cases s; rfl
      rw [e] at hh
      cases h1 : Nat.beq n s.n with
      | false => rw [h1] at hh; exact ih S hS args _ v h' hh
      | true =>
        cases h2 : eqL3 s.args args with
        | false => rw [h1, h2] at hh; exact ih S hS args _ v h' hh
        | true =>
          cases h3 : there t s.pre with
          | false => rw [h1, h2, h3] at hh; exact ih S hS args _ v h' hh
          | true =>
            rw [h1, h2, h3] at hh
            have hn : n = s.n := Nat.eq_of_beq_eq_true h1
            subst hn
            have hq : some (s.v, H.mk s.n1 (sets s.post t)) = some (v, h') := hh
            simp only [Option.some.injEq, Prod.mk.injEq] at hq
            obtain ⟨rfl, rfl⟩ := hq
            have ok := hl s (by simp)
            rw [← eqL3_eq h2]
            have hth := there_iff h3
            have pre_get : ∀ b x, s.h0.get b = some x → t.get b = some x ∧ live x = true := by
              intro b x hb
              have : (sets s.pre .lf).get b = some x := hb
              rw [sets_get] at this
              cases hf : s.pre.find? (fun p => p.1 == b) with
              | none => rw [hf] at this; cases this
              | some p =>
                rw [hf] at this
                cases this
                have hm := List.mem_of_find?_eq_some hf
                have hb' := List.find?_some hf
                have := hth p hm
                rw [beq_iff_eq] at hb'
                rw [← hb']; exact this
            refine ok.snd.frame ⟨rfl, rfl, ok.le, pre_get, ?_, ?_, ?_⟩
            · intro b x hb h0b
              have h0b' := pre_get b x h0b
              show (sets s.post t).get b = (sets s.post (sets s.pre .lf)).get b
              rw [sets_get, sets_get]
              cases hf : s.post.find? (fun p => p.1 == b) with
              | some p => rfl
              | none => show t.get b = (sets s.pre .lf).get b; rw [h0b'.1]; exact h0b.symm
            · intro b hb h0b
              show (sets s.post t).get b = t.get b
              rw [sets_get]
              cases hf : s.post.find? (fun p => p.1 == b) with
              | none => rfl
              | some p =>
                exfalso
                have hm := List.mem_of_find?_eq_some hf
                have hb' := List.find?_some hf
                rw [beq_iff_eq] at hb'
                obtain ⟨q, hq, hqb⟩ := ok.old p hm (by rw [hb']; exact hb)
                have h0b' : (sets s.pre .lf).get b = none := h0b
                rw [sets_get] at h0b'
                cases hf2 : s.pre.find? (fun p => p.1 == b) with
                | some _ => rw [hf2] at h0b'; cases h0b'
                | none =>
                  have := List.find?_eq_none.1 hf2 q hq
                  rw [hqb, hb'] at this
                  simp at this
            · intro hw b x hb hgx
              have hgx' : (sets s.post t).get b = some x := hgx
              show (sets s.post (sets s.pre .lf)).get b = some x
              rw [sets_get] at hgx' ⊢
              cases hf : s.post.find? (fun p => p.1 == b) with
              | some p => rw [hf] at hgx'; exact hgx'
              | none => rw [hf] at hgx'; have h9 : t.get b = none := hw b hb; rw [h9] at hgx'; cases hgx'

/-! ### how a call is told: it is run once, and the outcome is held against what is told -/
noncomputable def eqD (a b : Blk) : Bool := Blk.casesOn a (fun _ _ _ => eqBlk a b) (fun _ => eqBlk a b) (Blk.casesOn b (fun _ _ _ => false) (fun _ => false) true)
theorem eqD_eq {a b : Blk} (h : eqD a b = true) : a = b := by
  cases a with
  | cells ro fz l => exact (eqBlk_eq (a := .cells ro fz l) (b := b) h).1
  | map es => exact (eqBlk_eq (a := .map es) (b := b) h).1
  | dead => cases b <;> first | rfl | cases h
noncomputable def thereD (t : T) (l : List (Nat × Blk)) : Bool := List.rec (motive := fun _ => Bool) true (fun p _ ih => Prod.casesOn p fun b x => Option.casesOn (T.get t b) false fun y => Bool.casesOn (eqD x y) false ih) l
theorem thereD_iff {t : T} : ∀ {l : List (Nat × Blk)}, thereD t l = true → ∀ p ∈ l, t.get p.1 = some p.2
  | [], _, p, hp => by cases hp
  | (b, x) :: l, h, p, hp => by
    have h' : (Option.casesOn (T.get t b) false (fun y => Bool.casesOn (eqD x y) false (thereD t l)) : Bool) = true := h
    cases hg : T.get t b with
    | none => rw [hg] at h'; cases h'
    | some y =>
      rw [hg] at h'
      have h'' : (Bool.casesOn (eqD x y) false (thereD t l) : Bool) = true := h'
      rw [bcase] at h''
      rcases List.mem_cons.1 hp with rfl | hp
      · rw [eqD_eq h''.1]; exact hg
      · exact thereD_iff h''.2 p hp
noncomputable def eqT (a b : V) : Bool := V.casesOn a (eq3 a b) (fun _ => eq3 a b) (fun _ => eq3 a b) (fun _ => eq3 a b) (fun _ _ => eq3 a b) (fun _ _ => eq3 a b) (fun _ _ => eq3 a b) (eq3 a b) (fun _ _ _ _ _ _ => eq3 a b) (eq3 a b) (fun _ => eq3 a b) (eq3 a b) (fun _ _ _ => eq3 a b) (eq3 a b) (fun _ _ => eq3 a b) (eq3 a b) (fun _ => eq3 a b)
  (fun l => V.casesOn b false (fun _ => false) (fun _ => false) (fun _ => false) (fun _ _ => false) (fun _ _ => false) (fun _ _ => false) false (fun _ _ _ _ _ _ => false) false (fun _ => false) false (fun _ _ _ => false) false (fun _ _ => false) false (fun _ => false) (fun r => eqL3 l r))
theorem eqT_eq {a b : V} (h : eqT a b = true) : a = b := by
  cases a <;> first | exact eq3_eq h | skip
  rename_i l
  cases b <;> first | cases h | skip
  exact congrArg V.tup (eqL3_eq h)
noncomputable def inDom (b : Nat) (l : List (Nat × Blk)) : Bool := List.rec (motive := fun _ => Bool) false (fun p _ ih => Prod.casesOn p fun c _ => Bool.casesOn (Nat.beq b c) ih true) l
theorem inDom_cons (b c : Nat) (x : Blk) (l : List (Nat × Blk)) : inDom b ((c, x) :: l) = Bool.casesOn (Nat.beq b c) (inDom b l) true := rfl
theorem inDom_iff {b : Nat} : ∀ {l : List (Nat × Blk)}, inDom b l = true ↔ ∃ p ∈ l, p.1 = b
  | [] => by simp [inDom]
  | (c, x) :: l => by
    rw [inDom_cons, beq_eq]
    by_cases e : b = c
    · subst e; simp
    · rw [decide_eq_false e]
      show inDom b l = true ↔ _
      rw [inDom_iff]
      simp [Ne.symm e]
/-- the blocks that stay as they are -/
noncomputable def stays (post : List (Nat × Blk)) (pre : List (Nat × Blk)) : List (Nat × Blk) := List.rec (motive := fun _ => List (Nat × Blk)) .nil (fun p _ ih => Prod.casesOn p fun b x => Bool.casesOn (inDom b post) (.cons (b, x) ih) ih) pre
theorem stays_mem {post : List (Nat × Blk)} {b : Nat} {x : Blk} (hn : inDom b post = false) : ∀ {pre : List (Nat × Blk)}, (b, x) ∈ pre → (b, x) ∈ stays post pre
  | [], h => by cases h
  | (c, y) :: pre, h => by
    have e : stays post ((c, y) :: pre) = Bool.casesOn (inDom c post) ((c, y) :: stays post pre) (stays post pre) := rfl
    rw [e]
    rcases List.mem_cons.1 h with h | h
    · cases h; rw [hn]; exact List.mem_cons_self
    · cases inDom c post with
      | false => exact List.mem_cons_of_mem _ (stays_mem hn h)
      | true => exact stays_mem hn h
noncomputable def chkTold (s : Told) (r : A) : Bool := Option.casesOn r false fun p => Prod.casesOn p fun v h => H.casesOn h fun n t => Bool.casesOn (eqT s.v v) false (Bool.casesOn (Nat.beq s.n1 n) false (Bool.casesOn (thereD t s.post) false (thereD t (stays s.post s.pre))))
def wfTold (s : Told) : Bool := Nat.ble s.n s.n1 && s.post.all (fun p => Nat.ble s.n p.1 || s.pre.any fun q => Nat.beq q.1 p.1) && s.pre.all fun p => Nat.blt p.1 s.n && (match p.2 with | .dead => false | _ => true)
theorem Told.ok {P : Program} {f : Nat} {s : Told} {F : Sm → List V → H → A} {S : Sm} (hF : FSnd P f F) (hS : SOK P S) (hw : wfTold s = true) (hc : chkTold s (F S s.args s.h0) = true) : s.OK P f := by
  unfold wfTold at hw
  rw [Bool.and_eq_true, Bool.and_eq_true, ble_eq] at hw
  obtain ⟨⟨w1, w2⟩, w3⟩ := hw
  have w1 : s.n ≤ s.n1 := of_decide_eq_true w1
  have w2 : ∀ p ∈ s.post, p.1 < s.n → ∃ q ∈ s.pre, q.1 = p.1 := by
    intro p hp hlt
    have := List.all_eq_true.1 w2 p hp
    rw [Bool.or_eq_true, ble_eq] at this
    rcases this with h | h
    · have := of_decide_eq_true h; omega
    · obtain ⟨q, hq, h2⟩ := List.any_eq_true.1 h
      exact ⟨q, hq, Nat.eq_of_beq_eq_true h2⟩
  have w3 : ∀ p ∈ s.pre, p.1 < s.n ∧ live p.2 = true := by
    intro p hp
    have := List.all_eq_true.1 w3 p hp
    rw [Bool.and_eq_true] at this
    refine ⟨Nat.le_of_ble_eq_true this.1, ?_⟩
    have h2 := this.2
    cases hp2 : p.2 <;> rw [hp2] at h2 <;> first | rfl | cases h2
  have pre_get : ∀ b x, s.h0.get b = some x → (b, x) ∈ s.pre := by
    intro b x hb
    have hb' : (sets s.pre .lf).get b = some x := hb
    rw [sets_get] at hb'
    cases hf : s.pre.find? (fun p => p.1 == b) with
    | none => rw [hf] at hb'; cases hb'
    | some p =>
      rw [hf] at hb'
      cases hb'
      have h1 := List.find?_some hf
      rw [beq_iff_eq] at h1
      rw [← h1]; exact List.mem_of_find?_eq_some hf
  refine ⟨w1, w2, ?_⟩
  cases hr : F S s.args s.h0 with
  | none => rw [hr] at hc; cases hc
  | some p =>
    obtain ⟨v, hp⟩ := p
    cases hp with
    | mk n t =>
      rw [hr] at hc
      have hc' : (Bool.casesOn (eqT s.v v) false (Bool.casesOn (Nat.beq s.n1 n) false (Bool.casesOn (thereD t s.post) false (thereD t (stays s.post s.pre)))) : Bool) = true := hc
      rw [bcase, bcase, bcase, beq_eq] at hc'
      obtain ⟨c1, c2, c3, c4⟩ := hc'
      have c2 : s.n1 = n := of_decide_eq_true c2
      have hv := eqT_eq c1
      subst hv c2
      have post_get : ∀ b p, s.post.find? (fun p => p.1 == b) = some p → t.get b = some p.2 := by
        intro b p hf
        have h1 := List.find?_some hf
        rw [beq_iff_eq] at h1
        rw [← h1]; exact thereD_iff c3 p (List.mem_of_find?_eq_some hf)
      refine (hF S hS s.args s.h0 s.v (H.mk s.n1 t) hr).frame ⟨rfl, rfl, w1, fun b x hb => ⟨hb, (w3 _ (pre_get b x hb)).2⟩, ?_, ?_, ?_⟩
      · intro b x hb h0b
        show (sets s.post (sets s.pre .lf)).get b = t.get b
        rw [sets_get]
        cases hf : s.post.find? (fun p => p.1 == b) with
        | some p => exact (post_get b p hf).symm
        | none =>
          show (sets s.pre .lf).get b = t.get b
          have hnd : inDom b s.post = false := by
            cases hq : inDom b s.post with
            | false => rfl
            | true =>
              obtain ⟨p, hp, e⟩ := inDom_iff.1 hq
              have := List.find?_eq_none.1 hf p hp
              rw [e] at this; simp at this
          have := thereD_iff c4 _ (stays_mem hnd (pre_get b x h0b))
          exact h0b.trans this.symm
      · intro b hb h0b
        show (sets s.post (sets s.pre .lf)).get b = (sets s.pre .lf).get b
        rw [sets_get]
        cases hf : s.post.find? (fun p => p.1 == b) with
        | none => rfl
        | some p =>
          exfalso
          have h1 := List.find?_some hf
          rw [beq_iff_eq] at h1
          obtain ⟨q, hq, hqb⟩ := w2 p (List.mem_of_find?_eq_some hf) (by rw [h1]; exact hb)
          have h0b' : (sets s.pre .lf).get b = none := h0b
          rw [sets_get] at h0b'
          cases hf2 : s.pre.find? (fun p => p.1 == b) with
          | some _ => rw [hf2] at h0b'; cases h0b'
          | none =>
            have := List.find?_eq_none.1 hf2 q hq
            rw [hqb, h1] at this
            simp at this
      · intro _ b x hb hgx
        have hgx' : (sets s.post (sets s.pre .lf)).get b = some x := hgx
        show t.get b = some x
        rw [sets_get] at hgx'
        cases hf : s.post.find? (fun p => p.1 == b) with
        | some p => rw [hf] at hgx'; rw [post_get b p hf]; exact hgx'
        | none =>
          rw [hf] at hgx'
          have := (w3 _ (pre_get b x hgx')).1
          have hb' : s.n ≤ b := hb
          have : b < s.n := this
          omega
/-- a call without arguments that returns a bool and reads no memory that was there: it may be told in every memory -/
theorem Snd.alone {P : Program} {f : Nat} {b : Bool} {h1 : H} {n0 : Nat} (hS : Snd P f [] (H.mk n0 .lf) (.bool b) h1) (hn0 : P.globals.size ≤ n0) (hn : n0 ≤ P.globals.size) (h : H) : Snd P f [] h (.bool b) h := by
  intro ι w cargs hr ha hg
  let ι0 : Inj := fun c => if c < n0 then ι c else none
  have hι : ∀ c, c < n0 → ι0 c = ι c := fun c hc => by simp [ι0, hc]
  have hsome : ∀ c L, ι0 c = some L → ι c = some L ∧ c < n0 := fun c L hc => by
    by_cases e : c < n0
    · rw [hι c e] at hc; exact ⟨hc, e⟩
    · simp [ι0, e] at hc
  have hnone : ∀ c, (H.mk n0 .lf).get c = none := fun c => T.get_lf c
  have hr0 : HR P ι0 (H.mk n0 .lf) w := by
    refine ⟨fun c hc => ?_, fun c L hc => hr.lt c L (hsome c L hc).1, fun c L x _ hx => ?_, fun c c' L L' x x' _ _ _ hx => ?_, fun c _ => hnone c⟩
    · have hc' : n0 ≤ c := hc
      simp only [ι0]
      rw [if_neg (by omega)]
    · rw [hnone] at hx; cases hx
    · rw [hnone] at hx; cases hx
  refine (hS ι0 w cargs hr0 ha fun g hgl => by rw [hι g (by omega)]; exact hg g hgl).mono ?_
  rintro ex w' ⟨cv, ι', rfl, hv, hr1, hx⟩
  have hkeep : ∀ c, c < w.heap.size → w'.heap[c]? = w.heap[c]? := fun c hc => hx.keep c hc fun d L x _ hg2 => by rw [hnone] at hg2; cases hg2
  refine ⟨cv, ι, rfl, by simp only [VR] at hv ⊢; exact hv, ⟨hr.dom, fun c L hc => Nat.lt_of_lt_of_le (hr.lt c L hc) hx.size, fun c L x hc hg2 => (hr.blk c L x hc hg2).same (Sub.refl _) (hkeep _ (hr.lt c L hc)), hr.apart, hr.wf⟩, ?_⟩
  exact ⟨Sub.refl _, Nat.le_refl _, fun c x _ h2 h3 => ⟨x, h2, h3⟩, hx.os, hx.tape, hx.output, hx.size, fun c hc _ => hkeep c hc, fun _ _ _ => rfl, fun c L h2 h3 => by rw [h2] at h3; cases h3⟩
/-- such a call, told in every memory -/
noncomputable def quiet (F : Sm → List V → H → A) (S : Sm) (args : List V) (h : H) : A := List.casesOn args (some (.bool true, h)) (fun _ _ => F S args h)
theorem quiet_snd {P : Program} {f : Nat} {F : Sm → List V → H → A} (hF : FSnd P f F) (hq : ∀ h, Snd P f [] h (.bool true) h) : FSnd P f (quiet F) := by
  intro S hS args h v h' hh
  cases args with
  | nil =>
    have : some (V.bool true, h) = some (v, h') := hh
    cases this; exact hq h
  | cons a r => exact hF S hS _ h v h' hh
end GoEv
namespace GoEv
open Go (Program World Value)
noncomputable def bdL (l : List V) (K : Nat → Nat → V → Int → A) : A := un l fun nm l2 => toS nm fun a c => un l2 fun ns l3 => un l3 fun rt l4 => nl l4 (toI rt fun z => toSl ns (fun _ _ _ _ _ _ => K a c ns z) (K a c ns z))
noncomputable def bkC (h : H) (env : V) (K : A) (n : Nat) : A := Nat.rec (motive := fun _ => A) K (fun i ih => ix env (nat_lit 3) (Int.ofNat i) fun b o => ldN h b o (nat_lit 3) fun l => bdL l fun _ _ _ _ => ih) n
noncomputable def bkL (h : H) (env : V) (sl sn : Nat) (n : Nat) : A := Nat.rec (motive := fun _ => A) none (fun i ih => ix env (nat_lit 3) (Int.ofNat i) fun b o => ldN h b o (nat_lit 3) fun l => bdL l fun a c ns z => cnd (sEq a c sl sn) (ret (.agg [ns, .i z]) h) ih) n
noncomputable def plainV (F : Sm → List V → H → A) (S : Sm) (args : List V) (h : H) : A := un args fun x r1 => un r1 fun env r2 => un r2 fun e r3 => nl r3 (toA e fun l => un l fun kd l1 => toI kd fun z => cnd (eqZ z (Int.ofNat (nat_lit 5))) (un l1 fun k1 l2 => un l2 fun k2 l3 => un l3 fun tx l4 => toS tx fun sl sn => lnc l4 (nat_lit 6) (toSl env (fun b o len c s k => Bool.casesOn (motive := fun _ => A) (Nat.ble len (nat_lit 1000)) none (bkC h env (bkL h env sl sn len) len)) none)) (F S args h))
/-- what lies at a place of the slice -/
def El (h : H) (b o i : Nat) (e : List V) : Prop := ∃ ro fz l, h.get b = some (.cells ro fz l) ∧ (l.drop (o + i * 3)).take 3 = e
theorem nl_some' {l : List V} {K : A} {r : V × H} : nl l K = some r ↔ l = [] ∧ K = some r := by cases l <;> simp [nl]
theorem bdL_some {l : List V} {K : Nat → Nat → V → Int → A} {r : V × H} (hh : bdL l K = some r) : ∃ a c ns z, l = [.str a c, ns, .i z] ∧ ((∃ b o n c s k, ns = .sl b o n c s k) ∨ ns = .nils) ∧ K a c ns z = some r := by
  unfold bdL at hh
  rw [un_some] at hh; obtain ⟨nm, l2, rfl, hh⟩ := hh
  rw [toS_some] at hh; obtain ⟨a, c, rfl, hh⟩ := hh
  rw [un_some] at hh; obtain ⟨ns, l3, rfl, hh⟩ := hh
  rw [un_some] at hh; obtain ⟨rt, l4, rfl, hh⟩ := hh
  rw [nl_some'] at hh; obtain ⟨rfl, hh⟩ := hh
  rw [toI_some] at hh; obtain ⟨z, rfl, hh⟩ := hh
  rw [toSl_some] at hh
  rcases hh with ⟨b, o, n, c', s, k, rfl, hh⟩ | ⟨rfl, hh⟩
  · exact ⟨a, c, _, z, rfl, .inl ⟨_, _, _, _, _, _, rfl⟩, hh⟩
  · exact ⟨a, c, _, z, rfl, .inr rfl, hh⟩
theorem at_some {h : H} {b o len c s : Nat} {k : Bool} {i : Nat} {K : List V → A} {r : V × H} (hh : (ix (.sl b o len c s k) 3 (Int.ofNat i) fun b o => ldN h b o 3 K) = some r) : i < len ∧ ∃ e, El h b o i e ∧ K e = some r := by
  rw [ix_some] at hh
  obtain ⟨b', o', l', c', s', ck', k', h1, h2, h3, hh⟩ := hh
  cases h1
  have : k' = i := by have h4 : (Int.ofNat i) = ((k' : Nat) : Int) := h2; exact (Int.ofNat.inj h4).symm
  subst this
  obtain ⟨_, ro, fz, l, hg, _, hk⟩ := ldN_some hh
  exact ⟨h3, _, ⟨ro, fz, l, hg, rfl⟩, hk⟩
theorem bkC_succ (h : H) (env : V) (K : A) (n : Nat) : bkC h env K (n + 1) = ix env 3 (Int.ofNat n) fun b o => ldN h b o 3 fun l => bdL l fun _ _ _ _ => bkC h env K n := rfl
theorem bkL_succ (h : H) (env : V) (sl sn n : Nat) : bkL h env sl sn (n + 1) = ix env 3 (Int.ofNat n) fun b o => ldN h b o 3 fun l => bdL l fun a c ns z => cnd (sEq a c sl sn) (ret (.agg [ns, .i z]) h) (bkL h env sl sn n) := rfl
theorem El.uniq {h : H} {b o i : Nat} {e e' : List V} (h1 : El h b o i e) (h2 : El h b o i e') : e = e' := by
  obtain ⟨ro, fz, l, g, rfl⟩ := h1
  obtain ⟨ro', fz', l', g', rfl⟩ := h2
  rw [g] at g'; cases g'; rfl
theorem bkC_some {h : H} {b o len c s : Nat} {k : Bool} {K : A} {r : V × H} : ∀ n, bkC h (.sl b o len c s k) K n = some r → K = some r ∧ ∀ i, i < n → ∃ a c' ns z, El h b o i [.str a c', ns, .i z] ∧ ((∃ b o n c s k, ns = V.sl b o n c s k) ∨ ns = .nils) := by
  intro n
  induction n with
  | zero => intro hh; exact ⟨hh, fun i hi => absurd hi (Nat.not_lt_zero _)⟩
  | succ n ih =>
    intro hh
    rw [bkC_succ] at hh
    obtain ⟨_, e, he, hh⟩ := at_some hh
    obtain ⟨a, c', ns, z, rfl, hs, hh⟩ := bdL_some hh
    obtain ⟨h1, h2⟩ := ih hh
    refine ⟨h1, fun i hi => ?_⟩
    by_cases e' : i = n
    · subst e'; exact ⟨a, c', ns, z, he, hs⟩
    · exact h2 i (by omega)
theorem bkL_some {h : H} {b o len c s sl sn : Nat} {k : Bool} {r : V × H} : ∀ n, bkL h (.sl b o len c s k) sl sn n = some r → ∃ m, m < n ∧ ∃ a c' ns z, El h b o m [.str a c', ns, .i z] ∧ sEq a c' sl sn = true ∧ r = (.agg [ns, .i z], h) ∧ ∀ j, m < j → j < n → ∃ a c' ns z, El h b o j [.str a c', ns, .i z] ∧ sEq a c' sl sn = false := by
  intro n
  induction n with
  | zero => intro hh; cases hh
  | succ n ih =>
    intro hh
    rw [bkL_succ] at hh
    obtain ⟨_, e, he, hh⟩ := at_some hh
    obtain ⟨a, c', ns, z, rfl, hs, hh⟩ := bdL_some hh
    rw [cnd_some] at hh
    rcases hh with ⟨h1, h2⟩ | ⟨h1, h2⟩
    · have : some (V.agg [ns, .i z], h) = some r := h2
      cases this
      exact ⟨n, Nat.lt_succ_self n, a, c', ns, z, he, h1, rfl, fun j h3 h4 => by omega⟩
    · obtain ⟨m, h3, a2, c2, ns2, z2, h4, h5, h6, h7⟩ := ih h2
      refine ⟨m, by omega, a2, c2, ns2, z2, h4, h5, h6, fun j h8 h9 => ?_⟩
      by_cases e' : j = n
      · subst e'; exact ⟨a, c', ns, z, he, h1⟩
      · exact h7 j h8 (by omega)
theorem cons_len {α : Type} {l : List α} {n : Nat} (h : l.length = n + 1) : ∃ a t, l = a :: t ∧ t.length = n := by
  cases l with
  | nil => cases h
  | cons a t => exact ⟨a, t, rfl, by simpa using h⟩
theorem El.cells {P : Program} {ι : Inj} {h : H} {w : World} (hr : HR P ι h w) {b o i a c' : Nat} {L : Loc} {ns : V} {z : Int} (hb : ι b = some L) (he : El h b o i [.str a c', ns, .i z]) (hs : (∃ b o n c s k, ns = V.sl b o n c s k) ∨ ns = .nils) :
    ∃ nm p q r, w.cell? ⟨L.cb, L.base + (o + i * 3), none⟩ = some (.string nm) ∧ w.cell? ⟨L.cb, L.base + (o + i * 3) + 1, none⟩ = some (.slice p q r) ∧ w.cell? ⟨L.cb, L.base + (o + i * 3) + 2, none⟩ = some (.int .i64 z) ∧ SR a c' nm ∧ VR ι ns (.slice p q r) := by
  obtain ⟨ro, fz, l, hg, hl⟩ := he
  have g : ∀ t v, ([V.str a c', ns, .i z] : List V)[t]? = some v → l[o + i * 3 + t]? = some v := by
    intro t v hv
    rw [← hl, List.getElem?_take] at hv
    split at hv
    · rw [List.getElem?_drop] at hv; exact hv
    · cases hv
  obtain ⟨v0, c0, r0, _⟩ := hr.load hb hg (g 0 _ rfl)
  obtain ⟨v1, c1, r1, _⟩ := hr.load hb hg (g 1 _ rfl)
  obtain ⟨v2, c2, r2, _⟩ := hr.load hb hg (g 2 _ rfl)
  simp only [VR] at r0 r2
  obtain ⟨nm, rfl, hs0⟩ := r0
  subst r2
  have : ∃ p q r, v1 = .slice p q r := by
    rcases hs with ⟨b', o', n', c2', s', k', rfl⟩ | rfl
    · simp only [VR] at r1; obtain ⟨L', c3, off, _, h5, _⟩ := r1; exact ⟨_, _, _, h5⟩
    · simp only [VR] at r1; exact ⟨_, _, _, r1⟩
  obtain ⟨p, q, r, rfl⟩ := this
  exact ⟨nm, p, q, r, c0, by rw [Nat.add_assoc]; exact c1, by rw [Nat.add_assoc]; exact c2, hs0, r1⟩
end GoEv
