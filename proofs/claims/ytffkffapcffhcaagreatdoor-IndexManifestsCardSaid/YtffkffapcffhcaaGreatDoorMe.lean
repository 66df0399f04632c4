/- Part 5 of a proof about the index of a registry: plain functions, and walks through the program that show that it computes them (W12 .. W43). Own work. -/
import Derived.Test.YtffkffapcffhcaaGreatDoorMd
set_option autoImplicit false
set_option linter.unusedVariables false
set_option linter.unusedSimpArgs false
namespace Go.Pm
open Go.Proofs

set_option maxRecDepth 10000 in
theorem c154 (s : Bytes) (hs : s.length ≤ 64) : Fn PR 154 [.d (.str s)] [] [.d (.list ((segsF s).map .str))] [] := by
 refine fn_of_awp Tryz.func154 rfl (N := 37) rfl ?_
 refine xsr ?_
 refine xlz (o_as rfl rfl rfl) ?_
 refine lendF ?_
 refine xsr ?_
 refine xlz (op_bsR rfl rfl rfl rfl rfl ty71 ty9 rfl rfl rfl (by decide)) ?_
 refine xlz (o_as rfl rfl rfl) ?_
 refine lendF ?_
 refine awp_seq ?_
 refine xsr ?_
 refine xlz (o_as rfl rfl rfl) ?_
 refine lendF ?_
 refine awp_block ?_
 refine awp_loop (fun x => ⟨37, [(3, .arr 500003 1 0 (x.2.map D.str).length), (4, .d (I (x.1 : Nat))), (0, .d (.str s))], [(500003, .arr 1 (x.2.map D.str))]⟩) (fun x => s.length - x.1) (fun x => x.1 ≤ s.length ∧ 0 < x.2.length ∧ x.2.length ≤ x.1 + 1 ∧ (∀ y ∈ x.2, y.length ≤ x.1) ∧ catS x.2 (s.drop x.1) = segsF s) (0, [[]]) ?_ ?_ ?_
 ·
  exact ent_k [(500003, 5)] rfl rfl (xkc <| xkc <| xkc <| .nil) (obs_cons rfl (o_eq rfl) obs_nil) rfl
 ·
  exact ⟨Nat.zero_le _, by decide, by decide, by simp, rfl⟩
 ·
  rintro ⟨i, out⟩ ⟨hi, h1, h2, h3, hI⟩
  dsimp only at hi h1 h2 h3 hI ⊢
  refine awp_seq ?_
  refine xsr ?_
  refine xlz (o_mv rfl rfl rfl) ?_
  refine xlz (o_mv rfl rfl rfl) ?_
  refine xlz (op_lenS rfl rfl rfl ty9) ?_
  refine xlz (op_binI rfl rfl rfl rfl rfl (.inl rfl) rfl) ?_
  refine lendF ?_
  refine awp_cond rfl rfl (fun hc1 => ?_) (fun hc1 => ?_)
  ·
   obtain ⟨x, hn⟩ := rng_lt (l := s) hc1
   have hlt := rng_le hn
   refine awp_skip ?_
   refine awp_seq ?_
   refine awp_block ?_
   refine xsr ?_
   refine xlz (o_mv rfl rfl rfl) ?_
   refine xlz (o_mv rfl rfl rfl) ?_
   refine xlz (o_idxS (i) rfl rfl rfl rfl ty9 (by first | rfl | omega | (simp; done) | (simp; omega)) hn) ?_
   refine xlz (op_binI rfl rfl rfl rfl rfl (.inl rfl) rfl) ?_
   refine lendF ?_
   refine awp_cond rfl rfl (fun hc2 => ?_) (fun hc2 => ?_)
   ·
    have hsl : x = 47 := by have := hc2; rw [show (47 : Int) = ((47 : UInt8).toNat : Int) from rfl, eqB] at this; simpa using this
    refine awp_region mixed ?_
    refine xlz (o_mv rfl rfl rfl) ?_
    refine xlz (o_bs rfl rfl rfl rfl rfl ty71 ty9 rfl rfl) ?_
    refine xlz (op_appendR rfl rfl (by decide) (.inr ⟨_, rfl, rfl, rfl⟩) rfl rfl rfl ty71 ty9 rfl (by decide) (by first | exact cl_map fun _ => rfl | exact cl_nil | exact cl_one rfl | exact cl_app (cl_map fun _ => rfl) (cl_one rfl) | exact cl_app (cl_map fun _ => rfl) (cl_map fun _ => rfl)) (by simp) (by simp; omega) (by simp; omega)) ?_
    refine xlz (o_as rfl rfl rfl) ?_
    refine lendF ?_
    refine awp_region mixed ?_
    refine xlz (o_mv rfl rfl rfl) ?_
    refine xlz (o_add rfl rfl rfl rfl (by first | omega | (simp; omega) | (simp at *; omega))) ?_
    refine xlz (o_as rfl rfl rfl) ?_
    refine lendF ?_
    refine ⟨(i + 1, out ++ [[]]), ?_, ?_, ?_⟩
    ·
     exact ⟨rng_le hn, by show 0 < (out ++ [[]]).length; simp, by show (out ++ [[]]).length ≤ i + 1 + 1; simp; omega, fun y hy => by (have hy : y ∈ out ++ [[]] := hy); rcases List.mem_append.1 hy with h | h; (exact Nat.le_succ_of_le (h3 y h)); (simp at h; subst h; simp), by show catS (out ++ [[]]) (s.drop (i + 1)) = _; rw [← hI, drop_cons hn, catS, if_pos hsl]⟩
    ·
     exact ent_k [(500003, 18)] rfl rfl (.cons rfl (k_arr rfl (by simp)) <| .cons rfl (k_i (by simp)) <| .cons rfl (k_eq rfl) <| .nil) (obs_cons rfl (ko_arr (by simp)) obs_nil) rfl
    ·
     show s.length - (i + 1) < s.length - i; have := rng_le hn; omega
   ·
    have hsl : ¬ x = 47 := by have := hc2; rw [show (47 : Int) = ((47 : UInt8).toNat : Int) from rfl, eqB] at this; simpa using this
    obtain ⟨z, hz⟩ := last_get h1
    have hzm := map_get (f := D.str) hz
    have hzl := h3 z (List.mem_of_getElem? hz)
    refine awp_region mixed ?_
    refine xlz (o_mv rfl rfl rfl) ?_
    refine xlz (o_mv rfl rfl rfl) ?_
    refine xlz (o_eqI (op_lenR rfl rfl rfl ty71) (m' := out.length) (by simp)) ?_
    refine xlz (o_sub rfl rfl rfl rfl (by first | omega | (simp; omega) | (simp at *; omega))) ?_
    refine xlz (o_mv rfl rfl rfl) ?_
    refine xlz (o_mv rfl rfl rfl) ?_
    refine xlz (o_eqI (op_lenR rfl rfl rfl ty71) (m' := out.length) (by simp)) ?_
    refine xlz (o_sub rfl rfl rfl rfl (by first | omega | (simp; omega) | (simp at *; omega))) ?_
    refine xlz (o_ixR' ((out.length - 1)) rfl rfl rfl rfl ty71 ty9 (by first | rfl | omega | (simp; done) | (simp; omega)) (by simp; omega) (Nat.zero_add _).symm) ?_
    refine xlz (op_loadE1 rfl rfl rfl rfl hzm ty9 rfl rfl) ?_
    refine xlz (o_mv rfl rfl rfl) ?_
    refine xlz (o_mv rfl rfl rfl) ?_
    refine xlz (o_idxS (i) rfl rfl rfl rfl ty9 (by first | rfl | omega | (simp; done) | (simp; omega)) hn) ?_
    refine xlz (o_bs rfl rfl rfl rfl rfl ty159 ty5 rfl rfl) ?_
    refine xlz (op_convB (l := [x]) rfl rfl rfl ty159 ty5 ty9) ?_
    refine xlz (op_binS rfl rfl rfl rfl rfl (fun h => by simp; omega) rfl) ?_
    refine xlz (o_ixR' ((out.length - 1)) rfl rfl rfl rfl ty71 ty9 (by first | rfl | omega | (simp; done) | (simp; omega)) (by simp; omega) (Nat.zero_add _).symm) ?_
    refine xlz (op_storeE rfl rfl rfl rfl hzm rfl rfl rfl ty9 rfl rfl rfl) ?_
    refine lend (fun _ => by kernel_rfl) ?_
    refine awp_region mixed ?_
    refine xlz (o_mv rfl rfl rfl) ?_
    refine xlz (o_add rfl rfl rfl rfl (by first | omega | (simp; omega) | (simp at *; omega))) ?_
    refine xlz (o_as rfl rfl rfl) ?_
    refine lendF ?_
    refine ⟨(i + 1, out.set (out.length - 1) (z ++ [x])), ?_, ?_, ?_⟩
    ·
     exact ⟨rng_le hn, by show 0 < (out.set (out.length - 1) (z ++ [x])).length; simpa using h1, by show (out.set (out.length - 1) (z ++ [x])).length ≤ i + 1 + 1; simp; omega, fun y hy => by (have hy : y ∈ out.set (out.length - 1) (z ++ [x]) := hy); rcases List.mem_or_eq_of_mem_set hy with h | h; (exact Nat.le_succ_of_le (h3 y h)); (subst h; have := h3 z (List.mem_of_getElem? hz); simp; omega), by show catS (out.set (out.length - 1) (z ++ [x])) (s.drop (i + 1)) = _; rw [← hI, drop_cons hn, catS, if_neg hsl, getD_get hz]⟩
    ·
     exact ent_k [] rfl rfl (.cons rfl (k_arr rfl (by simp)) <| .cons rfl (k_i (by simp)) <| .cons rfl (k_eq rfl) <| .nil) (obs_cons rfl (ko_arr (by simp [D.upd, List.map_set])) obs_nil) rfl
    ·
     show s.length - (i + 1) < s.length - i; have := rng_le hn; omega
  ·
   obtain rfl := rng_ge (l := s) hc1 hi
   refine awp_exit ?_
   refine xsr ?_
   refine xlz (o_mv rfl rfl rfl) ?_
   refine xlz (o_as rfl rfl rfl) ?_
   refine lendF ?_
   refine awp_ret ?_
   refine ⟨[_], ⟨rfl, trivial⟩, ?_⟩
   exact ent_fz1 (ds := out.map D.str) rfl (by simp) (by simp [← hI, catS, List.take_of_length_le])

set_option maxRecDepth 10000 in
theorem c156 (s : Bytes) (hs : s.length < 4611686018427387904) : Fn PR 156 [.d (.str s)] [] [.d (I (majF s))] [] := by
 refine fn_of_awp Tryz.func156 rfl (N := 48) rfl ?_
 refine xsr ?_
 refine xlz (o_as rfl rfl rfl) ?_
 refine lendF ?_
 refine awp_seq ?_
 refine xsr ?_
 refine xlz (o_mv rfl rfl rfl) ?_
 refine xlz (op_lenS rfl rfl rfl ty9) ?_
 refine xlz (op_binI rfl rfl rfl rfl rfl (.inl rfl) rfl) ?_
 refine xlz (o_mv rfl rfl rfl) ?_
 refine lsplit rfl (fun hg1 => ?_) (fun hg1 => ?_)
 ·
  refine lg (o_mv rfl rfl rfl) rfl hg1 rfl rfl ?_
  refine lg (op_lenS rfl rfl rfl ty9) rfl hg1 rfl rfl ?_
  refine lg (op_binI rfl rfl rfl rfl rfl (.inl rfl) rfl) rfl hg1 rfl rfl ?_
  refine xlz (o_pF rfl rfl (g01 hg1) rfl rfl) ?_
  refine xlz (o_mv rfl rfl rfl) ?_
  refine lsplit rfl (fun hg2 => ?_) (fun hg2 => ?_)
  ·
   refine lg (o_mv rfl rfl rfl) rfl hg2 rfl rfl ?_
   obtain ⟨c0, hc0⟩ : ∃ c, s[0]? = some c := ⟨_, List.getElem?_eq_getElem (by simp at *; omega)⟩
   have hdc0 : s.getD 0 0 = c0 := getD_get hc0
   refine lg (o_idxS (0) rfl rfl rfl rfl ty9 (by first | rfl | omega | (simp; done) | (simp; omega)) hc0) rfl hg2 rfl rfl ?_
   refine lg (op_binI rfl rfl rfl rfl rfl (.inl rfl) rfl) rfl hg2 rfl rfl ?_
   refine xlz (o_pF rfl rfl (g01 hg2) rfl rfl) ?_
   refine xlz (o_mv rfl rfl rfl) ?_
   refine lsplit rfl (fun hg3 => ?_) (fun hg3 => ?_)
   ·
    have hv0 : c0 = 118 := by have := (g01 hg3); rw [show (118 : Int) = ((118 : UInt8).toNat : Int) from rfl, neB] at this; simpa using this
    refine lg (o_mv rfl rfl rfl) rfl hg3 rfl rfl ?_
    obtain ⟨c1, hc1⟩ : ∃ c, s[1]? = some c := ⟨_, List.getElem?_eq_getElem (by simp at *; omega)⟩
    have hdc1 : s.getD 1 0 = c1 := getD_get hc1
    refine lg (o_idxS (1) rfl rfl rfl rfl ty9 (by first | rfl | omega | (simp; done) | (simp; omega)) hc1) rfl hg3 rfl rfl ?_
    refine lg (op_binI rfl rfl rfl rfl rfl (.inl rfl) rfl) rfl hg3 rfl rfl ?_
    refine lg (o_mv rfl rfl rfl) rfl hg3 rfl rfl ?_
    refine lsplit rfl (fun hg4 => ?_) (fun hg4 => ?_)
    ·
     have hv1 : c1 = 48 := by have := (g11 hg4); rw [show (48 : Int) = ((48 : UInt8).toNat : Int) from rfl, eqB] at this; simpa using this
     refine lg (o_mv rfl rfl rfl) rfl hg4 rfl rfl ?_
     refine lg (op_lenS rfl rfl rfl ty9) rfl hg4 rfl rfl ?_
     refine lg (op_binI rfl rfl rfl rfl rfl (.inl rfl) rfl) rfl hg4 rfl rfl ?_
     refine lg (o_pT rfl rfl (g11 hg4) rfl rfl) rfl hg3 rfl rfl ?_
     refine xlz (o_pF rfl rfl (g01 hg3) rfl rfl) ?_
     refine lendF ?_
     refine awp_cond rfl rfl (fun hc5 => ?_) (fun hc5 => ?_)
     ·
      refine xsr ?_
      refine xlz (o_as rfl rfl rfl) ?_
      refine lendF ?_
      refine awp_ret ?_
      refine ⟨[_], ⟨rfl, trivial⟩, ?_⟩
      first | exact ent_i rfl (by rw [hF, ← hI, drop_cons hn, digs, if_neg hdx]; rfl) | exact ent_i rfl (by rw [hF, ← hI, List.drop_length]; rfl) | exact ent_i rfl (by unfold majF; rw [if_pos (by simp at *; omega)]) | exact ent_i rfl (by unfold majF; rw [if_neg (by simp at *; omega), if_pos (by rw [hdc0]; exact hv0)]) | exact ent_i rfl (by unfold majF; rw [if_neg (by simp at *; omega), if_neg (by rw [hdc0]; simp [hv0]), if_pos (by rw [hdc1]; simp at *; exact ⟨hv1, by omega⟩)])
     ·
      refine awp_skip ?_
      refine xsr ?_
      have hl1 : 2 ≤ s.length ∧ s.length ≤ 4 := by simp at *; omega
      have hF : majF s = (digs (s.drop 1) 0).getD (-1) := by unfold majF; rw [if_neg (by omega), if_neg (by rw [hdc0]; simp [hv0]), if_neg (by rw [hdc1]; simp at *; simp [hv1]; try omega)]
      refine xlz (o_as rfl rfl rfl) ?_
      refine lendF ?_
      refine awp_seq ?_
      refine xsr ?_
      refine xlz (o_as rfl rfl rfl) ?_
      refine lendF ?_
      refine awp_block ?_
      refine awp_loop (fun x => ⟨48, [(3, .d (I x.2)), (4, .d (I (x.1 : Nat))), (0, .d (.str s))], []⟩) (fun x => s.length - x.1) (fun x => 1 ≤ x.1 ∧ x.1 ≤ s.length ∧ 0 ≤ x.2 ∧ x.2 < (10 : Int) ^ x.1 ∧ digs (s.drop x.1) x.2 = digs (s.drop 1) 0) (1, 0) ?_ ?_ ?_
      ·
       exact ent_k [] rfl rfl (xkc <| xkc <| xkc <| .nil) obs_nil rfl
      ·
       exact ⟨Nat.le_refl _, by show 1 ≤ s.length; omega, Int.le_refl _, by decide, rfl⟩
      ·
       rintro ⟨i, n⟩ ⟨h1, hi, h2, h3, hI⟩
       dsimp only at h1 hi h2 h3 hI ⊢
       refine awp_seq ?_
       refine xsr ?_
       refine xlz (o_mv rfl rfl rfl) ?_
       refine xlz (o_mv rfl rfl rfl) ?_
       refine xlz (op_lenS rfl rfl rfl ty9) ?_
       refine xlz (op_binI rfl rfl rfl rfl rfl (.inl rfl) rfl) ?_
       refine lendF ?_
       refine awp_cond rfl rfl (fun hc6 => ?_) (fun hc6 => ?_)
       ·
        obtain ⟨x, hn⟩ := rng_lt (l := s) hc6
        have hlt := rng_le hn
        have hp10 : (10 : Int) ^ i ≤ 1000 := by (have : i = 1 ∨ i = 2 ∨ i = 3 := by omega); rcases this with rfl | rfl | rfl <;> decide
        refine awp_skip ?_
        refine awp_seq ?_
        refine awp_block ?_
        refine awp_seq ?_
        refine xsr ?_
        refine xlz (o_mv rfl rfl rfl) ?_
        refine xlz (o_mv rfl rfl rfl) ?_
        refine xlz (o_idxS (i) rfl rfl rfl rfl ty9 (by first | rfl | omega | (simp; done) | (simp; omega)) hn) ?_
        refine xlz (o_call (c179 x) rfl rfl rfl ca179 rfl rfl) ?_
        refine xlz (op_not rfl rfl rfl) ?_
        refine lendF ?_
        refine awp_cond rfl rfl (fun hc7 => ?_) (fun hc7 => ?_)
        ·
         have hdx : ¬ digitB x = true := by simp_all
         refine xsr ?_
         refine xlz (o_as rfl rfl rfl) ?_
         refine lendF ?_
         refine awp_ret ?_
         refine ⟨[_], ⟨rfl, trivial⟩, ?_⟩
         first | exact ent_i rfl (by rw [hF, ← hI, drop_cons hn, digs, if_neg hdx]; rfl) | exact ent_i rfl (by rw [hF, ← hI, List.drop_length]; rfl) | exact ent_i rfl (by unfold majF; rw [if_pos (by simp at *; omega)]) | exact ent_i rfl (by unfold majF; rw [if_neg (by simp at *; omega), if_pos (by rw [hdc0]; exact hv0)]) | exact ent_i rfl (by unfold majF; rw [if_neg (by simp at *; omega), if_neg (by rw [hdc0]; simp [hv0]), if_pos (by rw [hdc1]; simp at *; exact ⟨hv1, by omega⟩)])
        ·
         have hdx : digitB x = true := by simp_all
         have hdr : 48 ≤ (x.toNat : Int) ∧ (x.toNat : Int) ≤ 57 := by simpa [digitB] using hdx
         refine awp_skip ?_
         refine awp_region mixed ?_
         refine xlz (o_mv rfl rfl rfl) ?_
         refine xlz (o_mul rfl rfl rfl rfl (by first | omega | (simp; omega) | (simp at *; omega))) ?_
         refine xlz (o_mv rfl rfl rfl) ?_
         refine xlz (o_mv rfl rfl rfl) ?_
         refine xlz (o_idxS (i) rfl rfl rfl rfl ty9 (by first | rfl | omega | (simp; done) | (simp; omega)) hn) ?_
         refine xlz (o_eqI (op_binI rfl rfl rfl rfl rfl (.inl rfl) rfl) (wrapU8 (by omega) (by omega))) ?_
         refine xlz (o_eqI (op_convI rfl rfl rfl ty5 ty3) (wrap64 (by omega) (by omega))) ?_
         refine xlz (o_add rfl rfl rfl rfl (by first | omega | (simp; omega) | (simp at *; omega))) ?_
         refine xlz (o_as rfl rfl rfl) ?_
         refine lendF ?_
         refine awp_region mixed ?_
         refine xlz (o_mv rfl rfl rfl) ?_
         refine xlz (o_add rfl rfl rfl rfl (by first | omega | (simp; omega) | (simp at *; omega))) ?_
         refine xlz (o_as rfl rfl rfl) ?_
         refine lendF ?_
         refine ⟨(i + 1, 10 * n + ((x.toNat : Int) - 48)), ?_, ?_, ?_⟩
         ·
          exact ⟨by show 1 ≤ i + 1; omega, rng_le hn, by show 0 ≤ 10 * n + ((x.toNat : Int) - 48); omega, by show 10 * n + ((x.toNat : Int) - 48) < (10 : Int) ^ (i + 1); rw [Int.pow_succ]; omega, by show digs (s.drop (i + 1)) _ = _; rw [← hI, drop_cons hn, digs, if_pos hdx]⟩
         ·
          exact ent_k [] rfl rfl (xkc <| xkc <| xkc <| .nil) obs_nil rfl
         ·
          show s.length - (i + 1) < s.length - i; omega
       ·
        obtain rfl := rng_ge (l := s) hc6 hi
        refine awp_exit ?_
        refine xsr ?_
        refine xlz (o_mv rfl rfl rfl) ?_
        refine xlz (o_as rfl rfl rfl) ?_
        refine lendF ?_
        refine awp_ret ?_
        refine ⟨[_], ⟨rfl, trivial⟩, ?_⟩
        first | exact ent_i rfl (by rw [hF, ← hI, drop_cons hn, digs, if_neg hdx]; rfl) | exact ent_i rfl (by rw [hF, ← hI, List.drop_length]; rfl) | exact ent_i rfl (by unfold majF; rw [if_pos (by simp at *; omega)]) | exact ent_i rfl (by unfold majF; rw [if_neg (by simp at *; omega), if_pos (by rw [hdc0]; exact hv0)]) | exact ent_i rfl (by unfold majF; rw [if_neg (by simp at *; omega), if_neg (by rw [hdc0]; simp [hv0]), if_pos (by rw [hdc1]; simp at *; exact ⟨hv1, by omega⟩)])
    ·
     have hv1 : ¬ c1 = 48 := by have := (g10 hg4); rw [show (48 : Int) = ((48 : UInt8).toNat : Int) from rfl, eqB] at this; simpa using this
     refine lskip rfl hg4 rfl ?_
     refine lskip rfl hg4 rfl ?_
     refine lskip rfl hg4 rfl ?_
     refine lg (o_pF rfl rfl (g10 hg4) rfl rfl) rfl hg3 rfl rfl ?_
     refine xlz (o_pF rfl rfl (g01 hg3) rfl rfl) ?_
     refine lendF ?_
     refine awp_condF rfl rfl rfl ?_
     refine awp_skip ?_
     refine xsr ?_
     have hl1 : 2 ≤ s.length ∧ s.length ≤ 4 := by simp at *; omega
     have hF : majF s = (digs (s.drop 1) 0).getD (-1) := by unfold majF; rw [if_neg (by omega), if_neg (by rw [hdc0]; simp [hv0]), if_neg (by rw [hdc1]; simp at *; simp [hv1]; try omega)]
     refine xlz (o_as rfl rfl rfl) ?_
     refine lendF ?_
     refine awp_seq ?_
     refine xsr ?_
     refine xlz (o_as rfl rfl rfl) ?_
     refine lendF ?_
     refine awp_block ?_
     refine awp_loop (fun x => ⟨48, [(3, .d (I x.2)), (4, .d (I (x.1 : Nat))), (0, .d (.str s))], []⟩) (fun x => s.length - x.1) (fun x => 1 ≤ x.1 ∧ x.1 ≤ s.length ∧ 0 ≤ x.2 ∧ x.2 < (10 : Int) ^ x.1 ∧ digs (s.drop x.1) x.2 = digs (s.drop 1) 0) (1, 0) ?_ ?_ ?_
     ·
      exact ent_k [] rfl rfl (xkc <| xkc <| xkc <| .nil) obs_nil rfl
     ·
      exact ⟨Nat.le_refl _, by show 1 ≤ s.length; omega, Int.le_refl _, by decide, rfl⟩
     ·
      rintro ⟨i, n⟩ ⟨h1, hi, h2, h3, hI⟩
      dsimp only at h1 hi h2 h3 hI ⊢
      refine awp_seq ?_
      refine xsr ?_
      refine xlz (o_mv rfl rfl rfl) ?_
      refine xlz (o_mv rfl rfl rfl) ?_
      refine xlz (op_lenS rfl rfl rfl ty9) ?_
      refine xlz (op_binI rfl rfl rfl rfl rfl (.inl rfl) rfl) ?_
      refine lendF ?_
      refine awp_cond rfl rfl (fun hc9 => ?_) (fun hc9 => ?_)
      ·
       obtain ⟨x, hn⟩ := rng_lt (l := s) hc9
       have hlt := rng_le hn
       have hp10 : (10 : Int) ^ i ≤ 1000 := by (have : i = 1 ∨ i = 2 ∨ i = 3 := by omega); rcases this with rfl | rfl | rfl <;> decide
       refine awp_skip ?_
       refine awp_seq ?_
       refine awp_block ?_
       refine awp_seq ?_
       refine xsr ?_
       refine xlz (o_mv rfl rfl rfl) ?_
       refine xlz (o_mv rfl rfl rfl) ?_
       refine xlz (o_idxS (i) rfl rfl rfl rfl ty9 (by first | rfl | omega | (simp; done) | (simp; omega)) hn) ?_
       refine xlz (o_call (c179 x) rfl rfl rfl ca179 rfl rfl) ?_
       refine xlz (op_not rfl rfl rfl) ?_
       refine lendF ?_
       refine awp_cond rfl rfl (fun hc10 => ?_) (fun hc10 => ?_)
       ·
        have hdx : ¬ digitB x = true := by simp_all
        refine xsr ?_
        refine xlz (o_as rfl rfl rfl) ?_
        refine lendF ?_
        refine awp_ret ?_
        refine ⟨[_], ⟨rfl, trivial⟩, ?_⟩
        first | exact ent_i rfl (by rw [hF, ← hI, drop_cons hn, digs, if_neg hdx]; rfl) | exact ent_i rfl (by rw [hF, ← hI, List.drop_length]; rfl) | exact ent_i rfl (by unfold majF; rw [if_pos (by simp at *; omega)]) | exact ent_i rfl (by unfold majF; rw [if_neg (by simp at *; omega), if_pos (by rw [hdc0]; exact hv0)]) | exact ent_i rfl (by unfold majF; rw [if_neg (by simp at *; omega), if_neg (by rw [hdc0]; simp [hv0]), if_pos (by rw [hdc1]; simp at *; exact ⟨hv1, by omega⟩)])
       ·
        have hdx : digitB x = true := by simp_all
        have hdr : 48 ≤ (x.toNat : Int) ∧ (x.toNat : Int) ≤ 57 := by simpa [digitB] using hdx
        refine awp_skip ?_
        refine awp_region mixed ?_
        refine xlz (o_mv rfl rfl rfl) ?_
        refine xlz (o_mul rfl rfl rfl rfl (by first | omega | (simp; omega) | (simp at *; omega))) ?_
        refine xlz (o_mv rfl rfl rfl) ?_
        refine xlz (o_mv rfl rfl rfl) ?_
        refine xlz (o_idxS (i) rfl rfl rfl rfl ty9 (by first | rfl | omega | (simp; done) | (simp; omega)) hn) ?_
        refine xlz (o_eqI (op_binI rfl rfl rfl rfl rfl (.inl rfl) rfl) (wrapU8 (by omega) (by omega))) ?_
        refine xlz (o_eqI (op_convI rfl rfl rfl ty5 ty3) (wrap64 (by omega) (by omega))) ?_
        refine xlz (o_add rfl rfl rfl rfl (by first | omega | (simp; omega) | (simp at *; omega))) ?_
        refine xlz (o_as rfl rfl rfl) ?_
        refine lendF ?_
        refine awp_region mixed ?_
        refine xlz (o_mv rfl rfl rfl) ?_
        refine xlz (o_add rfl rfl rfl rfl (by first | omega | (simp; omega) | (simp at *; omega))) ?_
        refine xlz (o_as rfl rfl rfl) ?_
        refine lendF ?_
        refine ⟨(i + 1, 10 * n + ((x.toNat : Int) - 48)), ?_, ?_, ?_⟩
        ·
         exact ⟨by show 1 ≤ i + 1; omega, rng_le hn, by show 0 ≤ 10 * n + ((x.toNat : Int) - 48); omega, by show 10 * n + ((x.toNat : Int) - 48) < (10 : Int) ^ (i + 1); rw [Int.pow_succ]; omega, by show digs (s.drop (i + 1)) _ = _; rw [← hI, drop_cons hn, digs, if_pos hdx]⟩
        ·
         exact ent_k [] rfl rfl (xkc <| xkc <| xkc <| .nil) obs_nil rfl
        ·
         show s.length - (i + 1) < s.length - i; omega
      ·
       obtain rfl := rng_ge (l := s) hc9 hi
       refine awp_exit ?_
       refine xsr ?_
       refine xlz (o_mv rfl rfl rfl) ?_
       refine xlz (o_as rfl rfl rfl) ?_
       refine lendF ?_
       refine awp_ret ?_
       refine ⟨[_], ⟨rfl, trivial⟩, ?_⟩
       first | exact ent_i rfl (by rw [hF, ← hI, drop_cons hn, digs, if_neg hdx]; rfl) | exact ent_i rfl (by rw [hF, ← hI, List.drop_length]; rfl) | exact ent_i rfl (by unfold majF; rw [if_pos (by simp at *; omega)]) | exact ent_i rfl (by unfold majF; rw [if_neg (by simp at *; omega), if_pos (by rw [hdc0]; exact hv0)]) | exact ent_i rfl (by unfold majF; rw [if_neg (by simp at *; omega), if_neg (by rw [hdc0]; simp [hv0]), if_pos (by rw [hdc1]; simp at *; exact ⟨hv1, by omega⟩)])
   ·
    have hv0 : ¬ c0 = 118 := by have := (g00 hg3); rw [show (118 : Int) = ((118 : UInt8).toNat : Int) from rfl, neB] at this; simpa using this
    refine lskip rfl hg3 rfl ?_
    refine lskip rfl hg3 rfl ?_
    refine lskip rfl hg3 rfl ?_
    refine lskip rfl hg3 rfl ?_
    refine lskip rfl rfl rfl ?_
    refine lskip rfl rfl rfl ?_
    refine lskip rfl rfl rfl ?_
    refine lskip rfl hg3 rfl ?_
    refine xlz (o_pT rfl rfl (g00 hg3) rfl rfl) ?_
    refine lendF ?_
    refine awp_condT rfl rfl rfl ?_
    refine xsr ?_
    refine xlz (o_as rfl rfl rfl) ?_
    refine lendF ?_
    refine awp_ret ?_
    refine ⟨[_], ⟨rfl, trivial⟩, ?_⟩
    first | exact ent_i rfl (by rw [hF, ← hI, drop_cons hn, digs, if_neg hdx]; rfl) | exact ent_i rfl (by rw [hF, ← hI, List.drop_length]; rfl) | exact ent_i rfl (by unfold majF; rw [if_pos (by simp at *; omega)]) | exact ent_i rfl (by unfold majF; rw [if_neg (by simp at *; omega), if_pos (by rw [hdc0]; exact hv0)]) | exact ent_i rfl (by unfold majF; rw [if_neg (by simp at *; omega), if_neg (by rw [hdc0]; simp [hv0]), if_pos (by rw [hdc1]; simp at *; exact ⟨hv1, by omega⟩)])
  ·
   refine lskip rfl hg2 rfl ?_
   refine lskip rfl hg2 rfl ?_
   refine lskip rfl hg2 rfl ?_
   refine xlz (o_pT rfl rfl (g00 hg2) rfl rfl) ?_
   refine xlz (o_mv rfl rfl rfl) ?_
   refine lskip rfl rfl rfl ?_
   refine lskip rfl rfl rfl ?_
   refine lskip rfl rfl rfl ?_
   refine lskip rfl rfl rfl ?_
   refine lskip rfl rfl rfl ?_
   refine lskip rfl rfl rfl ?_
   refine lskip rfl rfl rfl ?_
   refine lskip rfl rfl rfl ?_
   refine xlz (o_pT rfl rfl rfl rfl rfl) ?_
   refine lendF ?_
   refine awp_condT rfl rfl rfl ?_
   refine xsr ?_
   refine xlz (o_as rfl rfl rfl) ?_
   refine lendF ?_
   refine awp_ret ?_
   refine ⟨[_], ⟨rfl, trivial⟩, ?_⟩
   first | exact ent_i rfl (by rw [hF, ← hI, drop_cons hn, digs, if_neg hdx]; rfl) | exact ent_i rfl (by rw [hF, ← hI, List.drop_length]; rfl) | exact ent_i rfl (by unfold majF; rw [if_pos (by simp at *; omega)]) | exact ent_i rfl (by unfold majF; rw [if_neg (by simp at *; omega), if_pos (by rw [hdc0]; exact hv0)]) | exact ent_i rfl (by unfold majF; rw [if_neg (by simp at *; omega), if_neg (by rw [hdc0]; simp [hv0]), if_pos (by rw [hdc1]; simp at *; exact ⟨hv1, by omega⟩)])
 ·
  refine lskip rfl hg1 rfl ?_
  refine lskip rfl hg1 rfl ?_
  refine lskip rfl hg1 rfl ?_
  refine xlz (o_pT rfl rfl (g00 hg1) rfl rfl) ?_
  refine xlz (o_mv rfl rfl rfl) ?_
  refine lskip rfl rfl rfl ?_
  refine lskip rfl rfl rfl ?_
  refine lskip rfl rfl rfl ?_
  refine xlz (o_pT rfl rfl rfl rfl rfl) ?_
  refine xlz (o_mv rfl rfl rfl) ?_
  refine lskip rfl rfl rfl ?_
  refine lskip rfl rfl rfl ?_
  refine lskip rfl rfl rfl ?_
  refine lskip rfl rfl rfl ?_
  refine lskip rfl rfl rfl ?_
  refine lskip rfl rfl rfl ?_
  refine lskip rfl rfl rfl ?_
  refine lskip rfl rfl rfl ?_
  refine xlz (o_pT rfl rfl rfl rfl rfl) ?_
  refine lendF ?_
  refine awp_condT rfl rfl rfl ?_
  refine xsr ?_
  refine xlz (o_as rfl rfl rfl) ?_
  refine lendF ?_
  refine awp_ret ?_
  refine ⟨[_], ⟨rfl, trivial⟩, ?_⟩
  first | exact ent_i rfl (by rw [hF, ← hI, drop_cons hn, digs, if_neg hdx]; rfl) | exact ent_i rfl (by rw [hF, ← hI, List.drop_length]; rfl) | exact ent_i rfl (by unfold majF; rw [if_pos (by simp at *; omega)]) | exact ent_i rfl (by unfold majF; rw [if_neg (by simp at *; omega), if_pos (by rw [hdc0]; exact hv0)]) | exact ent_i rfl (by unfold majF; rw [if_neg (by simp at *; omega), if_neg (by rw [hdc0]; simp [hv0]), if_pos (by rw [hdc1]; simp at *; exact ⟨hv1, by omega⟩)])

set_option maxRecDepth 10000 in
theorem c133 (p : Bytes) (hs : p.length < 4611686018427387904) : Fn PR 133 [.d (.str p)] [] [.d (I (majorF p).1), .d (I (majorF p).2)] [] := by
 refine fn_of_awp Tryz.func133 rfl (N := 39) rfl ?_
 refine xsr ?_
 refine xlz (o_as rfl rfl rfl) ?_
 refine xlz (o_as rfl rfl rfl) ?_
 refine lendF ?_
 refine awp_seq ?_
 refine xsr ?_
 refine xlz (o_mv rfl rfl rfl) ?_
 refine xlz (op_lenS rfl rfl rfl ty9) ?_
 refine xlz (op_binI rfl rfl rfl rfl rfl (.inl rfl) rfl) ?_
 refine lendF ?_
 refine awp_cond rfl rfl (fun hc1 => ?_) (fun hc1 => ?_)
 ·
  have h64 : p.length > 64 := by simp at *; omega
  refine xsr ?_
  refine xlz (o_as rfl rfl rfl) ?_
  refine xlz (o_as rfl rfl rfl) ?_
  refine lendF ?_
  refine awp_ret ?_
  refine ⟨[_, _], ⟨rfl, rfl, trivial⟩, ?_⟩
  rw [show majorF p = (0, 4) from by unfold majorF; rw [if_pos h64]]
  exact ent_d2 rfl rfl rfl rfl
 ·
  have h64 : p.length ≤ 64 := by simp at *; omega
  have hne : ¬ p.length > 64 := by omega
  have hsl := segsF_len p
  have hsp := segsF_pos p
  have hsm := segsF_mem p
  obtain ⟨z, hz⟩ := last_get hsp
  have hgz := getD_get (d := []) hz
  refine awp_skip ?_
  refine xsr ?_
  refine xlz (o_mv rfl rfl rfl) ?_
  refine xlz (o_call (c154 p h64) rfl rfl rfl ca154 rfl rfl) ?_
  refine xlz (o_as rfl rfl rfl) ?_
  refine lendF ?_
  refine awp_seq ?_
  refine xsr ?_
  refine xlz (o_as rfl rfl rfl) ?_
  refine lendF ?_
  refine awp_block ?_
  refine awp_loop (fun i => ⟨39, [(5, .d (I (i : Nat))), (4, .d (.list ((segsF p).map .str)))], []⟩) (fun i => (segsF p).length - i) (fun i => i ≤ (segsF p).length ∧ ((segsF p).drop i).all segOK = (segsF p).all segOK) 0 ?_ ?_ ?_
  ·
   exact ent_k [] rfl rfl (xkc <| xkc <| .nil) obs_nil rfl
  ·
   exact ⟨Nat.zero_le _, rfl⟩
  ·
   rintro i ⟨hi, hI⟩
   refine awp_seq ?_
   refine xsr ?_
   refine xlz (o_mv rfl rfl rfl) ?_
   refine xlz (o_mv rfl rfl rfl) ?_
   refine xlz (o_lenE (n := (segsF p).length) rfl rfl rfl ty71 (by simp)) ?_
   refine xlz (op_binI rfl rfl rfl rfl rfl (.inl rfl) rfl) ?_
   refine lendF ?_
   refine awp_cond rfl rfl (fun hc2 => ?_) (fun hc2 => ?_)
   ·
    obtain ⟨x, hn⟩ := rng_lt (l := (segsF p)) (by simpa using hc2)
    have hlt := rng_le hn
    have hmem := List.mem_of_getElem? hn
    refine awp_skip ?_
    refine awp_seq ?_
    refine awp_block ?_
    refine xsr ?_
    refine xlz (o_mv rfl rfl rfl) ?_
    refine xlz (o_mv rfl rfl rfl) ?_
    refine xlz (o_ixN (i) rfl rfl rfl rfl ty71 (by first | rfl | omega | (simp; done) | (simp; omega)) hn ty9) ?_
    refine xlz (op_loadC1 rfl rfl rfl ty9 rfl rfl) ?_
    refine xlz (o_call (c155 x (by have := hsm x hmem; omega)) rfl rfl rfl ca155 rfl rfl) ?_
    refine xlz (op_not rfl rfl rfl) ?_
    refine lendF ?_
    refine awp_cond rfl rfl (fun hc3 => ?_) (fun hc3 => ?_)
    ·
     refine xsr ?_
     refine xlz (o_as rfl rfl rfl) ?_
     refine xlz (o_as rfl rfl rfl) ?_
     refine lendF ?_
     refine awp_ret ?_
     refine ⟨[_, _], ⟨rfl, rfl, trivial⟩, ?_⟩
     rw [show majorF p = (0, 4) from by unfold majorF; rw [if_neg hne, if_neg (by rw [← hI, drop_cons hn]; simp_all)]]
     exact ent_d2 rfl rfl rfl rfl
    ·
     refine awp_skip ?_
     refine awp_region mixed ?_
     refine xlz (o_mv rfl rfl rfl) ?_
     refine xlz (o_add rfl rfl rfl rfl (by first | omega | (simp; omega) | (simp at *; omega))) ?_
     refine xlz (o_as rfl rfl rfl) ?_
     refine lendF ?_
     refine ⟨i + 1, ?_, ?_, ?_⟩
     ·
      exact ⟨rng_le hn, by rw [← hI, drop_cons hn]; simp_all⟩
     ·
      exact ent_k [] rfl rfl (xkc <| xkc <| .nil) obs_nil rfl
     ·
      omega
   ·
    obtain rfl := rng_ge (l := (segsF p)) (by simpa using hc2) hi
    refine awp_exit ?_
    refine xsr ?_
    refine xlz (o_mv rfl rfl rfl) ?_
    refine xlz (o_mv rfl rfl rfl) ?_
    refine xlz (o_lenE (n := (segsF p).length) rfl rfl rfl ty71 (by simp)) ?_
    refine xlz (o_sub rfl rfl rfl rfl (by first | omega | (simp; omega) | (simp at *; omega))) ?_
    refine xlz (o_ixN (((segsF p).length - 1)) rfl rfl rfl rfl ty71 (by first | rfl | omega | (simp; done) | (simp; omega)) hz ty9) ?_
    refine xlz (op_loadC1 rfl rfl rfl ty9 rfl rfl) ?_
    refine xlz (o_call (c156 z (by have := hsm z (List.mem_of_getElem? hz); omega)) rfl rfl rfl ca156 rfl rfl) ?_
    refine xlz (o_as rfl rfl rfl) ?_
    refine lendF ?_
    refine awp_seq ?_
    refine xsr ?_
    refine xlz (o_mv rfl rfl rfl) ?_
    refine xlz (o_lenE (n := (segsF p).length) rfl rfl rfl ty71 (by simp)) ?_
    refine xlz (op_binI rfl rfl rfl rfl rfl (.inl rfl) rfl) ?_
    refine xlz (o_mv rfl rfl rfl) ?_
    refine lsplit rfl (fun hg4 => ?_) (fun hg4 => ?_)
    ·
     refine lg (o_mv rfl rfl rfl) rfl hg4 rfl rfl ?_
     refine lg (op_binI rfl rfl rfl rfl rfl (.inl rfl) rfl) rfl hg4 rfl rfl ?_
     refine xlz (o_pF rfl rfl (g01 hg4) rfl rfl) ?_
     refine lendF ?_
     refine awp_cond rfl rfl (fun hc5 => ?_) (fun hc5 => ?_)
     ·
      refine xsr ?_
      refine xlz (o_as rfl rfl rfl) ?_
      refine xlz (o_as rfl rfl rfl) ?_
      refine lendF ?_
      refine awp_ret ?_
      refine ⟨[_, _], ⟨rfl, rfl, trivial⟩, ?_⟩
      have hall : (segsF p).all segOK = true := by rw [← hI, List.drop_length]; rfl
      first | (rw [show majorF p = (0, 4) from by unfold majorF; rw [if_neg hne, if_pos hall, if_pos (by rw [hgz]; simp at *; omega)]]; exact ent_d2 rfl rfl rfl rfl) | (rw [show majorF p = (majF z, 0) from by unfold majorF; rw [if_neg hne, if_pos hall, if_neg (by rw [hgz]; simp at *; omega), hgz]]; exact ent_d2 rfl rfl rfl rfl)
     ·
      refine awp_skip ?_
      refine xsr ?_
      refine xlz (o_mv rfl rfl rfl) ?_
      refine xlz (o_as rfl rfl rfl) ?_
      refine xlz (o_as rfl rfl rfl) ?_
      refine lendF ?_
      refine awp_ret ?_
      refine ⟨[_, _], ⟨rfl, rfl, trivial⟩, ?_⟩
      have hall : (segsF p).all segOK = true := by rw [← hI, List.drop_length]; rfl
      first | (rw [show majorF p = (0, 4) from by unfold majorF; rw [if_neg hne, if_pos hall, if_pos (by rw [hgz]; simp at *; omega)]]; exact ent_d2 rfl rfl rfl rfl) | (rw [show majorF p = (majF z, 0) from by unfold majorF; rw [if_neg hne, if_pos hall, if_neg (by rw [hgz]; simp at *; omega), hgz]]; exact ent_d2 rfl rfl rfl rfl)
    ·
     refine lskip rfl hg4 rfl ?_
     refine lskip rfl hg4 rfl ?_
     refine xlz (o_pT rfl rfl (g00 hg4) rfl rfl) ?_
     refine lendF ?_
     refine awp_condT rfl rfl rfl ?_
     refine xsr ?_
     refine xlz (o_as rfl rfl rfl) ?_
     refine xlz (o_as rfl rfl rfl) ?_
     refine lendF ?_
     refine awp_ret ?_
     refine ⟨[_, _], ⟨rfl, rfl, trivial⟩, ?_⟩
     have hall : (segsF p).all segOK = true := by rw [← hI, List.drop_length]; rfl
     first | (rw [show majorF p = (0, 4) from by unfold majorF; rw [if_neg hne, if_pos hall, if_pos (by rw [hgz]; simp at *; omega)]]; exact ent_d2 rfl rfl rfl rfl) | (rw [show majorF p = (majF z, 0) from by unfold majorF; rw [if_neg hne, if_pos hall, if_neg (by rw [hgz]; simp at *; omega), hgz]]; exact ent_d2 rfl rfl rfl rfl)

set_option maxRecDepth 10000 in
theorem c132 (p : Bytes) (hs : p.length < 4611686018427387904) : Fn PR 132 [.d (.str p)] [] [.d (.bool (isPath p))] [] := by
 refine fn_of_awp Tryz.func132 rfl (N := 12) rfl ?_
 refine xsr ?_
 refine xlz (o_as rfl rfl rfl) ?_
 refine lendF ?_
 refine xsr ?_
 refine xlz (o_mv rfl rfl rfl) ?_
 refine xlz (o_call (c133 p hs) rfl rfl rfl ca133 rfl rfl) ?_
 refine xlz (o_mv rfl rfl rfl) ?_
 refine xlz (op_extract rfl rfl rfl rfl) ?_
 refine xlz (op_extract rfl rfl rfl rfl) ?_
 refine xlz (o_as rfl rfl rfl) ?_
 refine xlz (o_as rfl rfl rfl) ?_
 refine lendF ?_
 refine xsr ?_
 refine xlz (o_mv rfl rfl rfl) ?_
 refine xlz (op_binI rfl rfl rfl rfl rfl (.inl rfl) rfl) ?_
 refine xlz (o_as rfl rfl rfl) ?_
 refine lendF ?_
 refine awp_ret ?_
 refine ⟨[_], ⟨rfl, trivial⟩, ?_⟩
 exact ent_b rfl (by unfold isPath; rw [Bool.eq_iff_iff]; simp)

set_option maxRecDepth 10000 in
theorem c108 (p : Bytes) (hs : p.length < 4611686018427387904) : Fn PR 108 [.d (.str p)] [] [.undef, .d (I (if isPath p then (majorF p).1 else 0)), .d (I (if isPath p then 0 else 4))] [] := by
 refine fn_of_awp Tryz.func108 rfl (N := 31) rfl ?_
 refine xsr ?_
 refine xlz (o_as rfl rfl rfl) ?_
 refine xlz (o_as rfl rfl rfl) ?_
 refine xlz (o_as rfl rfl rfl) ?_
 refine lendF ?_
 refine awp_seq ?_
 refine xsr ?_
 refine xlz (o_mv rfl rfl rfl) ?_
 refine xlz (o_call (c132 p hs) rfl rfl rfl ca132 rfl rfl) ?_
 refine xlz (op_not rfl rfl rfl) ?_
 refine lendF ?_
 refine awp_cond rfl rfl (fun hc1 => ?_) (fun hc1 => ?_)
 ·
  have hp : isPath p = false := by simp_all
  refine xsr ?_
  refine xlz (o_as rfl rfl rfl) ?_
  refine xlz (o_as rfl rfl rfl) ?_
  refine xlz (o_as rfl rfl rfl) ?_
  refine lendF ?_
  refine awp_ret ?_
  refine ⟨[_, _, _], ⟨rfl, rfl, rfl, trivial⟩, ?_⟩
  first | exact ent_id rfl (.cons rfl (.undef _) (.cons rfl (k_i (by simp [hp])) (.cons rfl (k_i (by simp [hp])) .nil))) obs_nil rfl
 ·
  have hp : isPath p = true := by simp_all
  have hl := isPath_len hp
  have h0 := isPath_ok hp
  obtain ⟨j, hj⟩ := isPath_slash hp
  have hjl := rng_le hj
  refine awp_skip ?_
  refine xsr ?_
  refine xlz (o_mv rfl rfl rfl) ?_
  refine xlz (o_call (c133 p hs) rfl rfl rfl ca133 rfl rfl) ?_
  refine xlz (o_mv rfl rfl rfl) ?_
  refine xlz (op_extract rfl rfl rfl rfl) ?_
  refine xlz (op_extract rfl rfl rfl rfl) ?_
  refine xlz (o_as rfl rfl rfl) ?_
  refine xlz (o_as rfl rfl rfl) ?_
  refine lendF ?_
  refine awp_seq ?_
  refine xsr ?_
  refine xlz (o_mv rfl rfl rfl) ?_
  refine xlz (op_binI rfl rfl rfl rfl rfl (.inl rfl) rfl) ?_
  refine lendF ?_
  refine awp_cond rfl rfl (fun hc2 => ?_) (fun hc2 => ?_)
  ·
   exact absurd hc2 (by simp [h0])
  ·
   refine awp_skip ?_
   refine xsr ?_
   refine xlz (o_mv rfl rfl rfl) ?_
   refine xlz (op_lenS rfl rfl rfl ty9) ?_
   refine xlz (o_sub rfl rfl rfl rfl (by first | omega | (simp; omega) | (simp at *; omega))) ?_
   refine xlz (o_as rfl rfl rfl) ?_
   refine lendF ?_
   refine awp_seq ?_
   refine awp_block ?_
   refine awp_loop (fun k => ⟨31, [(7, .d (I (k : Nat))), (0, .d (.str p)), (5, .d (I (majorF p).1))], []⟩) (fun k => k) (fun k => k < p.length ∧ j ≤ k) (p.length - 1) ?_ ?_ ?_
   ·
    exact ent_k [] rfl rfl (.cons rfl (k_i (by omega)) <| xkc <| xkc <| .nil) obs_nil rfl
   ·
    exact ⟨by omega, by omega⟩
   ·
    rintro k ⟨hk, hjk⟩
    obtain ⟨x, hn⟩ : ∃ x, p[k]? = some x := ⟨_, List.getElem?_eq_getElem hk⟩
    refine awp_seq ?_
    refine xsr ?_
    refine xlz (o_mv rfl rfl rfl) ?_
    refine xlz (o_mv rfl rfl rfl) ?_
    refine xlz (o_idxS (k) rfl rfl rfl rfl ty9 (by first | rfl | omega | (simp; done) | (simp; omega)) hn) ?_
    refine xlz (op_binI rfl rfl rfl rfl rfl (.inl rfl) rfl) ?_
    refine lendF ?_
    refine awp_cond rfl rfl (fun hc3 => ?_) (fun hc3 => ?_)
    ·
     have hx : ¬ x = 47 := by have := hc3; rw [show (47 : Int) = ((47 : UInt8).toNat : Int) from rfl, neB] at this; simpa using this
     have hjk : j < k := by rcases Nat.lt_or_ge j k with h | h; (exact h); (have : j = k := by omega); (subst this; rw [hn] at hj; injection hj with hj; exact absurd hj hx)
     refine awp_skip ?_
     refine awp_block ?_
     refine awp_region mixed ?_
     refine xlz (o_mv rfl rfl rfl) ?_
     refine xlz (o_sub rfl rfl rfl rfl (by first | omega | (simp; omega) | (simp at *; omega))) ?_
     refine xlz (o_as rfl rfl rfl) ?_
     refine lendF ?_
     refine ⟨k - 1, ?_, ?_, ?_⟩
     ·
      exact ⟨by omega, by omega⟩
     ·
      exact ent_k [] rfl rfl (.cons rfl (k_i (by omega)) <| xkc <| xkc <| .nil) obs_nil rfl
     ·
      omega
    ·
     refine awp_exit ?_
     refine xsr ?_
     refine xlz (o_mv rfl rfl rfl) ?_
     refine xlz (o_mv rfl rfl rfl) ?_
     refine xlz (o_slS rfl rfl rfl ty9 .none (.some rfl rfl (n := k) (by first | rfl | omega | (simp; done) | (simp; omega))) (by first | omega | (simp; omega) | (simp at *; omega)) (by first | omega | (simp; omega) | (simp at *; omega))) ?_
     refine xlz (o_mv rfl rfl rfl) ?_
     refine xlz (o_as rfl rfl rfl) ?_
     refine xlz (o_as rfl rfl rfl) ?_
     refine xlz (o_as rfl rfl rfl) ?_
     refine lendF ?_
     refine awp_ret ?_
     refine ⟨[_, _, _], ⟨rfl, rfl, rfl, trivial⟩, ?_⟩
     first | exact ent_id rfl (.cons rfl (.undef _) (.cons rfl (k_i (by simp [hp])) (.cons rfl (k_i (by simp [hp])) .nil))) obs_nil rfl

set_option maxRecDepth 10000 in
theorem c73 (p : Bytes) (hs : p.length < 4611686018427387904) : Fn PR 73 [.d (.str p)] [] [.d (I (majN p))] [] := by
 refine fn_of_awp Tryz.func73 rfl (N := 15) rfl ?_
 refine xsr ?_
 refine xlz (o_as rfl rfl rfl) ?_
 refine lendF ?_
 refine xsr ?_
 refine xlz (o_mv rfl rfl rfl) ?_
 refine xlz (o_call (c108 p hs) rfl rfl rfl ca108 rfl rfl) ?_
 refine xlz (o_mv rfl rfl rfl) ?_
 refine xlz (op_extract rfl rfl rfl rfl) ?_
 refine xlz (op_extract rfl rfl rfl rfl) ?_
 refine xlz (op_extract rfl rfl rfl rfl) ?_
 refine xlz (o_as rfl rfl rfl) ?_
 refine xlz (o_as rfl rfl rfl) ?_
 refine xlz (o_as rfl rfl rfl) ?_
 refine lendF ?_
 refine awp_seq ?_
 refine xsr ?_
 refine xlz (o_mv rfl rfl rfl) ?_
 refine xlz (op_binI rfl rfl rfl rfl rfl (.inl rfl) rfl) ?_
 refine lendF ?_
 refine awp_cond rfl rfl (fun hc1 => ?_) (fun hc1 => ?_)
 ·
  refine xsr ?_
  refine xlz (o_as rfl rfl rfl) ?_
  refine lendF ?_
  refine awp_ret ?_
  refine ⟨[_], ⟨rfl, trivial⟩, ?_⟩
  exact ent_i rfl (by unfold majN; simp_all)
 ·
  refine awp_skip ?_
  refine xsr ?_
  refine xlz (o_mv rfl rfl rfl) ?_
  refine xlz (o_as rfl rfl rfl) ?_
  refine lendF ?_
  refine awp_ret ?_
  refine ⟨[_], ⟨rfl, trivial⟩, ?_⟩
  exact ent_i rfl (by unfold majN; simp_all)

end Go.Pm

namespace Go.Pm
open Go.Proofs

set_option maxRecDepth 100000 in
theorem c88 (s : List Span) (hs : s.length ≤ 1000000) : Fn PR 88 [.d (setD s)] [] [.d (setD (canonS s))] [] := by
 refine fn_of_awp Tryz.func88 rfl (N := 113) rfl ?_
 refine xsr ?_
 refine xlz (o_as rfl rfl rfl) ?_
 refine lendF ?_
 refine xsr ?_
 refine xlz (o_bs rfl rfl rfl rfl rfl ty49 ty78 rfl rfl) ?_
 refine xlz (o_as rfl rfl rfl) ?_
 refine lendF ?_
 refine awp_seq ?_
 refine xsr ?_
 refine xlz (o_as rfl rfl rfl) ?_
 refine lendF ?_
 refine awp_block ?_
 refine awp_loop (fun x => ⟨113, [(3, .d (.list (x.2.map Span.d))), (4, .d (I (x.1 : Nat))), (0, .d (setD s))], []⟩) (fun x => s.length - x.1) (fun x => x.1 ≤ s.length ∧ x.2.length ≤ x.1 ∧ canon1 x.2 (s.drop x.1) = canon1 [] s) (0, []) ?_ ?_ ?_
 ·
  exact ent_k [] rfl rfl (xkc <| xkc <| xkc <| .nil) obs_nil rfl
 ·
  exact ⟨Nat.zero_le _, Nat.le_refl _, rfl⟩
 ·
  rintro ⟨i, l⟩ ⟨hi, hl, hI⟩
  dsimp only at hi hl hI ⊢
  refine awp_seq ?_
  refine xsr ?_
  refine xlz (o_mv rfl rfl rfl) ?_
  refine xlz (o_mv rfl rfl rfl) ?_
  refine xlz (o_lenE (n := s.length) rfl rfl rfl ty49 (by simp)) ?_
  refine xlz (op_binI rfl rfl rfl rfl rfl (.inl rfl) rfl) ?_
  refine lendF ?_
  refine awp_cond rfl rfl (fun hc1 => ?_) (fun hc1 => ?_)
  ·
   obtain ⟨x, hn⟩ := rng_lt (l := s) (by simpa using hc1)
   have hlt := rng_le hn
   have hmem := List.mem_of_getElem? hn
   refine awp_skip ?_
   refine awp_seq ?_
   refine awp_block ?_
   refine xsr ?_
   refine xlz (o_mv rfl rfl rfl) ?_
   refine xlz (o_mv rfl rfl rfl) ?_
   refine xlz (o_ixN (i) rfl rfl rfl rfl ty49 (by first | rfl | omega | (simp; done) | (simp; omega)) hn ty78) ?_
   refine xlz (op_fieldC rfl rfl rfl fl78_0) ?_
   refine xlz (op_loadC1 rfl rfl rfl ty3 rfl rfl) ?_
   refine xlz (op_max rfl rfl rfl rfl rfl) ?_
   refine xlz (o_mv rfl rfl rfl) ?_
   refine xlz (o_mv rfl rfl rfl) ?_
   refine xlz (o_ixN (i) rfl rfl rfl rfl ty49 (by first | rfl | omega | (simp; done) | (simp; omega)) hn ty78) ?_
   refine xlz (op_fieldC rfl rfl rfl fl78_1) ?_
   refine xlz (op_loadC1 rfl rfl rfl ty3 rfl rfl) ?_
   refine xlz (op_min rfl rfl rfl rfl rfl) ?_
   refine xlz (o_bld rfl rfl rfl bl78 ty78 zk78 rfl rfl rfl) ?_
   refine xlz (op_alloc rfl rfl (by decide) ty78 zk78 rfl) ?_
   refine xlz (op_store rfl rfl rfl rfl rfl rfl ty78 rfl (xlb rfl)) ?_
   refine lend (fun _ => by kernel_rfl) ?_
   refine awp_seq ?_
   refine xsr ?_
   refine xlz (op_fieldP rfl rfl rfl fl78_0) ?_
   refine xlz (op_load1 rfl rfl rfl rfl ty3 rfl rfl) ?_
   refine xlz (op_fieldP rfl rfl rfl fl78_1) ?_
   refine xlz (op_load1 rfl rfl rfl rfl ty3 rfl rfl) ?_
   refine xlz (op_binI rfl rfl rfl rfl rfl (.inl rfl) rfl) ?_
   refine lendF ?_
   refine awp_cond rfl rfl (fun hc2 => ?_) (fun hc2 => ?_)
   ·
    have hge : (clampS x).lo ≥ (clampS x).hi := by have := hc2; simp at this; exact this
    refine awp_exit ?_
    refine awp_region mixed ?_
    refine xlz (o_mv rfl rfl rfl) ?_
    refine xlz (o_add rfl rfl rfl rfl (by first | omega | (simp; omega) | (simp at *; omega))) ?_
    refine xlz (o_as rfl rfl rfl) ?_
    refine lendF ?_
    refine ⟨(i + 1, l), ?_, ?_, ?_⟩
    ·
     exact ⟨rng_le hn, by show l.length ≤ i + 1; omega, by show canon1 l (s.drop (i + 1)) = _; rw [← hI, drop_cons hn, canon1, if_pos hge]⟩
    ·
     exact ent_k [] rfl rfl (xkc <| xkc <| xkc <| .nil) obs_nil rfl
    ·
     show s.length - (i + 1) < s.length - i; have := rng_le hn; omega
   ·
    have hge : ¬ (clampS x).lo ≥ (clampS x).hi := by have := hc2; simp at this; simp [clampS]; omega
    refine awp_skip ?_
    refine xsr ?_
    refine xlz (o_mv rfl rfl rfl) ?_
    refine xlz (o_eqI (o_lenE (n := l.length) rfl rfl rfl ty49 (by simp)) (m' := l.length) (by simp)) ?_
    refine xlz (o_as rfl rfl rfl) ?_
    refine lendF ?_
    refine awp_seq ?_
    refine awp_block ?_
    refine awp_loop (fun k => ⟨113, [(6, .d (I (k : Nat))), (0, .d (setD s)), (3, .d (.list (l.map Span.d))), (4, .d (I (i : Nat))), (5, .ptr 5 0), (11, .d (I (i : Nat))), (12, .d (setD s)), (13, .d (I s.length)), (17, .d (setD s)), (18, .d (I (i : Nat))), (21, .d (I x.lo)), (22, .d (I (clampS x).lo)), (23, .d (setD s)), (24, .d (I (i : Nat))), (27, .d (I x.hi)), (28, .d (I (clampS x).hi)), (29, .d (.agg [I (clampS x).lo, I (clampS x).hi])), (30, .ptr 5 0), (31, .d (I (clampS x).lo)), (32, .ptr 5 1), (33, .d (I (clampS x).hi)), (35, .d (.list (l.map Span.d))), (36, .d (I l.length))], [(5, .cells [.d (I (clampS x).lo), .d (I (clampS x).hi)])]⟩) (fun k => k) (fun k => k ≤ l.length ∧ posS l (clampS x) k = posS l (clampS x) l.length) l.length ?_ ?_ ?_
    ·
     exact ent_k [] rfl rfl (xkc <| xkc <| xkc <| xkc <| xkc <| xkc <| xkc <| xkc <| xkc <| xkc <| xkc <| xkc <| xkc <| xkc <| xkc <| xkc <| xkc <| xkc <| xkc <| xkc <| xkc <| xkc <| xkc <| .nil) (obs_cons rfl (o_eq rfl) obs_nil) rfl
    ·
     exact ⟨Nat.le_refl _, rfl⟩
    ·
     rintro k ⟨hk1, hP⟩
     refine awp_seq ?_
     refine xsr ?_
     refine xlz (o_mv rfl rfl rfl) ?_
     refine xlz (op_binI rfl rfl rfl rfl rfl (.inl rfl) rfl) ?_
     refine xlz (o_mv rfl rfl rfl) ?_
     refine lsplit rfl (fun hg3 => ?_) (fun hg3 => ?_)
     ·
      have hk0 : 0 < k := by have := (g11 hg3); simp at this; omega
      obtain ⟨z, hz⟩ : ∃ z, l[k - 1]? = some z := ⟨_, List.getElem?_eq_getElem (by first | omega | (simp at *; omega))⟩
      refine lg (o_mv rfl rfl rfl) rfl hg3 rfl rfl ?_
      refine lg (o_mv rfl rfl rfl) rfl hg3 rfl rfl ?_
      refine lg (o_sub rfl rfl rfl rfl (by first | omega | (simp; omega) | (simp at *; omega))) rfl hg3 rfl rfl ?_
      refine lg (o_ixN ((k - 1)) rfl rfl rfl rfl ty49 (by first | rfl | omega | (simp; done) | (simp; omega)) hz ty78) rfl hg3 rfl rfl ?_
      refine lg (op_fieldC rfl rfl rfl fl78_0) rfl hg3 rfl rfl ?_
      refine lg (op_loadC1 rfl rfl rfl ty3 rfl rfl) rfl hg3 rfl rfl ?_
      refine lg (op_fieldP rfl rfl rfl fl78_0) rfl hg3 rfl rfl ?_
      refine lg (op_load1 rfl rfl rfl rfl ty3 rfl rfl) rfl hg3 rfl rfl ?_
      refine lg (op_binI rfl rfl rfl rfl rfl (.inl rfl) rfl) rfl hg3 rfl rfl ?_
      refine xlz (o_pT rfl rfl (g11 hg3) rfl rfl) ?_
      refine lend (fun _ => by kernel_rfl) ?_
      refine awp_cond rfl rfl (fun hc4 => ?_) (fun hc4 => ?_)
      ·
       refine awp_skip ?_
       refine awp_block ?_
       refine awp_region mixed ?_
       refine xlz (o_mv rfl rfl rfl) ?_
       refine xlz (o_sub rfl rfl rfl rfl (by first | omega | (simp; omega) | (simp at *; omega))) ?_
       refine xlz (o_as rfl rfl rfl) ?_
       refine lendF ?_
       refine ⟨k - 1, ?_, ?_, ?_⟩
       ·
        exact ⟨by omega, by rw [← hP, pos_step hz (by first | omega | (simp at *; omega)) (by first | omega | (simp at *; omega))]⟩
       ·
        exact ent_k [] rfl rfl (.cons rfl (k_i (by first | omega | (simp at *; omega))) <| xkc <| xkc <| xkc <| xkc <| xkc <| xkc <| xkc <| xkc <| xkc <| xkc <| xkc <| xkc <| xkc <| xkc <| xkc <| xkc <| xkc <| xkc <| xkc <| xkc <| xkc <| xkc <| .nil) (obs_cons rfl (o_eq rfl) obs_nil) rfl
       ·
        first | omega | (simp at *; omega)
      ·
       refine awp_exit ?_
       refine awp_region mixed ?_
       have hk : posS l (clampS x) l.length = k := by rw [← hP]; first | (rw [show k = 0 from by simp at *; omega]; rfl) | exact pos_stop hz (by first | omega | (simp at *; omega)) (by first | omega | (simp at *; omega))
       have hkl : k ≤ l.length := hk1
       refine xlz (o_mv rfl rfl rfl) ?_
       refine xlz (o_mv rfl rfl rfl) ?_
       refine xlz (o_mv rfl rfl rfl) ?_
       refine xlz (o_sl3 rfl rfl rfl ty49 ty78 (by first | exact cl_map fun _ => rfl | exact cl_one rfl | exact cl_take (cl_drop (cl_map fun _ => rfl)) | exact cl_app (cl_one rfl) (cl_take (cl_drop (cl_map fun _ => rfl))) | exact cl_app (cl_map fun _ => rfl) (cl_one rfl)) .none (.some rfl rfl (n := k) (by first | rfl | omega | (simp; done) | (simp; omega))) (.some rfl rfl (n := k) (by first | rfl | omega | (simp; done) | (simp; omega))) (Nat.zero_le _) (by simp; omega)) ?_
       refine xlz (o_ldA rfl rfl rfl rfl ty78 rfl (xlb rfl) rfl) ?_
       refine xlz (o_bs rfl rfl rfl rfl rfl ty49 ty78 rfl rfl) ?_
       refine xlz (o_mv rfl rfl rfl) ?_
       refine xlz (o_mv rfl rfl rfl) ?_
       refine xlz (o_slL rfl rfl rfl ty49 ty78 (by first | exact cl_map fun _ => rfl | exact cl_one rfl | exact cl_take (cl_drop (cl_map fun _ => rfl)) | exact cl_app (cl_one rfl) (cl_take (cl_drop (cl_map fun _ => rfl))) | exact cl_app (cl_map fun _ => rfl) (cl_one rfl)) (.some rfl rfl (n := k) (by first | rfl | omega | (simp; done) | (simp; omega))) .none (by simp; omega) (by simp)) ?_
       refine xlz (o_app rfl rfl (by decide) rfl rfl rfl ty49 ty78 rfl (by decide) rfl (by first | exact cl_map fun _ => rfl | exact cl_one rfl | exact cl_take (cl_drop (cl_map fun _ => rfl)) | exact cl_app (cl_one rfl) (cl_take (cl_drop (cl_map fun _ => rfl))) | exact cl_app (cl_map fun _ => rfl) (cl_one rfl)) (by first | exact cl_map fun _ => rfl | exact cl_one rfl | exact cl_take (cl_drop (cl_map fun _ => rfl)) | exact cl_app (cl_one rfl) (cl_take (cl_drop (cl_map fun _ => rfl))) | exact cl_app (cl_map fun _ => rfl) (cl_one rfl)) (by simp; omega) (by decide) rfl) ?_
       refine xlz (o_app rfl rfl (by decide) rfl rfl rfl ty49 ty78 rfl (by decide) rfl (by first | exact cl_map fun _ => rfl | exact cl_one rfl | exact cl_take (cl_drop (cl_map fun _ => rfl)) | exact cl_app (cl_one rfl) (cl_take (cl_drop (cl_map fun _ => rfl))) | exact cl_app (cl_map fun _ => rfl) (cl_one rfl)) (by first | exact cl_map fun _ => rfl | exact cl_one rfl | exact cl_take (cl_drop (cl_map fun _ => rfl)) | exact cl_app (cl_one rfl) (cl_take (cl_drop (cl_map fun _ => rfl))) | exact cl_app (cl_map fun _ => rfl) (cl_one rfl)) (by simp; omega) (by decide) rfl) ?_
       refine xlz (o_as rfl rfl rfl) ?_
       refine lend (fun _ => by kernel_rfl) ?_
       refine awp_region mixed ?_
       refine xlz (o_mv rfl rfl rfl) ?_
       refine xlz (o_add rfl rfl rfl rfl (by first | omega | (simp; omega) | (simp at *; omega))) ?_
       refine xlz (o_as rfl rfl rfl) ?_
       refine lendF ?_
       refine ⟨(i + 1, insS l (clampS x)), ?_, ?_, ?_⟩
       ·
        exact ⟨rng_le hn, by show (insS l (clampS x)).length ≤ i + 1; rw [insS_len]; omega, by show canon1 (insS l (clampS x)) (s.drop (i + 1)) = _; rw [← hI, drop_cons hn, canon1, if_neg hge]⟩
       ·
        exact ent_k [] rfl rfl (.cons rfl (.data (by simp [toD, insS, hk, List.take_of_length_le])) <| .cons rfl (k_i (by simp)) <| xkc <| .nil) obs_nil rfl
       ·
        show s.length - (i + 1) < s.length - i; have := rng_le hn; omega
     ·
      have hk0 : k = 0 := by have := (g10 hg3); simp at this; omega
      refine lskip rfl hg3 rfl ?_
      refine lskip rfl hg3 rfl ?_
      refine lskip rfl hg3 rfl ?_
      refine lskip rfl hg3 rfl ?_
      refine lskip rfl hg3 rfl ?_
      refine lskip rfl hg3 rfl ?_
      refine lskip rfl hg3 rfl ?_
      refine lskip rfl hg3 rfl ?_
      refine lskip rfl hg3 rfl ?_
      refine xlz (o_pF rfl rfl (g10 hg3) rfl rfl) ?_
      refine lend (fun _ => by kernel_rfl) ?_
      refine awp_condF rfl rfl rfl ?_
      refine awp_exit ?_
      refine awp_region mixed ?_
      have hk : posS l (clampS x) l.length = k := by rw [← hP]; first | (rw [show k = 0 from by simp at *; omega]; rfl) | exact pos_stop hz (by first | omega | (simp at *; omega)) (by first | omega | (simp at *; omega))
      have hkl : k ≤ l.length := hk1
      refine xlz (o_mv rfl rfl rfl) ?_
      refine xlz (o_mv rfl rfl rfl) ?_
      refine xlz (o_mv rfl rfl rfl) ?_
      refine xlz (o_sl3 rfl rfl rfl ty49 ty78 (by first | exact cl_map fun _ => rfl | exact cl_one rfl | exact cl_take (cl_drop (cl_map fun _ => rfl)) | exact cl_app (cl_one rfl) (cl_take (cl_drop (cl_map fun _ => rfl))) | exact cl_app (cl_map fun _ => rfl) (cl_one rfl)) .none (.some rfl rfl (n := k) (by first | rfl | omega | (simp; done) | (simp; omega))) (.some rfl rfl (n := k) (by first | rfl | omega | (simp; done) | (simp; omega))) (Nat.zero_le _) (by simp; omega)) ?_
      refine xlz (o_ldA rfl rfl rfl rfl ty78 rfl (xlb rfl) rfl) ?_
      refine xlz (o_bs rfl rfl rfl rfl rfl ty49 ty78 rfl rfl) ?_
      refine xlz (o_mv rfl rfl rfl) ?_
      refine xlz (o_mv rfl rfl rfl) ?_
      refine xlz (o_slL rfl rfl rfl ty49 ty78 (by first | exact cl_map fun _ => rfl | exact cl_one rfl | exact cl_take (cl_drop (cl_map fun _ => rfl)) | exact cl_app (cl_one rfl) (cl_take (cl_drop (cl_map fun _ => rfl))) | exact cl_app (cl_map fun _ => rfl) (cl_one rfl)) (.some rfl rfl (n := k) (by first | rfl | omega | (simp; done) | (simp; omega))) .none (by simp; omega) (by simp)) ?_
      refine xlz (o_app rfl rfl (by decide) rfl rfl rfl ty49 ty78 rfl (by decide) rfl (by first | exact cl_map fun _ => rfl | exact cl_one rfl | exact cl_take (cl_drop (cl_map fun _ => rfl)) | exact cl_app (cl_one rfl) (cl_take (cl_drop (cl_map fun _ => rfl))) | exact cl_app (cl_map fun _ => rfl) (cl_one rfl)) (by first | exact cl_map fun _ => rfl | exact cl_one rfl | exact cl_take (cl_drop (cl_map fun _ => rfl)) | exact cl_app (cl_one rfl) (cl_take (cl_drop (cl_map fun _ => rfl))) | exact cl_app (cl_map fun _ => rfl) (cl_one rfl)) (by simp; omega) (by decide) rfl) ?_
      refine xlz (o_app rfl rfl (by decide) rfl rfl rfl ty49 ty78 rfl (by decide) rfl (by first | exact cl_map fun _ => rfl | exact cl_one rfl | exact cl_take (cl_drop (cl_map fun _ => rfl)) | exact cl_app (cl_one rfl) (cl_take (cl_drop (cl_map fun _ => rfl))) | exact cl_app (cl_map fun _ => rfl) (cl_one rfl)) (by first | exact cl_map fun _ => rfl | exact cl_one rfl | exact cl_take (cl_drop (cl_map fun _ => rfl)) | exact cl_app (cl_one rfl) (cl_take (cl_drop (cl_map fun _ => rfl))) | exact cl_app (cl_map fun _ => rfl) (cl_one rfl)) (by simp; omega) (by decide) rfl) ?_
      refine xlz (o_as rfl rfl rfl) ?_
      refine lend (fun _ => by kernel_rfl) ?_
      refine awp_region mixed ?_
      refine xlz (o_mv rfl rfl rfl) ?_
      refine xlz (o_add rfl rfl rfl rfl (by first | omega | (simp; omega) | (simp at *; omega))) ?_
      refine xlz (o_as rfl rfl rfl) ?_
      refine lendF ?_
      refine ⟨(i + 1, insS l (clampS x)), ?_, ?_, ?_⟩
      ·
       exact ⟨rng_le hn, by show (insS l (clampS x)).length ≤ i + 1; rw [insS_len]; omega, by show canon1 (insS l (clampS x)) (s.drop (i + 1)) = _; rw [← hI, drop_cons hn, canon1, if_neg hge]⟩
      ·
       exact ent_k [] rfl rfl (.cons rfl (.data (by simp [toD, insS, hk, List.take_of_length_le])) <| .cons rfl (k_i (by simp)) <| xkc <| .nil) obs_nil rfl
      ·
       show s.length - (i + 1) < s.length - i; have := rng_le hn; omega
  ·
   obtain rfl := rng_ge (l := s) (by simpa using hc1) hi
   refine awp_exit ?_
   refine xsr ?_
   refine xlz (op_bsR rfl rfl rfl rfl rfl ty49 ty78 rfl rfl rfl (by decide)) ?_
   refine xlz (o_as rfl rfl rfl) ?_
   refine lendF ?_
   refine awp_seq ?_
   refine xsr ?_
   refine xlz (o_as rfl rfl rfl) ?_
   refine lendF ?_
   refine awp_block ?_
   have hll : l.length ≤ s.length := hl
   refine awp_loop (fun x => ⟨113, [(7, .arr 500063 2 0 (x.2.map Span.d).length), (8, .d (I (x.1 : Nat))), (3, .d (.list (l.map Span.d)))], [(500063, .arr 2 (x.2.map Span.d))]⟩) (fun x => l.length - x.1) (fun x => x.1 ≤ l.length ∧ x.2.length ≤ x.1 ∧ (l.drop x.1).foldl mstep x.2 = canonS s) (0, []) ?_ ?_ ?_
   ·
    exact ent_k [(500063, 63)] rfl rfl (.cons rfl (k_arr rfl rfl) <| xkc <| xkc <| .nil) (obs_cons rfl (ko_arr rfl) obs_nil) rfl
   ·
    exact ⟨Nat.zero_le _, Nat.le_refl _, by show l.foldl mstep [] = _; rw [canonS, ← hI]; rw [List.drop_length]; rfl⟩
   ·
    rintro ⟨j, out⟩ ⟨hj, ho, hJ⟩
    dsimp only at hj ho hJ ⊢
    refine awp_seq ?_
    refine xsr ?_
    refine xlz (o_mv rfl rfl rfl) ?_
    refine xlz (o_mv rfl rfl rfl) ?_
    refine xlz (o_lenE (n := l.length) rfl rfl rfl ty49 (by simp)) ?_
    refine xlz (op_binI rfl rfl rfl rfl rfl (.inl rfl) rfl) ?_
    refine lendF ?_
    refine awp_cond rfl rfl (fun hc6 => ?_) (fun hc6 => ?_)
    ·
     obtain ⟨x, hn⟩ := rng_lt (l := l) (by simpa using hc6)
     have hlt := rng_le hn
     refine awp_skip ?_
     refine awp_seq ?_
     refine awp_block ?_
     refine xsr ?_
     refine xlz (o_mv rfl rfl rfl) ?_
     refine xlz (o_eqI (op_lenR rfl rfl rfl ty49) (m' := out.length) (by simp)) ?_
     refine xlz (o_as rfl rfl rfl) ?_
     refine lendF ?_
     refine xsr ?_
     refine xlz (o_mv rfl rfl rfl) ?_
     refine xlz (op_binI rfl rfl rfl rfl rfl (.inl rfl) rfl) ?_
     refine xlz (o_mv rfl rfl rfl) ?_
     refine lsplit rfl (fun hg7 => ?_) (fun hg7 => ?_)
     ·
      have ho0 : 0 < out.length := by have := (g11 hg7); simp at this; omega
      obtain ⟨z, hz⟩ := last_get (l := out) (by first | omega | (simp at *; omega))
      have hzm := map_get (f := Span.d) hz
      refine lg (o_mv rfl rfl rfl) rfl hg7 rfl rfl ?_
      refine lg (o_mv rfl rfl rfl) rfl hg7 rfl rfl ?_
      refine lg (o_ixN (j) rfl rfl rfl rfl ty49 (by first | rfl | omega | (simp; done) | (simp; omega)) hn ty78) rfl hg7 rfl rfl ?_
      refine lg (op_fieldC rfl rfl rfl fl78_0) rfl hg7 rfl rfl ?_
      refine lg (op_loadC1 rfl rfl rfl ty3 rfl rfl) rfl hg7 rfl rfl ?_
      refine lg (o_mv rfl rfl rfl) rfl hg7 rfl rfl ?_
      refine lg (o_mv rfl rfl rfl) rfl hg7 rfl rfl ?_
      refine lg (o_sub rfl rfl rfl rfl (by first | omega | (simp; omega) | (simp at *; omega))) rfl hg7 rfl rfl ?_
      refine lg (o_ixR' ((out.length - 1)) rfl rfl rfl rfl ty49 ty78 (by first | rfl | omega | (simp; done) | (simp; omega)) (by first | omega | (simp at *; omega)) (Nat.zero_add _).symm) rfl hg7 rfl rfl ?_
      refine lg (op_fieldE rfl rfl rfl fl78_1) rfl hg7 rfl rfl ?_
      refine lg (op_loadE1 rfl rfl rfl rfl hzm ty3 rfl rfl) rfl hg7 rfl rfl ?_
      refine lg (op_binI rfl rfl rfl rfl rfl (.inl rfl) rfl) rfl hg7 rfl rfl ?_
      refine xlz (o_pT rfl rfl (g11 hg7) rfl rfl) ?_
      refine lend (fun _ => by kernel_rfl) ?_
      refine awp_cond rfl rfl (fun hc8 => ?_) (fun hc8 => ?_)
      ·
       refine awp_region mixed ?_
       refine xlz (o_mv rfl rfl rfl) ?_
       refine xlz (o_mv rfl rfl rfl) ?_
       refine xlz (o_sub rfl rfl rfl rfl (by first | omega | (simp; omega) | (simp at *; omega))) ?_
       refine xlz (o_mv rfl rfl rfl) ?_
       refine xlz (o_mv rfl rfl rfl) ?_
       refine xlz (o_sub rfl rfl rfl rfl (by first | omega | (simp; omega) | (simp at *; omega))) ?_
       refine xlz (o_ixR' ((out.length - 1)) rfl rfl rfl rfl ty49 ty78 (by first | rfl | omega | (simp; done) | (simp; omega)) (by first | omega | (simp at *; omega)) (Nat.zero_add _).symm) ?_
       refine xlz (op_fieldE rfl rfl rfl fl78_1) ?_
       refine xlz (op_loadE1 rfl rfl rfl rfl hzm ty3 rfl rfl) ?_
       refine xlz (o_mv rfl rfl rfl) ?_
       refine xlz (o_mv rfl rfl rfl) ?_
       refine xlz (o_ixN (j) rfl rfl rfl rfl ty49 (by first | rfl | omega | (simp; done) | (simp; omega)) hn ty78) ?_
       refine xlz (op_fieldC rfl rfl rfl fl78_1) ?_
       refine xlz (op_loadC1 rfl rfl rfl ty3 rfl rfl) ?_
       refine xlz (op_max rfl rfl rfl rfl rfl) ?_
       refine xlz (o_ixR' ((out.length - 1)) rfl rfl rfl rfl ty49 ty78 (by first | rfl | omega | (simp; done) | (simp; omega)) (by first | omega | (simp at *; omega)) (Nat.zero_add _).symm) ?_
       refine xlz (op_fieldE rfl rfl rfl fl78_1) ?_
       refine xlz (op_storeE rfl rfl rfl rfl hzm rfl rfl rfl ty3 rfl rfl rfl) ?_
       refine lend (fun _ => by kernel_rfl) ?_
       refine awp_region mixed ?_
       refine xlz (o_mv rfl rfl rfl) ?_
       refine xlz (o_add rfl rfl rfl rfl (by first | omega | (simp; omega) | (simp at *; omega))) ?_
       refine xlz (o_as rfl rfl rfl) ?_
       refine lendF ?_
       refine ⟨(j + 1, out.set (out.length - 1) ⟨z.lo, if x.hi > z.hi then x.hi else z.hi⟩), ?_, ?_, ?_⟩
       ·
        exact ⟨rng_le hn, by show (out.set (out.length - 1) _).length ≤ j + 1; simp; omega, by show (l.drop (j + 1)).foldl mstep (out.set (out.length - 1) ⟨z.lo, _⟩) = _; rw [← hJ, drop_cons hn, List.foldl_cons, mstep_in hz (by first | omega | (simp at *; omega))]⟩
       ·
        exact ent_k [] rfl rfl (.cons rfl (k_arr rfl (by simp)) <| .cons rfl (k_i (by simp)) <| .cons rfl (k_eq rfl) <| .nil) (obs_cons rfl (ko_arr (by simp [D.upd, wrD, List.map_set])) obs_nil) rfl
       ·
        show l.length - (j + 1) < l.length - j; have := rng_le hn; omega
      ·
       refine awp_region mixed ?_
       refine xlz (o_mv rfl rfl rfl) ?_
       refine xlz (o_mv rfl rfl rfl) ?_
       refine xlz (o_mv rfl rfl rfl) ?_
       refine xlz (o_ixN (j) rfl rfl rfl rfl ty49 (by first | rfl | omega | (simp; done) | (simp; omega)) hn ty78) ?_
       refine xlz (op_loadCA rfl rfl rfl ty78 rfl (xlb rfl)) ?_
       refine xlz (o_bs rfl rfl rfl rfl rfl ty49 ty78 rfl rfl) ?_
       refine xlz (op_appendR rfl rfl (by decide) (.inr ⟨_, rfl, rfl, rfl⟩) rfl rfl rfl ty49 ty78 rfl (by decide) (by first | exact cl_map fun _ => rfl | exact cl_one rfl | exact cl_take (cl_drop (cl_map fun _ => rfl)) | exact cl_app (cl_one rfl) (cl_take (cl_drop (cl_map fun _ => rfl))) | exact cl_app (cl_map fun _ => rfl) (cl_one rfl)) (by simp) (by simp; omega) (by simp; omega)) ?_
       refine xlz (o_as rfl rfl rfl) ?_
       refine lendF ?_
       refine awp_region mixed ?_
       refine xlz (o_mv rfl rfl rfl) ?_
       refine xlz (o_add rfl rfl rfl rfl (by first | omega | (simp; omega) | (simp at *; omega))) ?_
       refine xlz (o_as rfl rfl rfl) ?_
       refine lendF ?_
       refine ⟨(j + 1, out ++ [x]), ?_, ?_, ?_⟩
       ·
        exact ⟨rng_le hn, by show (out ++ [x]).length ≤ j + 1; simp; omega, by show (l.drop (j + 1)).foldl mstep (out ++ [x]) = _; rw [← hJ, drop_cons hn, List.foldl_cons]; first | rw [mstep_nil (by first | omega | (simp at *; omega))] | rw [mstep_out hz (by first | omega | (simp at *; omega))]⟩
       ·
        exact ent_k [(500063, 111)] rfl rfl (.cons rfl (k_arr rfl (by simp)) <| .cons rfl (k_i (by simp)) <| .cons rfl (k_eq rfl) <| .nil) (obs_cons rfl (ko_arr (by simp; rfl)) obs_nil) rfl
       ·
        show l.length - (j + 1) < l.length - j; have := rng_le hn; omega
     ·
      have ho0 : ¬ 0 < out.length := by have := (g10 hg7); simp at this; simp [this]
      refine lskip rfl hg7 rfl ?_
      refine lskip rfl hg7 rfl ?_
      refine lskip rfl hg7 rfl ?_
      refine lskip rfl hg7 rfl ?_
      refine lskip rfl hg7 rfl ?_
      refine lskip rfl hg7 rfl ?_
      refine lskip rfl hg7 rfl ?_
      refine lskip rfl hg7 rfl ?_
      refine lskip rfl hg7 rfl ?_
      refine lskip rfl hg7 rfl ?_
      refine lskip rfl hg7 rfl ?_
      refine lskip rfl hg7 rfl ?_
      refine xlz (o_pF rfl rfl (g10 hg7) rfl rfl) ?_
      refine lend (fun _ => by kernel_rfl) ?_
      refine awp_condF rfl rfl rfl ?_
      refine awp_region mixed ?_
      refine xlz (o_mv rfl rfl rfl) ?_
      refine xlz (o_mv rfl rfl rfl) ?_
      refine xlz (o_mv rfl rfl rfl) ?_
      refine xlz (o_ixN (j) rfl rfl rfl rfl ty49 (by first | rfl | omega | (simp; done) | (simp; omega)) hn ty78) ?_
      refine xlz (op_loadCA rfl rfl rfl ty78 rfl (xlb rfl)) ?_
      refine xlz (o_bs rfl rfl rfl rfl rfl ty49 ty78 rfl rfl) ?_
      refine xlz (op_appendR rfl rfl (by decide) (.inr ⟨_, rfl, rfl, rfl⟩) rfl rfl rfl ty49 ty78 rfl (by decide) (by first | exact cl_map fun _ => rfl | exact cl_one rfl | exact cl_take (cl_drop (cl_map fun _ => rfl)) | exact cl_app (cl_one rfl) (cl_take (cl_drop (cl_map fun _ => rfl))) | exact cl_app (cl_map fun _ => rfl) (cl_one rfl)) (by simp) (by simp; omega) (by simp; omega)) ?_
      refine xlz (o_as rfl rfl rfl) ?_
      refine lendF ?_
      refine awp_region mixed ?_
      refine xlz (o_mv rfl rfl rfl) ?_
      refine xlz (o_add rfl rfl rfl rfl (by first | omega | (simp; omega) | (simp at *; omega))) ?_
      refine xlz (o_as rfl rfl rfl) ?_
      refine lendF ?_
      refine ⟨(j + 1, out ++ [x]), ?_, ?_, ?_⟩
      ·
       exact ⟨rng_le hn, by show (out ++ [x]).length ≤ j + 1; simp; omega, by show (l.drop (j + 1)).foldl mstep (out ++ [x]) = _; rw [← hJ, drop_cons hn, List.foldl_cons]; first | rw [mstep_nil (by first | omega | (simp at *; omega))] | rw [mstep_out hz (by first | omega | (simp at *; omega))]⟩
      ·
       exact ent_k [(500063, 111)] rfl rfl (.cons rfl (k_arr rfl (by simp)) <| .cons rfl (k_i (by simp)) <| .cons rfl (k_eq rfl) <| .nil) (obs_cons rfl (ko_arr (by simp; rfl)) obs_nil) rfl
      ·
       show l.length - (j + 1) < l.length - j; have := rng_le hn; omega
    ·
     obtain rfl := rng_ge (l := l) (by simpa using hc6) hj
     refine awp_exit ?_
     refine xsr ?_
     refine xlz (o_mv rfl rfl rfl) ?_
     refine xlz (o_as rfl rfl rfl) ?_
     refine lendF ?_
     refine awp_ret ?_
     refine ⟨[_], ⟨rfl, trivial⟩, ?_⟩
     exact ent_fz1 (ds := out.map Span.d) rfl (by simp) (by rw [← hJ, List.drop_length]; simp [List.take_of_length_le])

end Go.Pm

namespace Go.Pm
open Go.Proofs

set_option maxRecDepth 10000 in
theorem c95 (l : List Req) (hl : l.length < 4611686018427387904) (hq : ∀ q ∈ l, q.Sm) : Fn PR 95 [.d (reqsD l)] [] [.d (I (checkReqs l))] [] := by
 refine fn_of_awp Tryz.func95 rfl (N := 58) rfl ?_
 refine xsr ?_
 refine las rfl rfl rfl rfl rfl ?_
 refine lendF ?_
 refine awp_seq ?_
 refine xsr ?_
 refine lmv rfl rfl rfl rfl rfl ?_
 refine xlz (o_lenE (n := l.length) rfl rfl rfl ty26 (by simp)) ?_
 refine xlz (op_binI rfl rfl rfl rfl rfl (.inl rfl) rfl) ?_
 refine lendF ?_
 refine awp_cond rfl rfl (fun hc1 => ?_) (fun hc1 => ?_)
 ·
  have h16 : l.length > 16 := by have := hc1; simp at this; omega
  refine xsr ?_
  refine las rfl rfl rfl rfl rfl ?_
  refine lendF ?_
  refine awp_ret ?_
  refine ⟨[_], ⟨rfl, trivial⟩, ?_⟩
  exact ent_i rfl (by rw [checkReqs, if_pos h16])
 ·
  have h16 : ¬ l.length > 16 := by have := hc1; simp at this; omega
  refine awp_skip ?_
  refine awp_seq ?_
  refine xsr ?_
  refine las rfl rfl rfl rfl rfl ?_
  refine lendF ?_
  refine awp_block ?_
  refine awp_loop (fun i => ⟨58, [(3, .d (I (i : Nat))), (0, .d (reqsD l))], []⟩) (fun i => l.length - i) (fun i => i ≤ l.length ∧ reqsE (prevQ l i) (l.drop i) = reqsE none l) 0 ?_ ?_ ?_
  ·
   exact ent_k [] rfl rfl ((by repeat (first | exact .nil | refine xkc ?_))) obs_nil rfl
  ·
   exact ⟨Nat.zero_le _, rfl⟩
  ·
   rintro i ⟨hi, hI⟩
   refine awp_seq ?_
   refine xsr ?_
   iterate 2 refine lmv rfl rfl rfl rfl rfl ?_
   refine xlz (o_lenE (n := l.length) rfl rfl rfl ty26 (by simp)) ?_
   refine xlz (op_binI rfl rfl rfl rfl rfl (.inl rfl) rfl) ?_
   refine lendF ?_
   refine awp_cond rfl rfl (fun hc2 => ?_) (fun hc2 => ?_)
   ·
    obtain ⟨x, hn⟩ := rng_lt (l := l) (by simpa using hc2)
    have hlt := rng_le hn
    have hmem := List.mem_of_getElem? hn
    refine awp_skip ?_
    refine awp_seq ?_
    refine awp_block ?_
    refine awp_seq ?_
    refine xsr ?_
    iterate 2 refine lmv rfl rfl rfl rfl rfl ?_
    refine xlz (o_ixN (i) rfl rfl rfl rfl ty26 (by first | rfl | omega | (simp; done) | (simp; omega)) hn ty51) ?_
    refine xlz (op_fieldC rfl rfl rfl fl51_0) ?_
    refine xlz (op_loadC1 rfl rfl rfl ty9 rfl rfl) ?_
    refine xlz (o_call (c73 x.path (by have := (hq x hmem).path; omega)) rfl rfl rfl ca73 rfl rfl) ?_
    refine xlz (op_binI rfl rfl rfl rfl rfl (.inl rfl) rfl) ?_
    refine lendF ?_
    refine awp_cond rfl rfl (fun hc3 => ?_) (fun hc3 => ?_)
    ·
     have hmj : majN x.path < 0 := by simpa using hc3
     refine xsr ?_
     refine las rfl rfl rfl rfl rfl ?_
     refine lendF ?_
     refine awp_ret ?_
     refine ⟨[_], ⟨rfl, trivial⟩, ?_⟩
     first | exact ent_i rfl (reqsE_stop hI h16 hn (reqE_1 hmj) (by decide)) | exact ent_i rfl (reqsE_stop hI h16 hn (reqE_2 hmj hcs) (by decide)) | exact ent_i rfl (reqsE_stop hI h16 hn (reqE_3 hmj hcs hod) (by decide)) | exact ent_i rfl (reqsE_end hI h16)
    ·
     have hmj : ¬ majN x.path < 0 := by simpa using hc3
     refine awp_skip ?_
     refine awp_seq ?_
     refine xsr ?_
     iterate 2 refine lmv rfl rfl rfl rfl rfl ?_
     refine xlz (o_ixN (i) rfl rfl rfl rfl ty26 (by first | rfl | omega | (simp; done) | (simp; omega)) hn ty51) ?_
     refine xlz (op_fieldC rfl rfl rfl fl51_1) ?_
     refine xlz (op_loadC1 rfl rfl rfl ty49 rfl rfl) ?_
     refine xlz (o_lenE (n := x.set.length) rfl rfl rfl ty49 (by simp)) ?_
     refine xlz (op_binI rfl rfl rfl rfl rfl (.inl rfl) rfl) ?_
     refine lmv rfl rfl rfl rfl rfl ?_
     refine lsplit rfl (fun hg4 => ?_) (fun hg4 => ?_)
     ·
      have hs0 : ¬ x.set.length = 0 := by have := (g01 hg4); simp at this; simp [this]
      iterate 2 refine gmv hg4 rfl rfl rfl rfl rfl ?_
      refine lg (o_ixN (i) rfl rfl rfl rfl ty26 (by first | rfl | omega | (simp; done) | (simp; omega)) hn ty51) rfl hg4 rfl rfl ?_
      refine lg (op_fieldC rfl rfl rfl fl51_1) rfl hg4 rfl rfl ?_
      refine lg (op_loadC1 rfl rfl rfl ty49 rfl rfl) rfl hg4 rfl rfl ?_
      iterate 2 refine gmv hg4 rfl rfl rfl rfl rfl ?_
      refine lg (o_ixN (i) rfl rfl rfl rfl ty26 (by first | rfl | omega | (simp; done) | (simp; omega)) hn ty51) rfl hg4 rfl rfl ?_
      refine lg (op_fieldC rfl rfl rfl fl51_1) rfl hg4 rfl rfl ?_
      refine lg (op_loadC1 rfl rfl rfl ty49 rfl rfl) rfl hg4 rfl rfl ?_
      refine lg (o_call (c88 x.set (hq x hmem).set) rfl rfl rfl ca88 rfl rfl) rfl hg4 rfl rfl ?_
      refine lg (o_call (c42 x.set (canonS x.set) (by have := (hq x hmem).set; omega)) rfl rfl rfl ca42 rfl rfl) rfl hg4 rfl rfl ?_
      refine lg (op_not rfl rfl rfl) rfl hg4 rfl rfl ?_
      refine xlz (o_pF rfl rfl (g01 hg4) rfl rfl) ?_
      refine lend (fun _ => by kernel_rfl) ?_
      refine awp_cond rfl rfl (fun hc5 => ?_) (fun hc5 => ?_)
      ·
       have hcs : x.set.length = 0 ∨ x.set ≠ canonS x.set := .inr (by have := hc5; simp at this; exact this)
       refine xsr ?_
       refine las rfl rfl rfl rfl rfl ?_
       refine lendF ?_
       refine awp_ret ?_
       refine ⟨[_], ⟨rfl, trivial⟩, ?_⟩
       first | exact ent_i rfl (reqsE_stop hI h16 hn (reqE_1 hmj) (by decide)) | exact ent_i rfl (reqsE_stop hI h16 hn (reqE_2 hmj hcs) (by decide)) | exact ent_i rfl (reqsE_stop hI h16 hn (reqE_3 hmj hcs hod) (by decide)) | exact ent_i rfl (reqsE_end hI h16)
      ·
       have hcs : ¬ (x.set.length = 0 ∨ x.set ≠ canonS x.set) := by (have h := hc5); simp at h; rintro (h1 | h1); (exact hs0 h1); (exact h1 h)
       refine awp_skip ?_
       refine xsr ?_
       refine lmv rfl rfl rfl rfl rfl ?_
       refine xlz (op_binI rfl rfl rfl rfl rfl (.inl rfl) rfl) ?_
       refine lmv rfl rfl rfl rfl rfl ?_
       refine lsplit rfl (fun hg6 => ?_) (fun hg6 => ?_)
       ·
        have hi0 : 0 < i := by have := (g11 hg6); simp at this; omega
        obtain ⟨y, hy⟩ : ∃ y, l[i - 1]? = some y := ⟨_, List.getElem?_eq_getElem (by omega)⟩
        have hpv := prevQ_pos hi0 hy
        iterate 2 refine gmv hg6 rfl rfl rfl rfl rfl ?_
        refine lg (o_ixN (i) rfl rfl rfl rfl ty26 (by first | rfl | omega | (simp; done) | (simp; omega)) hn ty51) rfl hg6 rfl rfl ?_
        refine lg (op_fieldC rfl rfl rfl fl51_0) rfl hg6 rfl rfl ?_
        refine lg (op_loadC1 rfl rfl rfl ty9 rfl rfl) rfl hg6 rfl rfl ?_
        iterate 2 refine gmv hg6 rfl rfl rfl rfl rfl ?_
        refine lg (o_sub rfl rfl rfl rfl (by first | omega | (simp; omega) | (simp at *; omega))) rfl hg6 rfl rfl ?_
        refine lg (o_ixN ((i - 1)) rfl rfl rfl rfl ty26 (by first | rfl | omega | (simp; done) | (simp; omega)) hy ty51) rfl hg6 rfl rfl ?_
        refine lg (op_fieldC rfl rfl rfl fl51_0) rfl hg6 rfl rfl ?_
        refine lg (op_loadC1 rfl rfl rfl ty9 rfl rfl) rfl hg6 rfl rfl ?_
        refine lg (op_binS rfl rfl rfl rfl rfl (fun h => by first | cases h | (simp; omega)) rfl) rfl hg6 rfl rfl ?_
        refine xlz (o_pT rfl rfl (g11 hg6) rfl rfl) ?_
        refine lend (fun _ => by kernel_rfl) ?_
        refine awp_cond rfl rfl (fun hc7 => ?_) (fun hc7 => ?_)
        ·
         have hod := ordE_1 (q := x) hpv (b := false) (by have := hc7; rw [bytesLe_not] at this; simpa using this)
         refine xsr ?_
         refine las rfl rfl rfl rfl rfl ?_
         refine lendF ?_
         refine awp_ret ?_
         refine ⟨[_], ⟨rfl, trivial⟩, ?_⟩
         first | exact ent_i rfl (reqsE_stop hI h16 hn (reqE_1 hmj) (by decide)) | exact ent_i rfl (reqsE_stop hI h16 hn (reqE_2 hmj hcs) (by decide)) | exact ent_i rfl (reqsE_stop hI h16 hn (reqE_3 hmj hcs hod) (by decide)) | exact ent_i rfl (reqsE_end hI h16)
        ·
         have hod := ordE_1 (q := x) hpv (b := true) (by have := hc7; rw [bytesLe_not] at this; simpa using this)
         refine awp_skip ?_
         refine awp_region mixed ?_
         refine lmv rfl rfl rfl rfl rfl ?_
         refine xlz (o_add rfl rfl rfl rfl (by first | omega | (simp; omega) | (simp at *; omega))) ?_
         refine las rfl rfl rfl rfl rfl ?_
         refine lendF ?_
         refine ⟨i + 1, ?_, ?_, ?_⟩
         ·
          exact ⟨rng_le hn, reqsE_next hI hn (reqE_0 hmj hcs hod)⟩
         ·
          exact ent_k [] rfl rfl ((by repeat (first | exact .nil | refine xkc ?_))) obs_nil rfl
         ·
          omega
       ·
        have hi0 : i = 0 := by have := (g10 hg6); simp at this; omega
        have hod := ordE_0 (q := x) (l := l) hi0
        iterate 12 refine lskip rfl hg6 rfl ?_
        refine xlz (o_pF rfl rfl (g10 hg6) rfl rfl) ?_
        refine lend (fun _ => by kernel_rfl) ?_
        refine awp_condF rfl rfl rfl ?_
        refine awp_skip ?_
        refine awp_region mixed ?_
        refine lmv rfl rfl rfl rfl rfl ?_
        refine xlz (o_add rfl rfl rfl rfl (by first | omega | (simp; omega) | (simp at *; omega))) ?_
        refine las rfl rfl rfl rfl rfl ?_
        refine lendF ?_
        refine ⟨i + 1, ?_, ?_, ?_⟩
        ·
         exact ⟨rng_le hn, reqsE_next hI hn (reqE_0 hmj hcs hod)⟩
        ·
         exact ent_k [] rfl rfl ((by repeat (first | exact .nil | refine xkc ?_))) obs_nil rfl
        ·
         omega
     ·
      have hcs : x.set.length = 0 ∨ x.set ≠ canonS x.set := .inl (by have := (g00 hg4); simp at this; simp [this])
      iterate 13 refine lskip rfl hg4 rfl ?_
      refine xlz (o_pT rfl rfl (g00 hg4) rfl rfl) ?_
      refine lend (fun _ => by kernel_rfl) ?_
      refine awp_condT rfl rfl rfl ?_
      refine xsr ?_
      refine las rfl rfl rfl rfl rfl ?_
      refine lendF ?_
      refine awp_ret ?_
      refine ⟨[_], ⟨rfl, trivial⟩, ?_⟩
      first | exact ent_i rfl (reqsE_stop hI h16 hn (reqE_1 hmj) (by decide)) | exact ent_i rfl (reqsE_stop hI h16 hn (reqE_2 hmj hcs) (by decide)) | exact ent_i rfl (reqsE_stop hI h16 hn (reqE_3 hmj hcs hod) (by decide)) | exact ent_i rfl (reqsE_end hI h16)
   ·
    obtain rfl := rng_ge (l := l) (by simpa using hc2) hi
    refine awp_exit ?_
    refine xsr ?_
    refine las rfl rfl rfl rfl rfl ?_
    refine lendF ?_
    refine awp_ret ?_
    refine ⟨[_], ⟨rfl, trivial⟩, ?_⟩
    first | exact ent_i rfl (reqsE_stop hI h16 hn (reqE_1 hmj) (by decide)) | exact ent_i rfl (reqsE_stop hI h16 hn (reqE_2 hmj hcs) (by decide)) | exact ent_i rfl (reqsE_stop hI h16 hn (reqE_3 hmj hcs hod) (by decide)) | exact ent_i rfl (reqsE_end hI h16)

set_option maxRecDepth 10000 in
theorem c59 (r : Rls) (hr : r.Sm) : Fn PR 59 [.d r.d] [] [.d (I (relE r))] [] := by
 refine fn_of_awp Tryz.func59 rfl (N := 43) rfl ?_
 refine xsr ?_
 refine xlz (op_box rfl rfl (by decide) rfl rfl) ?_
 refine las rfl rfl rfl rfl rfl ?_
 refine lendF ?_
 refine xsr ?_
 refine xlz (op_fieldP rfl rfl rfl fl40_0) ?_
 refine xlz (op_load1 rfl rfl rfl rfl ty9 rfl rfl) ?_
 refine xlz (o_call (c73 r.path (by have := hr.path; omega)) rfl rfl rfl ca73 rfl rfl) ?_
 refine las rfl rfl rfl rfl rfl ?_
 refine lendF ?_
 refine awp_seq ?_
 refine xsr ?_
 refine lmv rfl rfl rfl rfl rfl ?_
 refine xlz (op_binI rfl rfl rfl rfl rfl (.inl rfl) rfl) ?_
 refine lendF ?_
 refine awp_cond rfl rfl (fun hc1 => ?_) (fun hc1 => ?_)
 ·
  have hmj : majN r.path < 0 := by simpa using hc1
  refine xsr ?_
  refine las rfl rfl rfl rfl rfl ?_
  refine lendF ?_
  refine awp_ret ?_
  refine ⟨[_], ⟨rfl, trivial⟩, ?_⟩
  first | exact ent_i rfl (relE_1 hmj).symm | exact ent_i rfl (relE_2 hmj hv).symm | exact ent_i rfl (relE_3 hmj hv hrq).symm | exact ent_i rfl (relE_4 hmj hv hrq (c := false) (by simp_all)).symm | exact ent_i rfl (relE_4 hmj hv hrq (c := true) (by simp_all)).symm
 ·
  have hmj : ¬ majN r.path < 0 := by simpa using hc1
  refine awp_skip ?_
  refine awp_seq ?_
  refine xsr ?_
  refine xlz (op_fieldP rfl rfl rfl fl40_1) ?_
  refine xlz (o_ldA rfl rfl rfl rfl ty38 rfl (xlb rfl) rfl) ?_
  refine xlz (o_call (c94 r.ver) rfl rfl rfl ca94 rfl rfl) ?_
  refine xlz (op_not rfl rfl rfl) ?_
  refine lmv rfl rfl rfl rfl rfl ?_
  refine lsplit rfl (fun hg2 => ?_) (fun hg2 => ?_)
  ·
   have hok : r.ver.ok = true := by have := (g01 hg2); simpa using this
   refine lg (op_fieldP rfl rfl rfl fl40_1) rfl hg2 rfl rfl ?_
   refine lg (op_fieldP rfl rfl rfl fl38_0) rfl hg2 rfl rfl ?_
   refine lg (op_load1 rfl rfl rfl rfl ty3 rfl rfl) rfl hg2 rfl rfl ?_
   refine gmv hg2 rfl rfl rfl rfl rfl ?_
   refine lg (op_binI rfl rfl rfl rfl rfl (.inl rfl) rfl) rfl hg2 rfl rfl ?_
   refine xlz (o_pF rfl rfl (g01 hg2) rfl rfl) ?_
   refine lendF ?_
   refine awp_cond rfl rfl (fun hc3 => ?_) (fun hc3 => ?_)
   ·
    have hv : r.ver.ok = false ∨ r.ver.maj ≠ majN r.path := .inr (by simpa using hc3)
    refine xsr ?_
    refine las rfl rfl rfl rfl rfl ?_
    refine lendF ?_
    refine awp_ret ?_
    refine ⟨[_], ⟨rfl, trivial⟩, ?_⟩
    first | exact ent_i rfl (relE_1 hmj).symm | exact ent_i rfl (relE_2 hmj hv).symm | exact ent_i rfl (relE_3 hmj hv hrq).symm | exact ent_i rfl (relE_4 hmj hv hrq (c := false) (by simp_all)).symm | exact ent_i rfl (relE_4 hmj hv hrq (c := true) (by simp_all)).symm
   ·
    have hv : ¬ (r.ver.ok = false ∨ r.ver.maj ≠ majN r.path) := by (have h := hc3); simp at h; simp [hok, h]
    refine awp_skip ?_
    refine awp_seq ?_
    refine xsr ?_
    refine xlz (op_fieldP rfl rfl rfl fl40_2) ?_
    refine xlz (op_load1 rfl rfl rfl rfl ty26 rfl rfl) ?_
    refine xlz (o_call (c95 r.reqs hr.len hr.reqs) rfl rfl rfl ca95 rfl rfl) ?_
    refine las rfl rfl rfl rfl rfl ?_
    refine lendF ?_
    refine xsr ?_
    refine lmv rfl rfl rfl rfl rfl ?_
    refine xlz (op_binI rfl rfl rfl rfl rfl (.inl rfl) rfl) ?_
    refine lendF ?_
    refine awp_cond rfl rfl (fun hc4 => ?_) (fun hc4 => ?_)
    ·
     have hrq : checkReqs r.reqs ≠ 0 := by simpa using hc4
     refine xsr ?_
     refine lmv rfl rfl rfl rfl rfl ?_
     refine las rfl rfl rfl rfl rfl ?_
     refine lendF ?_
     refine awp_ret ?_
     refine ⟨[_], ⟨rfl, trivial⟩, ?_⟩
     first | exact ent_i rfl (relE_1 hmj).symm | exact ent_i rfl (relE_2 hmj hv).symm | exact ent_i rfl (relE_3 hmj hv hrq).symm | exact ent_i rfl (relE_4 hmj hv hrq (c := false) (by simp_all)).symm | exact ent_i rfl (relE_4 hmj hv hrq (c := true) (by simp_all)).symm
    ·
     have hrq : checkReqs r.reqs = 0 := by simpa using hc4
     refine awp_skip ?_
     refine awp_seq ?_
     refine xsr ?_
     refine xlz (op_fieldP rfl rfl rfl fl40_3) ?_
     refine xlz (op_load1 rfl rfl rfl rfl ty9 rfl rfl) ?_
     refine xlz (o_call (c96 r.arch) rfl rfl rfl ca96 rfl rfl) ?_
     refine xlz (op_not rfl rfl rfl) ?_
     refine lmv rfl rfl rfl rfl rfl ?_
     refine lsplit rfl (fun hg5 => ?_) (fun hg5 => ?_)
     ·
      have hd1 : isDig r.arch = true := by (have h : (!isDig r.arch) = false := (g01 hg5)); simpa using h
      refine lg (op_fieldP rfl rfl rfl fl40_4) rfl hg5 rfl rfl ?_
      refine lg (op_load1 rfl rfl rfl rfl ty9 rfl rfl) rfl hg5 rfl rfl ?_
      refine lg (o_call (c96 r.iface) rfl rfl rfl ca96 rfl rfl) rfl hg5 rfl rfl ?_
      refine lg (op_not rfl rfl rfl) rfl hg5 rfl rfl ?_
      refine xlz (o_pF rfl rfl (g01 hg5) rfl rfl) ?_
      refine lmv rfl rfl rfl rfl rfl ?_
      refine lsplit rfl (fun hg6 => ?_) (fun hg6 => ?_)
      ·
       have hd2 : isDig r.iface = true := by (have h : (!isDig r.iface) = false := (g01 hg6)); simpa using h
       refine lg (op_fieldP rfl rfl rfl fl40_5) rfl hg6 rfl rfl ?_
       refine lg (op_load1 rfl rfl rfl rfl ty9 rfl rfl) rfl hg6 rfl rfl ?_
       refine lg (o_call (c96 r.cert) rfl rfl rfl ca96 rfl rfl) rfl hg6 rfl rfl ?_
       refine lg (op_not rfl rfl rfl) rfl hg6 rfl rfl ?_
       refine xlz (o_pF rfl rfl (g01 hg6) rfl rfl) ?_
       refine lendF ?_
       refine awp_cond rfl rfl (fun hc7 => ?_) (fun hc7 => ?_)
       ·
        have hd3 : isDig r.cert = false := by (have h : (!isDig r.cert) = true := hc7); simpa using h
        refine xsr ?_
        refine las rfl rfl rfl rfl rfl ?_
        refine lendF ?_
        refine awp_ret ?_
        refine ⟨[_], ⟨rfl, trivial⟩, ?_⟩
        first | exact ent_i rfl (relE_1 hmj).symm | exact ent_i rfl (relE_2 hmj hv).symm | exact ent_i rfl (relE_3 hmj hv hrq).symm | exact ent_i rfl (relE_4 hmj hv hrq (c := false) (by simp_all)).symm | exact ent_i rfl (relE_4 hmj hv hrq (c := true) (by simp_all)).symm
       ·
        have hd3 : isDig r.cert = true := by (have h : (!isDig r.cert) = false := hc7); simpa using h
        refine awp_skip ?_
        refine xsr ?_
        refine las rfl rfl rfl rfl rfl ?_
        refine lendF ?_
        refine awp_ret ?_
        refine ⟨[_], ⟨rfl, trivial⟩, ?_⟩
        first | exact ent_i rfl (relE_1 hmj).symm | exact ent_i rfl (relE_2 hmj hv).symm | exact ent_i rfl (relE_3 hmj hv hrq).symm | exact ent_i rfl (relE_4 hmj hv hrq (c := false) (by simp_all)).symm | exact ent_i rfl (relE_4 hmj hv hrq (c := true) (by simp_all)).symm
      ·
       have hd2 : isDig r.iface = false := by (have h : (!isDig r.iface) = true := (g00 hg6)); simpa using h
       iterate 4 refine lskip rfl hg6 rfl ?_
       refine xlz (o_pT rfl rfl (g00 hg6) rfl rfl) ?_
       refine lendF ?_
       refine awp_condT rfl rfl rfl ?_
       refine xsr ?_
       refine las rfl rfl rfl rfl rfl ?_
       refine lendF ?_
       refine awp_ret ?_
       refine ⟨[_], ⟨rfl, trivial⟩, ?_⟩
       first | exact ent_i rfl (relE_1 hmj).symm | exact ent_i rfl (relE_2 hmj hv).symm | exact ent_i rfl (relE_3 hmj hv hrq).symm | exact ent_i rfl (relE_4 hmj hv hrq (c := false) (by simp_all)).symm | exact ent_i rfl (relE_4 hmj hv hrq (c := true) (by simp_all)).symm
     ·
      have hd1 : isDig r.arch = false := by (have h : (!isDig r.arch) = true := (g00 hg5)); simpa using h
      iterate 4 refine lskip rfl hg5 rfl ?_
      refine xlz (o_pT rfl rfl (g00 hg5) rfl rfl) ?_
      refine lmv rfl rfl rfl rfl rfl ?_
      iterate 4 refine lskip rfl rfl rfl ?_
      refine xlz (o_pT rfl rfl rfl rfl rfl) ?_
      refine lendF ?_
      refine awp_condT rfl rfl rfl ?_
      refine xsr ?_
      refine las rfl rfl rfl rfl rfl ?_
      refine lendF ?_
      refine awp_ret ?_
      refine ⟨[_], ⟨rfl, trivial⟩, ?_⟩
      first | exact ent_i rfl (relE_1 hmj).symm | exact ent_i rfl (relE_2 hmj hv).symm | exact ent_i rfl (relE_3 hmj hv hrq).symm | exact ent_i rfl (relE_4 hmj hv hrq (c := false) (by simp_all)).symm | exact ent_i rfl (relE_4 hmj hv hrq (c := true) (by simp_all)).symm
  ·
   have hv : r.ver.ok = false ∨ r.ver.maj ≠ majN r.path := .inl (by have := (g00 hg2); simpa using this)
   iterate 5 refine lskip rfl hg2 rfl ?_
   refine xlz (o_pT rfl rfl (g00 hg2) rfl rfl) ?_
   refine lendF ?_
   refine awp_condT rfl rfl rfl ?_
   refine xsr ?_
   refine las rfl rfl rfl rfl rfl ?_
   refine lendF ?_
   refine awp_ret ?_
   refine ⟨[_], ⟨rfl, trivial⟩, ?_⟩
   first | exact ent_i rfl (relE_1 hmj).symm | exact ent_i rfl (relE_2 hmj hv).symm | exact ent_i rfl (relE_3 hmj hv hrq).symm | exact ent_i rfl (relE_4 hmj hv hrq (c := false) (by simp_all)).symm | exact ent_i rfl (relE_4 hmj hv hrq (c := true) (by simp_all)).symm

end Go.Pm

namespace Go.Pm
open Go.Proofs

set_option maxRecDepth 10000 in
set_option maxHeartbeats 4000000 in
theorem c17 (r : Rls) (hr : r.Sm) : Fn PR 17 [.d r.d] [] [.d (.str (if checkI [r] = 0 then manT r else [])), .d (I (checkI [r]))] [] := by
 refine fn_of_awp Tryz.func17 rfl (N := 89) rfl ?_
 refine xsr ?_
 refine xlz (op_box rfl rfl (by decide) rfl rfl) ?_
 iterate 2 refine las rfl rfl rfl rfl rfl ?_
 refine lendF ?_
 refine awp_seq ?_
 refine xsr ?_
 refine xlz (o_ldA rfl rfl rfl rfl ty40 rfl (xlb rfl) rfl) ?_
 refine xlz (o_bs rfl rfl rfl rfl rfl ty22 ty40 rfl rfl) ?_
 refine xlz (o_bld rfl rfl rfl bl25 ty25 zk25 rfl rfl rfl) ?_
 refine xlz (o_call (c22 ⟨[r], []⟩ (by simp) (by simpa using hr)) rfl rfl rfl ca22 rfl rfl) ?_
 refine las rfl rfl rfl rfl rfl ?_
 refine lendF ?_
 refine xsr ?_
 refine lmv rfl rfl rfl rfl rfl ?_
 refine xlz (op_binI rfl rfl rfl rfl rfl (.inl rfl) rfl) ?_
 refine lendF ?_
 refine awp_cond rfl rfl (fun hc1 => ?_) (fun hc1 => ?_)
 ·
  have h0 : ¬ checkI [r] = 0 := by simpa using hc1
  refine xsr ?_
  refine lmv rfl rfl rfl rfl rfl ?_
  iterate 2 refine las rfl rfl rfl rfl rfl ?_
  refine lendF ?_
  refine awp_ret ?_
  refine ⟨[_, _], ⟨rfl, rfl, trivial⟩, ?_⟩
  exact ent_d2 rfl (by rw [if_neg h0]) rfl rfl
 ·
  have h0 : checkI [r] = 0 := by simpa using hc1
  have he : relE r = 0 := checkI_ok h0 r (by simp)
  obtain ⟨_, hok, _, _, ha, hb, hd⟩ := relE_all he
  have hvb := ok_bounds hok
  have ha := isDig_len ha
  have hb := isDig_len hb
  have hd := isDig_len hd
  have hq := relE_reqs he
  have hh := headT_len hr he
  have hh1 : (textsS [r.path]).length ≤ 200000 := by simp only [headT, List.length_append] at hh; omega
  have hh2 : (textsS [r.path] ++ intsS [r.ver.min, r.ver.pat, if r.yank then 1 else 0]).length ≤ 200000 := by simp only [headT, List.length_append] at hh ⊢; omega
  have hh3 : (textsS [r.path] ++ intsS [r.ver.min, r.ver.pat, if r.yank then 1 else 0] ++ textsS [r.arch, r.iface, r.cert]).length ≤ 200000 := by simp only [headT, List.length_append] at hh ⊢; omega
  refine awp_skip ?_
  refine xsr ?_
  refine xlz (op_alloc rfl rfl (by decide) ty9 zk9 rfl) ?_
  refine xlz (op_store rfl rfl rfl rfl rfl rfl ty9 rfl (xlb rfl)) ?_
  refine lendF ?_
  refine xsr ?_
  refine xlz (op_fn rfl rfl rfl rfl rfl) ?_
  refine las rfl rfl rfl rfl rfl ?_
  refine lendF ?_
  refine xsr ?_
  refine xlz (op_fn rfl rfl rfl rfl rfl) ?_
  refine las rfl rfl rfl rfl rfl ?_
  refine lendF ?_
  refine xsr ?_
  refine lmv rfl rfl rfl rfl rfl ?_
  refine xlz (op_fieldP rfl rfl rfl fl40_0) ?_
  refine xlz (op_load1 rfl rfl rfl rfl ty9 rfl rfl) ?_
  refine xlz (o_bsD rfl rfl rfl rfl rfl ty71 ty9 rfl rfl) ?_
  refine xlz (o_callW [5] 26 (c57 [r.path] [] (by simp) (by simp; have := hr.path; omega) (by simp only [List.length_nil]; omega)) rfl rfl rfl ca57 rfl (by decide) (handOK_cons (by decide) (by decide) rfl rfl handOK_nil) rfl rfl rfl rfl) ?_
  refine lendF ?_
  refine xsr ?_
  refine las rfl rfl rfl rfl rfl ?_
  refine lendF ?_
  refine awp_joinX (fun _ : Unit => ⟨89, [(8, .d (I (if r.yank then 1 else 0 : Int))), (1, .ptr 1 0), (5, .ptr 5 0), (6, .fn (.func 55) [] [.ptr 5 0]), (7, .fn (.func 57) [] [.ptr 5 0])], [(5, .cells [.d (.str (textsS [r.path]))]), (1, .cells [.d (.str r.path), .d (I r.ver.maj), .d (I r.ver.min), .d (I r.ver.pat), .d (reqsD r.reqs), .d (.str r.arch), .d (.str r.iface), .d (.str r.cert), .d (.bool r.yank)])]⟩) (fun _ : Unit => True) ?_ ?_
  ·
   refine xsr ?_
   refine xlz (op_fieldP rfl rfl rfl fl40_6) ?_
   refine xlz (op_load1 rfl rfl rfl rfl ty4 rfl rfl) ?_
   refine lendF ?_
   refine awp_cond rfl rfl (fun hc2 => ?_) (fun hc2 => ?_)
   ·
    refine awp_region mixed ?_
    refine las rfl rfl rfl rfl rfl ?_
    refine lendF ?_
    refine ⟨(), ?_, ?_⟩
    ·
     exact True.intro
    ·
     exact ent_k [] rfl rfl (.cons rfl (k_i (by simp_all)) <| (by repeat (first | exact .nil | refine xkc ?_))) (obs_cons rfl (o_eq rfl) (obs_cons rfl (o_eq rfl) obs_nil)) rfl
   ·
    refine awp_skip ?_
    refine ⟨(), ?_, ?_⟩
    ·
     exact True.intro
    ·
     exact ent_k [] rfl rfl (.cons rfl (k_i (by simp_all)) <| (by repeat (first | exact .nil | refine xkc ?_))) (obs_cons rfl (o_eq rfl) (obs_cons rfl (o_eq rfl) obs_nil)) rfl
  ·
   rintro _ _
   refine xsr ?_
   refine lmv rfl rfl rfl rfl rfl ?_
   refine xlz (op_fieldP rfl rfl rfl fl40_1) ?_
   refine xlz (op_fieldP rfl rfl rfl fl38_1) ?_
   refine xlz (op_load1 rfl rfl rfl rfl ty3 rfl rfl) ?_
   refine xlz (op_fieldP rfl rfl rfl fl40_1) ?_
   refine xlz (op_fieldP rfl rfl rfl fl38_2) ?_
   refine xlz (op_load1 rfl rfl rfl rfl ty3 rfl rfl) ?_
   refine lmv rfl rfl rfl rfl rfl ?_
   refine xlz (o_bsD rfl rfl rfl rfl rfl ty96 ty3 rfl rfl) ?_
   refine xlz (o_callW [5] 38 (c55 [r.ver.min, r.ver.pat, if r.yank then 1 else 0] (textsS [r.path]) (by simp) (by simp; refine ⟨by omega, by omega, by split <;> omega⟩) (by rw [← List.length_append]; omega)) rfl rfl rfl ca55 rfl (by decide) (handOK_cons (by decide) (by decide) rfl rfl handOK_nil) rfl rfl rfl rfl) ?_
   refine lendF ?_
   refine xsr ?_
   refine lmv rfl rfl rfl rfl rfl ?_
   refine xlz (op_fieldP rfl rfl rfl fl40_3) ?_
   refine xlz (op_load1 rfl rfl rfl rfl ty9 rfl rfl) ?_
   refine xlz (op_fieldP rfl rfl rfl fl40_4) ?_
   refine xlz (op_load1 rfl rfl rfl rfl ty9 rfl rfl) ?_
   refine xlz (op_fieldP rfl rfl rfl fl40_5) ?_
   refine xlz (op_load1 rfl rfl rfl rfl ty9 rfl rfl) ?_
   refine xlz (o_bsD rfl rfl rfl rfl rfl ty71 ty9 rfl rfl) ?_
   refine xlz (o_callW [5] 47 (c57 [r.arch, r.iface, r.cert] (textsS [r.path] ++ intsS [r.ver.min, r.ver.pat, if r.yank then 1 else 0]) (by simp) (by simp; omega) (by rw [← List.length_append]; omega)) rfl rfl rfl ca57 rfl (by decide) (handOK_cons (by decide) (by decide) rfl rfl handOK_nil) rfl rfl rfl rfl) ?_
   refine lendF ?_
   refine xsr ?_
   refine lmv rfl rfl rfl rfl rfl ?_
   refine xlz (op_fieldP rfl rfl rfl fl40_2) ?_
   refine xlz (op_load1 rfl rfl rfl rfl ty26 rfl rfl) ?_
   refine xlz (o_lenE (n := r.reqs.length) rfl rfl rfl ty26 (by simp)) ?_
   refine xlz (o_bsD rfl rfl rfl rfl rfl ty96 ty3 rfl rfl) ?_
   refine xlz (o_callW [5] 53 (c55 [(r.reqs.length : Int)] (textsS [r.path] ++ intsS [r.ver.min, r.ver.pat, if r.yank then 1 else 0] ++ textsS [r.arch, r.iface, r.cert]) (by simp) (by simp; omega) (by rw [← List.length_append]; exact Nat.lt_of_le_of_lt hh (by omega))) rfl rfl rfl ca55 rfl (by decide) (handOK_cons (by decide) (by decide) rfl rfl handOK_nil) rfl rfl rfl rfl) ?_
   refine lendF ?_
   refine awp_seq ?_
   refine xsr ?_
   refine xlz (op_fieldP rfl rfl rfl fl40_2) ?_
   refine xlz (op_load1 rfl rfl rfl rfl ty26 rfl rfl) ?_
   refine xlz (o_lenE (n := r.reqs.length) rfl rfl rfl ty26 (by simp)) ?_
   refine lmv rfl rfl rfl rfl rfl ?_
   refine lendF ?_
   refine awp_block ?_
   refine awp_loop (fun i => ⟨89, [(57, .d (I (i : Nat))), (5, .ptr 5 0), (6, .fn (.func 55) [] [.ptr 5 0]), (7, .fn (.func 57) [] [.ptr 5 0]), (55, .d (reqsD r.reqs)), (56, .d (I r.reqs.length))], [(5, .cells [.d (.str (headT r ++ (r.reqs.take i).flatMap reqT))])]⟩) (fun i => r.reqs.length - i) (fun i => i ≤ r.reqs.length) 0 ?_ ?_ ?_
   ·
    exact ent_k [] rfl rfl ((by repeat (first | exact .nil | refine xkc ?_))) (obs_cons rfl (.cells (.cons (k_s (by simp [headT])) .nil)) obs_nil) rfl
   ·
    exact Nat.zero_le _
   ·
    rintro i hi
    refine xsr ?_
    refine xlz (op_binI rfl rfl rfl rfl rfl (.inl rfl) rfl) ?_
    refine lendF ?_
    refine awp_seq ?_
    refine awp_cond rfl rfl (fun hc3 => ?_) (fun hc3 => ?_)
    ·
     obtain ⟨z, hn⟩ := rng_lt (l := r.reqs) (by simpa using hc3)
     have hlt := rng_le hn
     have hmem := List.mem_of_getElem? hn
     have hpre := man_pre hr he hn
     have hzs := hr.reqs z hmem
     have hzp := hzs.path
     have hzl := hzs.set
     have hzb := relE_sets he z hmem
     have hp1 : (headT r ++ (r.reqs.take i).flatMap reqT ++ textsS [z.path]).length ≤ 600000000 := by simp only [reqT, List.length_append] at hpre ⊢; omega
     have hp2 : (headT r ++ (r.reqs.take i).flatMap reqT ++ textsS [z.path] ++ intsS [(z.set.length : Int)]).length ≤ 600000000 := by simp only [reqT, List.length_append] at hpre ⊢; omega
     refine awp_skip ?_
     refine awp_seq ?_
     refine awp_block ?_
     refine xsr ?_
     refine xlz (o_ixN (i) rfl rfl rfl rfl ty26 (by first | rfl | omega | (simp; done) | (simp; omega)) hn ty51) ?_
     refine xlz (op_loadCA rfl rfl rfl ty51 rfl (xlb rfl)) ?_
     refine xlz (op_alloc rfl rfl (by decide) ty51 zk51 rfl) ?_
     refine xlz (op_store rfl rfl rfl rfl rfl rfl ty51 rfl (xlb rfl)) ?_
     refine lendF ?_
     refine xsr ?_
     refine lmv rfl rfl rfl rfl rfl ?_
     refine xlz (op_fieldP rfl rfl rfl fl51_0) ?_
     refine xlz (op_load1 rfl rfl rfl rfl ty9 rfl rfl) ?_
     refine xlz (o_bsD rfl rfl rfl rfl rfl ty71 ty9 rfl rfl) ?_
     refine xlz (o_callW [5] 65 (c57 [z.path] (headT r ++ (r.reqs.take i).flatMap reqT) (by simp) (by simp; omega) (by rw [← List.length_append]; omega)) rfl rfl rfl ca57 rfl (by decide) (handOK_cons (by decide) (by decide) rfl rfl handOK_nil) rfl rfl rfl rfl) ?_
     refine lendF ?_
     refine xsr ?_
     refine lmv rfl rfl rfl rfl rfl ?_
     refine xlz (op_fieldP rfl rfl rfl fl51_1) ?_
     refine xlz (op_load1 rfl rfl rfl rfl ty49 rfl rfl) ?_
     refine xlz (o_lenE (n := z.set.length) rfl rfl rfl ty49 (by simp)) ?_
     refine xlz (o_bsD rfl rfl rfl rfl rfl ty96 ty3 rfl rfl) ?_
     refine xlz (o_callW [5] 71 (c55 [(z.set.length : Int)] (headT r ++ (r.reqs.take i).flatMap reqT ++ textsS [z.path]) (by simp) (by simp; omega) (by rw [← List.length_append]; omega)) rfl rfl rfl ca55 rfl (by decide) (handOK_cons (by decide) (by decide) rfl rfl handOK_nil) rfl rfl rfl rfl) ?_
     refine lendF ?_
     refine xsr ?_
     refine xlz (op_fieldP rfl rfl rfl fl51_1) ?_
     refine xlz (op_load1 rfl rfl rfl rfl ty49 rfl rfl) ?_
     refine xlz (o_lenE (n := z.set.length) rfl rfl rfl ty49 (by simp)) ?_
     refine lmv rfl rfl rfl rfl rfl ?_
     refine lendF ?_
     refine awp_block ?_
     refine awp_loop (fun k => ⟨89, [(75, .d (I (k : Nat))), (5, .ptr 5 0), (6, .fn (.func 55) [] [.ptr 5 0]), (7, .fn (.func 57) [] [.ptr 5 0]), (10, .ptr 10 0), (55, .d (reqsD r.reqs)), (56, .d (I r.reqs.length)), (57, .d (I (i : Nat))), (60, .d (.agg [.str z.path, setD z.set])), (61, .fn (.func 57) [] [.ptr 5 0]), (62, .ptr 10 0), (63, .d (.str z.path)), (64, .d (.list [.str z.path])), (66, .fn (.func 55) [] [.ptr 5 0]), (67, .ptr 10 1), (68, .d (setD z.set)), (69, .d (I z.set.length)), (70, .d (.list [I z.set.length])), (72, .ptr 10 1), (73, .d (setD z.set)), (74, .d (I z.set.length))], [(5, .cells [.d (.str (headT r ++ (r.reqs.take i).flatMap reqT ++ textsS [z.path] ++ intsS [(z.set.length : Int)] ++ (z.set.take k).flatMap (fun y => intsS [y.lo, y.hi])))]), (10, .cells [.d (.str z.path), .d (setD z.set)])]⟩) (fun k => z.set.length - k) (fun k => k ≤ z.set.length) 0 ?_ ?_ ?_
     ·
      exact ent_k [] rfl rfl ((by repeat (first | exact .nil | refine xkc ?_))) (obs_cons rfl (.cells (.cons (k_s (by simp)) .nil)) (obs_cons rfl (o_eq rfl) obs_nil)) rfl
     ·
      exact Nat.zero_le _
     ·
      rintro k hk
      refine xsr ?_
      refine xlz (op_binI rfl rfl rfl rfl rfl (.inl rfl) rfl) ?_
      refine lendF ?_
      refine awp_seq ?_
      refine awp_cond rfl rfl (fun hc4 => ?_) (fun hc4 => ?_)
      ·
       obtain ⟨y, hm⟩ := rng_lt (l := z.set) (by simpa using hc4)
       have hlt2 := rng_le hm
       have hyb := hzb y (List.mem_of_getElem? hm)
       have hp3 : (headT r ++ (r.reqs.take i).flatMap reqT ++ textsS [z.path] ++ intsS [(z.set.length : Int)] ++ (z.set.take k).flatMap (fun y => intsS [y.lo, y.hi]) ++ intsS [y.lo, y.hi]).length ≤ 600000000 := by have := flat_take (fun y : Span => intsS [y.lo, y.hi]) hm; simp only [reqT, List.length_append] at hpre this ⊢; omega
       refine awp_skip ?_
       refine awp_seq ?_
       refine awp_block ?_
       refine xsr ?_
       refine xlz (o_ixN (k) rfl rfl rfl rfl ty49 (by first | rfl | omega | (simp; done) | (simp; omega)) hm ty78) ?_
       refine xlz (op_loadCA rfl rfl rfl ty78 rfl (xlb rfl)) ?_
       refine xlz (op_alloc rfl rfl (by decide) ty78 zk78 rfl) ?_
       refine xlz (op_store rfl rfl rfl rfl rfl rfl ty78 rfl (xlb rfl)) ?_
       refine lendF ?_
       refine awp_region mixed ?_
       refine lmv rfl rfl rfl rfl rfl ?_
       refine xlz (op_fieldP rfl rfl rfl fl78_0) ?_
       refine xlz (op_load1 rfl rfl rfl rfl ty3 rfl rfl) ?_
       refine xlz (op_fieldP rfl rfl rfl fl78_1) ?_
       refine xlz (op_load1 rfl rfl rfl rfl ty3 rfl rfl) ?_
       refine xlz (o_bsD rfl rfl rfl rfl rfl ty96 ty3 rfl rfl) ?_
       refine xlz (o_callW [5] 85 (c55 [y.lo, y.hi] (headT r ++ (r.reqs.take i).flatMap reqT ++ textsS [z.path] ++ intsS [(z.set.length : Int)] ++ (z.set.take k).flatMap (fun y => intsS [y.lo, y.hi])) (by simp) (by simp; omega) (by rw [← List.length_append]; omega)) rfl rfl rfl ca55 rfl (by decide) (handOK_cons (by decide) (by decide) rfl rfl handOK_nil) rfl rfl rfl rfl) ?_
       refine lendF ?_
       refine awp_region mixed ?_
       refine xlz (o_add rfl rfl rfl rfl (by first | omega | (simp; omega) | (simp at *; omega))) ?_
       refine lmv rfl rfl rfl rfl rfl ?_
       refine lendF ?_
       refine ⟨k + 1, ?_, ?_, ?_⟩
       ·
        exact rng_le hm
       ·
        exact ent_k [] rfl rfl ((by repeat (first | exact .nil | refine xkc ?_))) (obs_cons rfl (.cells (.cons (k_s (by rw [take_succ hm]; simp)) .nil)) (obs_cons rfl (o_eq rfl) obs_nil)) rfl
       ·
        omega
      ·
       obtain rfl := rng_ge (l := z.set) (by simpa using hc4) hk
       refine awp_exit ?_
       refine awp_region mixed ?_
       refine xlz (o_add rfl rfl rfl rfl (by first | omega | (simp; omega) | (simp at *; omega))) ?_
       refine lmv rfl rfl rfl rfl rfl ?_
       refine lendF ?_
       refine ⟨i + 1, ?_, ?_, ?_⟩
       ·
        exact rng_le hn
       ·
        exact ent_k [] rfl rfl ((by repeat (first | exact .nil | refine xkc ?_))) (obs_cons rfl (.cells (.cons (k_s (by rw [take_succ hn]; simp [reqT])) .nil)) obs_nil) rfl
       ·
        omega
    ·
     obtain rfl := rng_ge (l := r.reqs) (by simpa using hc3) hi
     refine awp_exit ?_
     refine xsr ?_
     refine xlz (op_load1 rfl rfl rfl rfl ty9 rfl rfl) ?_
     iterate 2 refine las rfl rfl rfl rfl rfl ?_
     refine lendF ?_
     refine awp_ret ?_
     refine ⟨[_, _], ⟨rfl, rfl, trivial⟩, ?_⟩
     exact ent_d2 rfl (by rw [if_pos h0]; simp [manT]) rfl (by rw [h0])

end Go.Pm

namespace Go.Pm
open Go.Proofs

set_option maxRecDepth 10000 in
set_option maxHeartbeats 4000000 in
theorem c19 (m : Bytes) (hm : m.length ≤ 100000) : Fn PR 19 [.d (.str m)] [] [.d (readI m).1.d, .d (I (readI m).2)] [] := by
 refine fn_of_awp Tryz.func19 rfl (N := 91) rfl ?_
 refine xsr ?_
 refine xlz (op_alloc rfl rfl (by decide) ty40 zk40 rfl) ?_
 refine las rfl rfl rfl rfl rfl ?_
 refine lendF ?_
 refine xsr ?_
 refine lmv rfl rfl rfl rfl rfl ?_
 refine xlz (o_callX (p := .ptr 6011 0) (news := [6011]) (upd := [(6011, some (.cells [.d (.str m), .d (I 0), .d (I 0)]))]) [] 11 (c63 m) rfl rfl rfl ca63 rfl (by decide) handOK_nil rfl rfl rfl rfl (by kernel_rfl) (by kernel_rfl) (by kernel_rfl)) ?_
 refine las rfl rfl rfl rfl rfl ?_
 refine lendF ?_
 refine awp_joinX (fun _ : Unit => ⟨91, [(5, .ptr 5 0), (4, .ptr 6011 0), (0, .d (.str m)), (2, .ptr 2 0)], [(5, .cells [.d (.str (rd1 m).1), .d (I 0), .d (I 0), .d (I 0), .nils, .d (.str []), .d (.str []), .d (.str []), .d (.bool false)]), (6011, (rd1 m).2.ob), (2, .cells [.d (.str []), .d (I 0), .d (I 0), .d (I 0), .nils, .d (.str []), .d (.str []), .d (.str []), .d (.bool false)])]⟩) (fun _ : Unit => True) ?_ ?_
 ·
  refine awp_region mixed ?_
  refine lmv rfl rfl rfl rfl rfl ?_
  refine xlz (o_callX (p := .d (.str (rd1 m).1)) (news := []) (upd := [(6011, some ((rd1 m).2.ob))]) [6011] 13 (c64 ⟨m, 0, 0⟩ (by show m.length < _; omega) (Nat.zero_le _)) rfl rfl rfl ca64 rfl (by decide) (handOK_cons (by decide) (by decide) rfl rfl handOK_nil) rfl rfl rfl rfl (by kernel_rfl) (by kernel_rfl) (by kernel_rfl)) ?_
  refine xlz (o_bldP rfl rfl rfl bl40 ty40 zk40 rfl rfl) ?_
  refine xlz (op_alloc rfl rfl (by decide) ty40 zk40 rfl) ?_
  refine xlz (op_storeX [.d (.str (rd1 m).1), .d (I 0), .d (I 0), .d (I 0), .nils, .d (.str []), .d (.str []), .d (.str []), .d (.bool false)] rfl rfl rfl rfl rfl rfl ty40 rfl (xlb rfl) (by kernel_rfl)) ?_
  refine lendF ?_
  refine ⟨(), ?_, ?_⟩
  ·
   exact True.intro
  ·
   exact ent_k [] rfl rfl ((by repeat (first | exact .nil | refine xkc ?_))) (obs_cons rfl (.cells (by repeat (first | exact .nil | refine .cons (by first | exact k_eq rfl | exact .same _ | exact k_i (by rw [majN_eq hp]; simp [hp])) ?_))) (obs_cons rfl (o_eq rfl) (obs_cons rfl (o_eq rfl) obs_nil))) rfl
 ·
  rintro _ _
  refine xsr ?_
  refine xlz (op_fieldP rfl rfl rfl fl40_0) ?_
  refine xlz (op_load1 rfl rfl rfl rfl ty9 rfl rfl) ?_
  refine xlz (o_call (c65 (rd1 m).1 (Nat.le_trans (text_len (m := m) (r := ⟨m, 0, 0⟩) ⟨rfl, Nat.zero_le _⟩) hm)) rfl rfl rfl ca65 rfl rfl) ?_
  refine lmv rfl rfl rfl rfl rfl ?_
  refine xlz (op_extract rfl rfl rfl rfl) ?_
  refine xlz (op_extract rfl rfl rfl rfl) ?_
  refine xlz (op_extract rfl rfl rfl rfl) ?_
  iterate 3 refine las rfl rfl rfl rfl rfl ?_
  refine lendF ?_
  refine awp_seq ?_
  refine xsr ?_
  refine lmv rfl rfl rfl rfl rfl ?_
  refine xlz (op_binI rfl rfl rfl rfl rfl (.inl rfl) rfl) ?_
  refine lendF ?_
  refine awp_cond rfl rfl (fun hc1 => ?_) (fun hc1 => ?_)
  ·
   have hp : isPath (rd1 m).1 = false := by (have h := hc1); split at h; (simp at h); (rename_i h2; simpa using h2)
   have hmj := majN_no hp
   have hb : readB m := .inl hmj
   refine xsr ?_
   refine xlz (o_bld rfl rfl rfl bl40 ty40 zk40 rfl rfl rfl) ?_
   refine xlz (op_storeX [.d (.str []), .d (I 0), .d (I 0), .d (I 0), .d (.list []), .d (.str []), .d (.str []), .d (.str []), .d (.bool false)] rfl rfl rfl rfl rfl rfl ty40 rfl (xlb rfl) (by kernel_rfl)) ?_
   refine las rfl rfl rfl rfl rfl ?_
   refine lendF ?_
   refine awp_ret ?_
   refine ⟨[_, _], ⟨⟨_, _, _, _, _, _, _, rfl, rfl, ty40, (xlb rfl), rfl⟩, rfl, trivial⟩, ?_⟩
   first | exact ent_d2 rfl (by rw [readI, if_pos hb] <;> rfl) rfl (by rw [readI, if_pos hb] <;> rfl) | exact ent_d2 rfl (by rw [readI, if_neg hb] <;> rfl) rfl (by rw [readI, if_neg hb] <;> rfl)
  ·
   have hp : isPath (rd1 m).1 = true := by (have h := hc1); split at h; (assumption); (simp at h)
   have hmj := majN_yes hp
   have hme := majN_eq hp
   refine awp_skip ?_
   refine awp_joinX (fun _ : Unit => ⟨91, [(5, .ptr 5 0), (4, .ptr 6011 0), (0, .d (.str m)), (2, .ptr 2 0)], [(5, .cells [.d (.str (rd1 m).1), .d (I (majN (rd1 m).1)), .d (I (rd2 m).1), .d (I (rd3 m).1), .nils, .d (.str []), .d (.str []), .d (.str []), .d (.bool false)]), (6011, (rd3 m).2.ob), (2, .cells [.d (.str []), .d (I 0), .d (I 0), .d (I 0), .nils, .d (.str []), .d (.str []), .d (.str []), .d (.bool false)])]⟩) (fun _ : Unit => True) ?_ ?_
   ·
    refine awp_region mixed ?_
    iterate 2 refine lmv rfl rfl rfl rfl rfl ?_
    refine xlz (o_callX (p := .d (I (rd2 m).1)) (news := []) (upd := [(6011, some ((rd2 m).2.ob))]) [6011] 27 (c66 (rd1 m).2 ((in1 m).hs hm) (in1 m).hp) rfl rfl rfl ca66 rfl (by decide) (handOK_cons (by decide) (by decide) rfl rfl handOK_nil) rfl rfl rfl rfl (by kernel_rfl) (by kernel_rfl) (by kernel_rfl)) ?_
    refine lmv rfl rfl rfl rfl rfl ?_
    refine xlz (o_callX (p := .d (I (rd3 m).1)) (news := []) (upd := [(6011, some ((rd3 m).2.ob))]) [6011] 29 (c66 (rd2 m).2 ((in2 m).hs hm) (in2 m).hp) rfl rfl rfl ca66 rfl (by decide) (handOK_cons (by decide) (by decide) rfl rfl handOK_nil) rfl rfl rfl rfl (by kernel_rfl) (by kernel_rfl) (by kernel_rfl)) ?_
    refine xlz (o_bld rfl rfl rfl bl38 ty38 zk38 rfl rfl rfl) ?_
    refine xlz (op_fieldP rfl rfl rfl fl40_1) ?_
    refine xlz (op_storeX [.d (.str (rd1 m).1), .d (I (if isPath (rd1 m).1 then (majorF (rd1 m).1).1 else 0)), .d (I (rd2 m).1), .d (I (rd3 m).1), .nils, .d (.str []), .d (.str []), .d (.str []), .d (.bool false)] rfl rfl rfl rfl rfl rfl ty38 rfl (xlb rfl) (by kernel_rfl)) ?_
    refine lendF ?_
    refine ⟨(), ?_, ?_⟩
    ·
     exact True.intro
    ·
     exact ent_k [] rfl rfl ((by repeat (first | exact .nil | refine xkc ?_))) (obs_cons rfl (.cells (by repeat (first | exact .nil | refine .cons (by first | exact k_eq rfl | exact .same _ | exact k_i (by rw [majN_eq hp]; simp [hp])) ?_))) (obs_cons rfl (o_eq rfl) (obs_cons rfl (o_eq rfl) obs_nil))) rfl
   ·
    rintro _ _
    refine awp_joinX (fun _ : Unit => ⟨91, [(5, .ptr 5 0), (4, .ptr 6011 0), (0, .d (.str m)), (2, .ptr 2 0)], [(5, .cells [.d (.str (rd1 m).1), .d (I (majN (rd1 m).1)), .d (I (rd2 m).1), .d (I (rd3 m).1), .nils, .d (.str []), .d (.str []), .d (.str []), .d (.bool ((rd4 m).1 == 1))]), (6011, (rd4 m).2.ob), (2, .cells [.d (.str []), .d (I 0), .d (I 0), .d (I 0), .nils, .d (.str []), .d (.str []), .d (.str []), .d (.bool false)])]⟩) (fun _ : Unit => True) ?_ ?_
    ·
     refine awp_region mixed ?_
     refine lmv rfl rfl rfl rfl rfl ?_
     refine xlz (o_callX (p := .d (I (rd4 m).1)) (news := []) (upd := [(6011, some ((rd4 m).2.ob))]) [6011] 33 (c67 (rd3 m).2 1 ((in3 m).hs hm) (in3 m).hp) rfl rfl rfl ca67 rfl (by decide) (handOK_cons (by decide) (by decide) rfl rfl handOK_nil) rfl rfl rfl rfl (by kernel_rfl) (by kernel_rfl) (by kernel_rfl)) ?_
     refine xlz (op_binI rfl rfl rfl rfl rfl (.inl rfl) rfl) ?_
     refine xlz (op_fieldP rfl rfl rfl fl40_6) ?_
     refine xlz (op_storeX [.d (.str (rd1 m).1), .d (I (majN (rd1 m).1)), .d (I (rd2 m).1), .d (I (rd3 m).1), .nils, .d (.str []), .d (.str []), .d (.str []), .d (.bool ((rd4 m).1 == 1))] rfl rfl rfl rfl rfl rfl ty4 rfl (xlb rfl) (by kernel_rfl)) ?_
     refine lendF ?_
     refine ⟨(), ?_, ?_⟩
     ·
      exact True.intro
     ·
      exact ent_k [] rfl rfl ((by repeat (first | exact .nil | refine xkc ?_))) (obs_cons rfl (.cells (by repeat (first | exact .nil | refine .cons (by first | exact k_eq rfl | exact .same _ | exact k_i (by rw [majN_eq hp]; simp [hp])) ?_))) (obs_cons rfl (o_eq rfl) (obs_cons rfl (o_eq rfl) obs_nil))) rfl
    ·
     rintro _ _
     refine awp_joinX (fun _ : Unit => ⟨91, [(5, .ptr 5 0), (4, .ptr 6011 0), (0, .d (.str m)), (2, .ptr 2 0)], [(5, .cells [.d (.str (rd1 m).1), .d (I (majN (rd1 m).1)), .d (I (rd2 m).1), .d (I (rd3 m).1), .nils, .d (.str (rd5 m).1), .d (.str (rd6 m).1), .d (.str (rd7 m).1), .d (.bool ((rd4 m).1 == 1))]), (6011, (rd7 m).2.ob), (2, .cells [.d (.str []), .d (I 0), .d (I 0), .d (I 0), .nils, .d (.str []), .d (.str []), .d (.str []), .d (.bool false)])]⟩) (fun _ : Unit => True) ?_ ?_
     ·
      refine awp_region mixed ?_
      refine lmv rfl rfl rfl rfl rfl ?_
      refine xlz (o_callX (p := .d (.str (rd5 m).1)) (news := []) (upd := [(6011, some ((rd5 m).2.ob))]) [6011] 37 (c64 (rd4 m).2 ((in4 m).hs hm) (in4 m).hp) rfl rfl rfl ca64 rfl (by decide) (handOK_cons (by decide) (by decide) rfl rfl handOK_nil) rfl rfl rfl rfl (by kernel_rfl) (by kernel_rfl) (by kernel_rfl)) ?_
      refine lmv rfl rfl rfl rfl rfl ?_
      refine xlz (o_callX (p := .d (.str (rd6 m).1)) (news := []) (upd := [(6011, some ((rd6 m).2.ob))]) [6011] 39 (c64 (rd5 m).2 ((in5 m).hs hm) (in5 m).hp) rfl rfl rfl ca64 rfl (by decide) (handOK_cons (by decide) (by decide) rfl rfl handOK_nil) rfl rfl rfl rfl (by kernel_rfl) (by kernel_rfl) (by kernel_rfl)) ?_
      refine lmv rfl rfl rfl rfl rfl ?_
      refine xlz (o_callX (p := .d (.str (rd7 m).1)) (news := []) (upd := [(6011, some ((rd7 m).2.ob))]) [6011] 41 (c64 (rd6 m).2 ((in6 m).hs hm) (in6 m).hp) rfl rfl rfl ca64 rfl (by decide) (handOK_cons (by decide) (by decide) rfl rfl handOK_nil) rfl rfl rfl rfl (by kernel_rfl) (by kernel_rfl) (by kernel_rfl)) ?_
      refine xlz (op_fieldP rfl rfl rfl fl40_3) ?_
      refine xlz (op_storeX [.d (.str (rd1 m).1), .d (I (majN (rd1 m).1)), .d (I (rd2 m).1), .d (I (rd3 m).1), .nils, .d (.str (rd5 m).1), .d (.str []), .d (.str []), .d (.bool ((rd4 m).1 == 1))] rfl rfl rfl rfl rfl rfl ty9 rfl (xlb rfl) (by kernel_rfl)) ?_
      refine xlz (op_fieldP rfl rfl rfl fl40_4) ?_
      refine xlz (op_storeX [.d (.str (rd1 m).1), .d (I (majN (rd1 m).1)), .d (I (rd2 m).1), .d (I (rd3 m).1), .nils, .d (.str (rd5 m).1), .d (.str (rd6 m).1), .d (.str []), .d (.bool ((rd4 m).1 == 1))] rfl rfl rfl rfl rfl rfl ty9 rfl (xlb rfl) (by kernel_rfl)) ?_
      refine xlz (op_fieldP rfl rfl rfl fl40_5) ?_
      refine xlz (op_storeX [.d (.str (rd1 m).1), .d (I (majN (rd1 m).1)), .d (I (rd2 m).1), .d (I (rd3 m).1), .nils, .d (.str (rd5 m).1), .d (.str (rd6 m).1), .d (.str (rd7 m).1), .d (.bool ((rd4 m).1 == 1))] rfl rfl rfl rfl rfl rfl ty9 rfl (xlb rfl) (by kernel_rfl)) ?_
      refine lendF ?_
      refine ⟨(), ?_, ?_⟩
      ·
       exact True.intro
      ·
       exact ent_k [] rfl rfl ((by repeat (first | exact .nil | refine xkc ?_))) (obs_cons rfl (.cells (by repeat (first | exact .nil | refine .cons (by first | exact k_eq rfl | exact .same _ | exact k_i (by rw [majN_eq hp]; simp [hp])) ?_))) (obs_cons rfl (o_eq rfl) (obs_cons rfl (o_eq rfl) obs_nil))) rfl
     ·
      rintro _ _
      refine awp_seq ?_
      refine xsr ?_
      refine lmv rfl rfl rfl rfl rfl ?_
      refine xlz (o_callX (p := .d (I (rd8 m).1)) (news := []) (upd := [(6011, some ((rd8 m).2.ob))]) [6011] 46 (c67 (rd7 m).2 16 ((in7 m).hs hm) (in7 m).hp) rfl rfl rfl ca67 rfl (by decide) (handOK_cons (by decide) (by decide) rfl rfl handOK_nil) rfl rfl rfl rfl (by kernel_rfl) (by kernel_rfl) (by kernel_rfl)) ?_
      refine lmv rfl rfl rfl rfl rfl ?_
      refine lendF ?_
      refine awp_block ?_
      refine awp_ent (ent_tailc 5 4 500076 2 rfl rfl rfl (by decide) rfl) ?_
      refine awp_loop (fun i => ⟨91, [(47, .d (I (i : Nat))), (46, .d (I (rd8 m).1)), (5, .ptr 5 0), (4, .ptr 6011 0), (0, .d (.str m)), (2, .ptr 2 0)], [(5, .cells [.d (.str (rd1 m).1), .d (I (majN (rd1 m).1)), .d (I (rd2 m).1), .d (I (rd3 m).1), .tl ((qI m.length (rd8 m).2 i).1.map Req.d) (some 500076), .d (.str (rd5 m).1), .d (.str (rd6 m).1), .d (.str (rd7 m).1), .d (.bool ((rd4 m).1 == 1))]), (500076, .tail 2), (6011, (qI m.length (rd8 m).2 i).2.ob), (2, .cells [.d (.str []), .d (I 0), .d (I 0), .d (I 0), .nils, .d (.str []), .d (.str []), .d (.str []), .d (.bool false)])]⟩) (fun i => (rd8 m).1.toNat - i) (fun i => i ≤ (rd8 m).1.toNat) 0 ?_ ?_ ?_
      ·
       exact ent_k [] rfl rfl ((by repeat (first | exact .nil | refine xkc ?_))) (obs_cons rfl (.cells (by repeat (first | exact .nil | refine .cons (by first | exact k_eq rfl | exact .same _ | exact k_i (by rw [majN_eq hp]; simp [hp])) ?_))) (obs_cons rfl (o_eq rfl) (obs_cons rfl (o_eq rfl) (obs_cons rfl (o_eq rfl) obs_nil)))) rfl
      ·
       exact Nat.zero_le _
      ·
       rintro i hi
       refine xsr ?_
       refine xlz (op_binI rfl rfl rfl rfl rfl (.inl rfl) rfl) ?_
       refine lendF ?_
       refine awp_seq ?_
       refine awp_cond rfl rfl (fun hc2 => ?_) (fun hc2 => ?_)
       ·
        have h8 := cnt8 m
        have hlt : i < (rd8 m).1.toNat := by (have h : decide ((i : Int) < (rd8 m).1) = true := hc2); simp at h; omega
        refine awp_skip ?_
        refine awp_seq ?_
        refine awp_block ?_
        refine xsr ?_
        refine lmv rfl rfl rfl rfl rfl ?_
        refine xlz (o_callX (p := .d (.str ((qI m.length (rd8 m).2 i).2.text).1)) (news := []) (upd := [(6011, some (((qI m.length (rd8 m).2 i).2.text).2.ob))]) [6011] 50 (c64 (qI m.length (rd8 m).2 i).2 ((qI_in (in8 m) m.length i).hs hm) (qI_in (in8 m) m.length i).hp) rfl rfl rfl ca64 rfl (by decide) (handOK_cons (by decide) (by decide) rfl rfl handOK_nil) rfl rfl rfl rfl (by kernel_rfl) (by kernel_rfl) (by kernel_rfl)) ?_
        refine xlz (o_bldP rfl rfl rfl bl51 ty51 zk51 rfl rfl) ?_
        refine xlz (op_alloc rfl rfl (by decide) ty51 zk51 rfl) ?_
        refine xlz (op_storeX [.d (.str (qI m.length (rd8 m).2 i).2.text.1), .nils] rfl rfl rfl rfl rfl rfl ty51 rfl (xlb rfl) (by kernel_rfl)) ?_
        refine lendF ?_
        refine awp_seq ?_
        refine xsr ?_
        iterate 2 refine lmv rfl rfl rfl rfl rfl ?_
        refine xlz (op_lenS rfl rfl rfl ty9) ?_
        refine xlz (o_callX (p := .d (I (rdc m.length (qI m.length (rd8 m).2 i).2).1)) (news := []) (upd := [(6011, some ((rdc m.length (qI m.length (rd8 m).2 i).2).2.ob))]) [6011] 55 (c67 (qI m.length (rd8 m).2 i).2.text.2 m.length ((text_in (qI_in (in8 m) m.length i)).hs hm) (text_in (qI_in (in8 m) m.length i)).hp) rfl rfl rfl ca67 rfl (by decide) (handOK_cons (by decide) (by decide) rfl rfl handOK_nil) rfl rfl rfl rfl (by kernel_rfl) (by kernel_rfl) (by kernel_rfl)) ?_
        refine lmv rfl rfl rfl rfl rfl ?_
        refine lendF ?_
        refine awp_block ?_
        refine awp_ent (ent_tailc 9 1 500069 2 rfl rfl rfl (by decide) rfl) ?_
        refine awp_loop (fun k => ⟨91, [(56, .d (I (k : Nat))), (55, .d (I (rdc m.length (qI m.length (rd8 m).2 i).2).1)), (9, .ptr 9 0), (0, .d (.str m)), (2, .ptr 2 0), (4, .ptr 6011 0), (5, .ptr 5 0), (46, .d (I (rd8 m).1)), (47, .d (I (i : Nat))), (49, .ptr 6011 0), (50, .d (.str ((qI m.length (rd8 m).2 i).2.text).1)), (51, .agg [.d (.str (qI m.length (rd8 m).2 i).2.text.1), .nils]), (52, .ptr 6011 0), (53, .d (.str m)), (54, .d (I m.length))], [(9, .cells [.d (.str (qI m.length (rd8 m).2 i).2.text.1), .tl ((sI (rdc m.length (qI m.length (rd8 m).2 i).2).2 k).1.map Span.d) (some 500069)]), (500069, .tail 2), (6011, (sI (rdc m.length (qI m.length (rd8 m).2 i).2).2 k).2.ob), (5, .cells [.d (.str (rd1 m).1), .d (I (majN (rd1 m).1)), .d (I (rd2 m).1), .d (I (rd3 m).1), .tl ((qI m.length (rd8 m).2 i).1.map Req.d) (some 500076), .d (.str (rd5 m).1), .d (.str (rd6 m).1), .d (.str (rd7 m).1), .d (.bool ((rd4 m).1 == 1))]), (500076, .tail 2), (2, .cells [.d (.str []), .d (I 0), .d (I 0), .d (I 0), .nils, .d (.str []), .d (.str []), .d (.str []), .d (.bool false)])]⟩) (fun k => (rdc m.length (qI m.length (rd8 m).2 i).2).1.toNat - k) (fun k => k ≤ (rdc m.length (qI m.length (rd8 m).2 i).2).1.toNat) 0 ?_ ?_ ?_
        ·
         exact ent_k [] rfl rfl ((by repeat (first | exact .nil | refine xkc ?_))) (obs_cons rfl (.cells (by repeat (first | exact .nil | refine .cons (by first | exact k_eq rfl | exact .same _ | exact k_i (by rw [majN_eq hp]; simp [hp])) ?_))) (obs_cons rfl (o_eq rfl) (obs_cons rfl (o_eq rfl) (obs_cons rfl (o_eq rfl) (obs_cons rfl (o_eq rfl) (obs_cons rfl (o_eq rfl) obs_nil)))))) rfl
        ·
         exact Nat.zero_le _
        ·
         rintro k hk
         refine xsr ?_
         refine xlz (op_binI rfl rfl rfl rfl rfl (.inl rfl) rfl) ?_
         refine lendF ?_
         refine awp_seq ?_
         refine awp_cond rfl rfl (fun hc3 => ?_) (fun hc3 => ?_)
         ·
          have hcb : (rdc m.length (qI m.length (rd8 m).2 i).2).1 ≤ m.length := (count_bnd (qI m.length (rd8 m).2 i).2.text.2 m.length (by omega)).2
          have hk2 : k < (rdc m.length (qI m.length (rd8 m).2 i).2).1.toNat := by (have h : decide ((k : Int) < (rdc m.length (qI m.length (rd8 m).2 i).2).1) = true := hc3); simp at h; omega
          refine awp_skip ?_
          refine awp_seq ?_
          refine awp_block ?_
          refine awp_seq ?_
          refine xsr ?_
          refine lmv rfl rfl rfl rfl rfl ?_
          refine xlz (o_callR [6011] (c68 (sI (rdc m.length (qI m.length (rd8 m).2 i).2).2 k).2) rfl rfl rfl ca68 rfl (by decide) (handOK_cons (by decide) (by decide) rfl rfl handOK_nil) rfl) ?_
          refine xlz (op_binI rfl rfl rfl rfl rfl (.inl rfl) rfl) ?_
          refine lendF ?_
          refine awp_cond rfl rfl (fun hc4 => ?_) (fun hc4 => ?_)
          ·
           have he : (sI (rdc m.length (qI m.length (rd8 m).2 i).2).2 k).2.e ≠ 0 := by simpa using hc4
           rw [sI_stop he hk]
           refine awp_exit ?_
           refine awp_region mixed ?_
           refine xlz (op_fieldP rfl rfl rfl fl40_2) ?_
           refine xlz (op_load1 rfl rfl rfl rfl ty26 rfl rfl) ?_
           refine xlz (o_ldA rfl rfl rfl rfl ty51 rfl (xlb rfl) rfl) ?_
           refine xlz (o_bs rfl rfl rfl rfl rfl ty26 ty51 rfl rfl) ?_
           refine xlz (o_app rfl rfl (by decide) rfl rfl rfl ty26 ty51 rfl (by decide) rfl (by intro d hd; obtain ⟨x, _, rfl⟩ := List.mem_map.1 hd; rfl) (by simp [D.cells]) (by have := qI_len m.length (rd8 m).2 i; have := cnt8 m; simp; omega) (by decide) (show _ = (qI m.length (rd8 m).2 (i + 1)).1.map Req.d from by simp [qI, qstep])) ?_
           refine xlz (op_fieldP rfl rfl rfl fl40_2) ?_
           refine xlz (op_storeX [.d (.str (rd1 m).1), .d (I (majN (rd1 m).1)), .d (I (rd2 m).1), .d (I (rd3 m).1), .tl ((qI m.length (rd8 m).2 (i + 1)).1.map Req.d) (some 76), .d (.str (rd5 m).1), .d (.str (rd6 m).1), .d (.str (rd7 m).1), .d (.bool ((rd4 m).1 == 1))] rfl rfl rfl rfl rfl rfl ty26 rfl (xlb rfl) (by kernel_rfl)) ?_
           refine lendF ?_
           refine awp_region mixed ?_
           refine xlz (o_add rfl rfl rfl rfl (by first | omega | (simp; omega) | (simp at *; omega))) ?_
           refine lmv rfl rfl rfl rfl rfl ?_
           refine lendF ?_
           refine ⟨i + 1, ?_, ?_, ?_⟩
           ·
            exact hlt
           ·
            exact ent_k [(500076, 76)] rfl rfl ((by repeat (first | exact .nil | refine xkc ?_))) (obs_cons rfl (.cells (by repeat (first | exact .nil | refine .cons (by first | exact k_eq rfl | exact .same _ | exact k_i (by rw [majN_eq hp]; simp [hp])) ?_))) (obs_cons rfl (o_eq rfl) (obs_cons rfl (o_eq rfl) (obs_cons rfl (o_eq rfl) obs_nil)))) rfl
           ·
            omega
          ·
           have he : (sI (rdc m.length (qI m.length (rd8 m).2 i).2).2 k).2.e = 0 := by simpa using hc4
           refine awp_skip ?_
           refine awp_region mixed ?_
           refine xlz (op_fieldP rfl rfl rfl fl51_1) ?_
           refine xlz (op_load1 rfl rfl rfl rfl ty49 rfl rfl) ?_
           refine lmv rfl rfl rfl rfl rfl ?_
           refine xlz (o_callX (p := .d (I ((sI (rdc m.length (qI m.length (rd8 m).2 i).2).2 k).2.uint).1)) (news := []) (upd := [(6011, some (((sI (rdc m.length (qI m.length (rd8 m).2 i).2).2 k).2.uint).2.ob))]) [6011] 64 (c66 (sI (rdc m.length (qI m.length (rd8 m).2 i).2).2 k).2 ((sI_in (count_in (text_in (qI_in (in8 m) m.length i)) m.length) k).hs hm) (sI_in (count_in (text_in (qI_in (in8 m) m.length i)) m.length) k).hp) rfl rfl rfl ca66 rfl (by decide) (handOK_cons (by decide) (by decide) rfl rfl handOK_nil) rfl rfl rfl rfl (by kernel_rfl) (by kernel_rfl) (by kernel_rfl)) ?_
           refine lmv rfl rfl rfl rfl rfl ?_
           refine xlz (o_callX (p := .d (I ((sI (rdc m.length (qI m.length (rd8 m).2 i).2).2 k).2.uint.2.uint).1)) (news := []) (upd := [(6011, some (((sI (rdc m.length (qI m.length (rd8 m).2 i).2).2 k).2.uint.2.uint).2.ob))]) [6011] 66 (c66 (sI (rdc m.length (qI m.length (rd8 m).2 i).2).2 k).2.uint.2 ((uint_in (sI_in (count_in (text_in (qI_in (in8 m) m.length i)) m.length) k)).hs hm) (uint_in (sI_in (count_in (text_in (qI_in (in8 m) m.length i)) m.length) k)).hp) rfl rfl rfl ca66 rfl (by decide) (handOK_cons (by decide) (by decide) rfl rfl handOK_nil) rfl rfl rfl rfl (by kernel_rfl) (by kernel_rfl) (by kernel_rfl)) ?_
           refine xlz (o_bld rfl rfl rfl bl78 ty78 zk78 rfl rfl rfl) ?_
           refine xlz (o_bs rfl rfl rfl rfl rfl ty49 ty78 rfl rfl) ?_
           refine xlz (o_app rfl rfl (by decide) rfl rfl rfl ty49 ty78 rfl (by decide) rfl (by intro d hd; obtain ⟨x, _, rfl⟩ := List.mem_map.1 hd; rfl) (by simp [D.cells]) (by have := sI_len (rdc m.length (qI m.length (rd8 m).2 i).2).2 k; have := (count_bnd (qI m.length (rd8 m).2 i).2.text.2 m.length (by omega)).2; unfold rdc at *; simp; omega) (by decide) (show _ = (sI (rdc m.length (qI m.length (rd8 m).2 i).2).2 (k + 1)).1.map Span.d from by rw [sI_next he]; simp)) ?_
           refine xlz (op_fieldP rfl rfl rfl fl51_1) ?_
           refine xlz (op_storeX [.d (.str (qI m.length (rd8 m).2 i).2.text.1), .tl ((sI (rdc m.length (qI m.length (rd8 m).2 i).2).2 (k + 1)).1.map Span.d) (some 69)] rfl rfl rfl rfl rfl rfl ty49 rfl (xlb rfl) (by kernel_rfl)) ?_
           refine lend (fun _ => by kernel_rfl) ?_
           refine awp_region mixed ?_
           refine xlz (o_add rfl rfl rfl rfl (by first | omega | (simp; omega) | (simp at *; omega))) ?_
           refine lmv rfl rfl rfl rfl rfl ?_
           refine lendF ?_
           refine ⟨k + 1, ?_, ?_, ?_⟩
           ·
            exact hk2
           ·
            exact ent_k [(500069, 69)] rfl rfl ((by repeat (first | exact .nil | refine xkc ?_))) (obs_cons rfl (.cells (by repeat (first | exact .nil | refine .cons (by first | exact k_eq rfl | exact .same _ | exact k_i (by rw [majN_eq hp]; simp [hp])) ?_))) (obs_cons rfl (o_eq rfl) (obs_cons rfl (o_eq (by rw [sI_next he]; rfl)) (obs_cons rfl (o_eq rfl) (obs_cons rfl (o_eq rfl) (obs_cons rfl (o_eq rfl) obs_nil)))))) rfl
           ·
            omega
         ·
          obtain rfl : k = (rdc m.length (qI m.length (rd8 m).2 i).2).1.toNat := by (have h : decide ((k : Int) < (rdc m.length (qI m.length (rd8 m).2 i).2).1) = false := hc3); simp at h; omega
          refine awp_exit ?_
          refine awp_region mixed ?_
          refine xlz (op_fieldP rfl rfl rfl fl40_2) ?_
          refine xlz (op_load1 rfl rfl rfl rfl ty26 rfl rfl) ?_
          refine xlz (o_ldA rfl rfl rfl rfl ty51 rfl (xlb rfl) rfl) ?_
          refine xlz (o_bs rfl rfl rfl rfl rfl ty26 ty51 rfl rfl) ?_
          refine xlz (o_app rfl rfl (by decide) rfl rfl rfl ty26 ty51 rfl (by decide) rfl (by intro d hd; obtain ⟨x, _, rfl⟩ := List.mem_map.1 hd; rfl) (by simp [D.cells]) (by have := qI_len m.length (rd8 m).2 i; have := cnt8 m; simp; omega) (by decide) (show _ = (qI m.length (rd8 m).2 (i + 1)).1.map Req.d from by simp [qI, qstep])) ?_
          refine xlz (op_fieldP rfl rfl rfl fl40_2) ?_
          refine xlz (op_storeX [.d (.str (rd1 m).1), .d (I (majN (rd1 m).1)), .d (I (rd2 m).1), .d (I (rd3 m).1), .tl ((qI m.length (rd8 m).2 (i + 1)).1.map Req.d) (some 76), .d (.str (rd5 m).1), .d (.str (rd6 m).1), .d (.str (rd7 m).1), .d (.bool ((rd4 m).1 == 1))] rfl rfl rfl rfl rfl rfl ty26 rfl (xlb rfl) (by kernel_rfl)) ?_
          refine lendF ?_
          refine awp_region mixed ?_
          refine xlz (o_add rfl rfl rfl rfl (by first | omega | (simp; omega) | (simp at *; omega))) ?_
          refine lmv rfl rfl rfl rfl rfl ?_
          refine lendF ?_
          refine ⟨i + 1, ?_, ?_, ?_⟩
          ·
           exact hlt
          ·
           exact ent_k [(500076, 76)] rfl rfl ((by repeat (first | exact .nil | refine xkc ?_))) (obs_cons rfl (.cells (by repeat (first | exact .nil | refine .cons (by first | exact k_eq rfl | exact .same _ | exact k_i (by rw [majN_eq hp]; simp [hp])) ?_))) (obs_cons rfl (o_eq rfl) (obs_cons rfl (o_eq rfl) (obs_cons rfl (o_eq rfl) obs_nil)))) rfl
          ·
           omega
       ·
        obtain rfl : i = (rd8 m).1.toNat := by (have h : decide ((i : Int) < (rd8 m).1) = false := hc2); simp at h; omega
        refine awp_exit ?_
        refine awp_seq ?_
        refine xsr ?_
        refine lmv rfl rfl rfl rfl rfl ?_
        refine xlz (o_callR [6011] (c69 (rd9 m).2 ((in9 m).hs hm)) rfl rfl rfl ca69 rfl (by decide) (handOK_cons (by decide) (by decide) rfl rfl handOK_nil) rfl) ?_
        refine xlz (op_binI rfl rfl rfl rfl rfl (.inl rfl) rfl) ?_
        refine lmv rfl rfl rfl rfl rfl ?_
        refine lsplit rfl (fun hg5 => ?_) (fun hg5 => ?_)
        ·
         have hd : (rd9 m).2.done = 0 := by (have h := (g01 hg5)); simpa using h
         refine lg (o_ldA rfl rfl rfl rfl ty40 rfl (xlb rfl) rfl) rfl hg5 rfl rfl ?_
         refine lg (o_bs rfl rfl rfl rfl rfl ty22 ty40 rfl rfl) rfl hg5 rfl rfl ?_
         refine lg (o_bld rfl rfl rfl bl25 ty25 zk25 rfl rfl rfl) rfl hg5 rfl rfl ?_
         refine lg (o_call (c22 ⟨[outI m], []⟩ (by simp) (by simpa using out_sm m hm)) rfl rfl rfl ca22 rfl rfl) rfl hg5 rfl rfl ?_
         refine lg (op_binI rfl rfl rfl rfl rfl (.inl rfl) rfl) rfl hg5 rfl rfl ?_
         refine xlz (o_pF rfl rfl (g01 hg5) rfl rfl) ?_
         refine lendF ?_
         refine awp_cond rfl rfl (fun hc6 => ?_) (fun hc6 => ?_)
         ·
          have hb : readB m := .inr (.inr (by (have h := hc6); simpa using h))
          refine xsr ?_
          refine xlz (o_bld rfl rfl rfl bl40 ty40 zk40 rfl rfl rfl) ?_
          refine xlz (op_storeX [.d (.str []), .d (I 0), .d (I 0), .d (I 0), .d (.list []), .d (.str []), .d (.str []), .d (.str []), .d (.bool false)] rfl rfl rfl rfl rfl rfl ty40 rfl (xlb rfl) (by kernel_rfl)) ?_
          refine las rfl rfl rfl rfl rfl ?_
          refine lendF ?_
          refine awp_ret ?_
          refine ⟨[_, _], ⟨⟨_, _, _, _, _, _, _, rfl, rfl, ty40, (xlb rfl), rfl⟩, rfl, trivial⟩, ?_⟩
          first | exact ent_d2 rfl (by rw [readI, if_pos hb] <;> rfl) rfl (by rw [readI, if_pos hb] <;> rfl) | exact ent_d2 rfl (by rw [readI, if_neg hb] <;> rfl) rfl (by rw [readI, if_neg hb] <;> rfl)
         ·
          have hc : checkI [outI m] = 0 := by (have h := hc6); simpa using h
          have hb : ¬ readB m := by (have := majN_yes hp); simp [readB, hd, hc, this]
          refine awp_skip ?_
          refine xsr ?_
          refine xlz (o_ldA rfl rfl rfl rfl ty40 rfl (xlb rfl) rfl) ?_
          refine xlz (op_store rfl rfl rfl rfl rfl rfl ty40 rfl (xlb rfl)) ?_
          refine las rfl rfl rfl rfl rfl ?_
          refine lendF ?_
          refine awp_ret ?_
          refine ⟨[_, _], ⟨⟨_, _, _, _, _, _, _, rfl, rfl, ty40, (xlb rfl), rfl⟩, rfl, trivial⟩, ?_⟩
          first | exact ent_d2 rfl (by rw [readI, if_pos hb] <;> rfl) rfl (by rw [readI, if_pos hb] <;> rfl) | exact ent_d2 rfl (by rw [readI, if_neg hb] <;> rfl) rfl (by rw [readI, if_neg hb] <;> rfl)
        ·
         have hb : readB m := .inr (.inl (by (have h := (g00 hg5)); simpa using h))
         iterate 5 refine lskip rfl hg5 rfl ?_
         refine xlz (o_pT rfl rfl (g00 hg5) rfl rfl) ?_
         refine lendF ?_
         refine awp_condT rfl rfl rfl ?_
         refine xsr ?_
         refine xlz (o_bld rfl rfl rfl bl40 ty40 zk40 rfl rfl rfl) ?_
         refine xlz (op_storeX [.d (.str []), .d (I 0), .d (I 0), .d (I 0), .d (.list []), .d (.str []), .d (.str []), .d (.str []), .d (.bool false)] rfl rfl rfl rfl rfl rfl ty40 rfl (xlb rfl) (by kernel_rfl)) ?_
         refine las rfl rfl rfl rfl rfl ?_
         refine lendF ?_
         refine awp_ret ?_
         refine ⟨[_, _], ⟨⟨_, _, _, _, _, _, _, rfl, rfl, ty40, (xlb rfl), rfl⟩, rfl, trivial⟩, ?_⟩
         first | exact ent_d2 rfl (by rw [readI, if_pos hb] <;> rfl) rfl (by rw [readI, if_pos hb] <;> rfl) | exact ent_d2 rfl (by rw [readI, if_neg hb] <;> rfl) rfl (by rw [readI, if_neg hb] <;> rfl)

end Go.Pm

namespace Go.Pm
open Go.Proofs
set_option maxRecDepth 100000
theorem exI_len : exI.rels.length = 4 := by decide
theorem c45x : Fn PR 45 [] [] [.d exI.d] [] := c45
theorem c17x : Fn PR 17 [.d exR.d] [] [.d (.str (manX exR)), .d (I 0)] [] := by
  have h := c17 exR exR_sm
  rw [show (if checkI [exR] = 0 then manT exR else []) = manX exR from rfl, ex_man] at h; exact h
theorem c19x : Fn PR 19 [.d (.str (manX exR))] [] [.d exR.d, .d (I 0)] [] := by
  have h := c19 (manX exR) ex_len
  rw [ex_read] at h; exact h
theorem c22x : Fn PR 22 [.d exI.d] [] [.d (I 0)] [] := by
  have h := c22 exI (by rw [exI_len]; decide) exI_sm
  rw [ex_check] at h; exact h
theorem c13x : Fn PR 13 [.d exI.d, .d (reqsD exN)] [] [.d (selsD exL)] [] := by
  have h := c13 exI (by rw [exI_len]; decide) exI_sm exN exN_sm (by decide)
  rw [ex_reachL] at h; exact h
theorem c43x : Fn PR 43 [.d exI.d, .d (.str pB)] [] [.d (setD exV)] [] := by
  have h := c43 exI (by rw [exI_len]; decide) exI_sm pB
  rw [ex_avV] at h; exact h
theorem c42x : Fn PR 42 [.d (setD exV), .d (setD exV)] [] [.d (.bool true)] [] := by
  have h := c42 exV exV (by decide)
  rw [decide_eq_true rfl] at h; exact h
theorem c15s : Fn PR 15 [.d exI.d, .d (reqsD exN), .d (selsD exS)] [] [.d (I 17)] [] := by
  have h := c15 exI (by rw [exI_len]; decide) exI_sm exN exS exN_sm (by decide) (by decide)
  rw [ex_sol] at h; exact h
theorem c15g : Fn PR 15 [.d exI.d, .d (reqsD exN), .d (selsD exG)] [] [.d (I 0)] [] := by
  have h := c15 exI (by rw [exI_len]; decide) exI_sm exN exG exN_sm (by decide) (by decide)
  rw [ex_good] at h; exact h
theorem c21x : Fn PR 21 [.d exR.d, .d exR.d] [] [.d (.bool true)] [] := by
  have h := c21 exR exR (by decide) (by decide)
  rw [decide_eq_true rfl] at h; exact h
end Go.Pm

namespace Go.Pm
open Go.Proofs

set_option maxRecDepth 10000 in
set_option maxHeartbeats 4000000 in
theorem c9  : Fn PR 9 [] [] [.d (.bool true)] [] := by
 refine fn_of_awp Tryz.func9 rfl (N := 89) rfl ?_
 refine xsr ?_
 refine las rfl rfl rfl rfl rfl ?_
 refine lendF ?_
 refine xsr ?_
 refine xlz (o_call (c45x) rfl rfl rfl ca45 rfl rfl) ?_
 refine xlz (op_alloc rfl rfl (by decide) ty25 zk25 rfl) ?_
 refine xlz (op_store rfl rfl rfl rfl rfl rfl ty25 rfl (xlb rfl)) ?_
 refine lendF ?_
 refine xsr ?_
 refine xlz (o_bld rfl rfl rfl bl78 ty78 zk78 rfl rfl rfl) ?_
 refine xlz (o_bs rfl rfl rfl rfl rfl ty49 ty78 rfl rfl) ?_
 refine xlz (o_bld rfl rfl rfl bl51 ty51 zk51 rfl rfl rfl) ?_
 refine xlz (o_bs rfl rfl rfl rfl rfl ty26 ty51 rfl rfl) ?_
 refine las rfl rfl rfl rfl rfl ?_
 refine lendF ?_
 refine xsr ?_
 refine xlz (o_bld rfl rfl rfl bl38 ty38 zk38 rfl rfl rfl) ?_
 refine xlz (o_bld rfl rfl rfl bl38 ty38 zk38 rfl rfl rfl) ?_
 refine xlz (op_alloc rfl rfl (by decide) ty38 zk38 rfl) ?_
 refine xlz (op_alloc rfl rfl (by decide) ty38 zk38 rfl) ?_
 refine xlz (op_store rfl rfl rfl rfl rfl rfl ty38 rfl (xlb rfl)) ?_
 refine xlz (op_store rfl rfl rfl rfl rfl rfl ty38 rfl (xlb rfl)) ?_
 refine lendF ?_
 refine xsr ?_
 refine xlz (o_ldA rfl rfl rfl rfl ty38 rfl (xlb rfl) rfl) ?_
 refine xlz (o_bld rfl rfl rfl bl54 ty54 zk54 rfl rfl rfl) ?_
 refine xlz (o_ldA rfl rfl rfl rfl ty38 rfl (xlb rfl) rfl) ?_
 refine xlz (o_bld rfl rfl rfl bl54 ty54 zk54 rfl rfl rfl) ?_
 refine xlz (o_bs rfl rfl rfl rfl rfl ty27 ty54 rfl rfl) ?_
 refine las rfl rfl rfl rfl rfl ?_
 refine lendF ?_
 refine xsr ?_
 refine xlz (o_ldA rfl rfl rfl rfl ty38 rfl (xlb rfl) rfl) ?_
 refine xlz (o_bld rfl rfl rfl bl54 ty54 zk54 rfl rfl rfl) ?_
 refine xlz (o_ldA rfl rfl rfl rfl ty38 rfl (xlb rfl) rfl) ?_
 refine xlz (o_bld rfl rfl rfl bl54 ty54 zk54 rfl rfl rfl) ?_
 refine xlz (o_bs rfl rfl rfl rfl rfl ty27 ty54 rfl rfl) ?_
 refine las rfl rfl rfl rfl rfl ?_
 refine lendF ?_
 refine xsr ?_
 refine xlz (op_fieldP rfl rfl rfl fl25_0) ?_
 refine xlz (op_load1 rfl rfl rfl rfl ty22 rfl rfl) ?_
 refine xlz (o_ixN (0) rfl rfl rfl rfl ty22 (by first | rfl | omega | (simp; done) | (simp; omega)) (rfl : exI.rels[0]? = some exR) ty40) ?_
 refine xlz (op_loadCA rfl rfl rfl ty40 rfl (xlb rfl)) ?_
 refine xlz (o_call (c17x) rfl rfl rfl ca17 rfl rfl) ?_
 refine lmv rfl rfl rfl rfl rfl ?_
 refine xlz (op_extract rfl rfl rfl rfl) ?_
 refine xlz (op_extract rfl rfl rfl rfl) ?_
 iterate 2 refine las rfl rfl rfl rfl rfl ?_
 refine lendF ?_
 refine awp_joinX (fun _ : Unit => ⟨89, [(2, .d (reqsD exN)), (5, .d (selsD exS)), (6, .d (selsD exG)), (8, .d (I 0)), (10, .d (I 0)), (1, .ptr 1 0), (9, .ptr 9 0)], [(1, .cells [.d (relsD exI.rels), .d (.list exI.ifs)]), (9, .cells [.d (.str exR.path), .d (I exR.ver.maj), .d (I exR.ver.min), .d (I exR.ver.pat), .d (reqsD exR.reqs), .d (.str exR.arch), .d (.str exR.iface), .d (.str exR.cert), .d (.bool exR.yank)])]⟩) (fun _ : Unit => True) ?_ ?_
 ·
  refine awp_region mixed ?_
  refine lmv rfl rfl rfl rfl rfl ?_
  refine xlz (o_call (c19x) rfl rfl rfl ca19 rfl rfl) ?_
  refine lmv rfl rfl rfl rfl rfl ?_
  refine xlz (op_extract rfl rfl rfl rfl) ?_
  refine xlz (op_extract rfl rfl rfl rfl) ?_
  refine xlz (op_alloc rfl rfl (by decide) ty40 zk40 rfl) ?_
  refine xlz (op_store rfl rfl rfl rfl rfl rfl ty40 rfl (xlb rfl)) ?_
  refine las rfl rfl rfl rfl rfl ?_
  refine lendF ?_
  refine ⟨(), ?_, ?_⟩
  ·
   exact True.intro
  ·
   exact ent_k [] rfl rfl ((by repeat (first | exact .nil | refine xkc ?_))) (obs_cons rfl (o_eq rfl) (obs_cons rfl (o_eq rfl) obs_nil)) rfl
 ·
  rintro _ _
  refine xsr ?_
  refine xlz (o_ldA rfl rfl rfl rfl ty25 rfl (xlb rfl) rfl) ?_
  refine xlz (o_call (c22x) rfl rfl rfl ca22 rfl rfl) ?_
  refine xlz (op_binI rfl rfl rfl rfl rfl (.inl rfl) rfl) ?_
  refine lmv rfl rfl rfl rfl rfl ?_
  refine lsplit rfl (fun hg1 => ?_) (fun hg1 => ?_)
  ·
   refine lg (o_ldA rfl rfl rfl rfl ty25 rfl (xlb rfl) rfl) rfl hg1 rfl rfl ?_
   refine gmv hg1 rfl rfl rfl rfl rfl ?_
   refine lg (o_call (c13x) rfl rfl rfl ca13 rfl rfl) rfl hg1 rfl rfl ?_
   refine lg (o_lenE (n := exL.length) rfl rfl rfl ty27 (by simp)) rfl hg1 rfl rfl ?_
   refine lg (op_binI rfl rfl rfl rfl rfl (.inl rfl) rfl) rfl hg1 rfl rfl ?_
   refine xlz (o_pT rfl rfl (g11 hg1) rfl rfl) ?_
   refine lmv rfl rfl rfl rfl rfl ?_
   refine lsplit rfl (fun hg2 => ?_) (fun hg2 => ?_)
   ·
    refine lg (o_ldA rfl rfl rfl rfl ty25 rfl (xlb rfl) rfl) rfl hg2 rfl rfl ?_
    refine lg (o_call (c43x) rfl rfl rfl ca43 rfl rfl) rfl hg2 rfl rfl ?_
    refine lg (o_bld rfl rfl rfl bl78 ty78 zk78 rfl rfl rfl) rfl hg2 rfl rfl ?_
    refine lg (o_bld rfl rfl rfl bl78 ty78 zk78 rfl rfl rfl) rfl hg2 rfl rfl ?_
    refine lg (o_bsD rfl rfl rfl rfl rfl ty49 ty78 rfl rfl) rfl hg2 rfl rfl ?_
    refine lg (o_call (c42x) rfl rfl rfl ca42 rfl rfl) rfl hg2 rfl rfl ?_
    refine xlz (o_pT rfl rfl (g11 hg2) rfl rfl) ?_
    refine lmv rfl rfl rfl rfl rfl ?_
    refine lsplit rfl (fun hg3 => ?_) (fun hg3 => ?_)
    ·
     refine lg (o_ldA rfl rfl rfl rfl ty25 rfl (xlb rfl) rfl) rfl hg3 rfl rfl ?_
     iterate 2 refine gmv hg3 rfl rfl rfl rfl rfl ?_
     refine lg (o_call (c15s) rfl rfl rfl ca15 rfl rfl) rfl hg3 rfl rfl ?_
     refine lg (op_binI rfl rfl rfl rfl rfl (.inl rfl) rfl) rfl hg3 rfl rfl ?_
     refine xlz (o_pT rfl rfl (g11 hg3) rfl rfl) ?_
     refine lmv rfl rfl rfl rfl rfl ?_
     refine lsplit rfl (fun hg4 => ?_) (fun hg4 => ?_)
     ·
      refine lg (o_ldA rfl rfl rfl rfl ty25 rfl (xlb rfl) rfl) rfl hg4 rfl rfl ?_
      iterate 2 refine gmv hg4 rfl rfl rfl rfl rfl ?_
      refine lg (o_call (c15g) rfl rfl rfl ca15 rfl rfl) rfl hg4 rfl rfl ?_
      refine lg (op_binI rfl rfl rfl rfl rfl (.inl rfl) rfl) rfl hg4 rfl rfl ?_
      refine xlz (o_pT rfl rfl (g11 hg4) rfl rfl) ?_
      refine lmv rfl rfl rfl rfl rfl ?_
      refine lsplit rfl (fun hg5 => ?_) (fun hg5 => ?_)
      ·
       refine gmv hg5 rfl rfl rfl rfl rfl ?_
       refine lg (op_binI rfl rfl rfl rfl rfl (.inl rfl) rfl) rfl hg5 rfl rfl ?_
       refine xlz (o_pT rfl rfl (g11 hg5) rfl rfl) ?_
       refine lmv rfl rfl rfl rfl rfl ?_
       refine lsplit rfl (fun hg6 => ?_) (fun hg6 => ?_)
       ·
        refine gmv hg6 rfl rfl rfl rfl rfl ?_
        refine lg (op_binI rfl rfl rfl rfl rfl (.inl rfl) rfl) rfl hg6 rfl rfl ?_
        refine xlz (o_pT rfl rfl (g11 hg6) rfl rfl) ?_
        refine lmv rfl rfl rfl rfl rfl ?_
        refine lsplit rfl (fun hg7 => ?_) (fun hg7 => ?_)
        ·
         refine lg (o_ldA rfl rfl rfl rfl ty40 rfl (xlb rfl) rfl) rfl hg7 rfl rfl ?_
         refine lg (op_fieldP rfl rfl rfl fl25_0) rfl hg7 rfl rfl ?_
         refine lg (op_load1 rfl rfl rfl rfl ty22 rfl rfl) rfl hg7 rfl rfl ?_
         refine lg (o_ixN (0) rfl rfl rfl rfl ty22 (by first | rfl | omega | (simp; done) | (simp; omega)) (rfl : exI.rels[0]? = some exR) ty40) rfl hg7 rfl rfl ?_
         refine lg (op_loadCA rfl rfl rfl ty40 rfl (xlb rfl)) rfl hg7 rfl rfl ?_
         refine lg (o_call (c21x) rfl rfl rfl ca21 rfl rfl) rfl hg7 rfl rfl ?_
         refine xlz (o_pT rfl rfl (g11 hg7) rfl rfl) ?_
         refine las rfl rfl rfl rfl rfl ?_
         refine lend (fun _ => by kernel_rfl) ?_
         refine awp_ret ?_
         refine ⟨[_], ⟨rfl, trivial⟩, ?_⟩
         exact ent_d1 rfl rfl
        ·
         exact absurd (g10 hg7) (by decide)
       ·
        exact absurd (g10 hg6) (by decide)
      ·
       exact absurd (g10 hg5) (by decide)
     ·
      exact absurd (g10 hg4) (by decide)
    ·
     exact absurd (g10 hg3) (by decide)
   ·
    exact absurd (g10 hg2) (by decide)
  ·
   exact absurd (g10 hg1) (by decide)

end Go.Pm

namespace Go.Pm
theorem checkI_one (r : Rls) : checkI [r] = relE r := by
  unfold checkI
  rw [if_neg (by simp)]
  unfold relsE
  split
  · rfl
  · rename_i h
    have h0 : relE r = 0 := by simpa using h
    rw [h0]; rfl
def spansT (l : List Span) : Bytes := l.flatMap fun y => intsS [y.lo, y.hi]
def manR (l : List Req) : Bytes := intsS [(l.length : Int)] ++ l.flatMap reqT
theorem manT_eq (r : Rls) : manT r = textS r.path ++ (uintS r.ver.min).1 ++ (uintS r.ver.pat).1 ++ (uintS (if r.yank then 1 else 0)).1 ++ textS r.arch ++ textS r.iface ++ textS r.cert ++ manR r.reqs := by
  simp [manT, headT, manR, textsS, intsS]
theorem reqT_eq (q : Req) : reqT q = textS q.path ++ (uintS (q.set.length : Int)).1 ++ spansT q.set := by
  simp [reqT, textsS, intsS, spansT]
theorem manR_len {r : Rls} (hr : r.Sm) (he : relE r = 0) : (manR r.reqs).length ≤ 1000000000 := by
  have h3 := flat_len (l := r.reqs) (f := reqT) (n := 30000000) fun q hq => reqT_len (hr.reqs q hq)
  have h4 := relE_reqs he
  have : 30000000 * r.reqs.length ≤ 30000000 * 16 := Nat.mul_le_mul_left _ h4
  have := intsS_len [(r.reqs.length : Int)]
  simp only [manR, List.length_append, List.length_cons, List.length_nil] at *; omega
theorem spans_take {l : List Span} {k : Nat} {y : Span} (h : l[k]? = some y) : spansT (l.take (k + 1)) = spansT (l.take k) ++ (uintS y.lo).1 ++ (uintS y.hi).1 := by
  unfold spansT; rw [take_succ h]; simp [intsS]
theorem spans_pre {l : List Span} {k : Nat} {y : Span} (h : l[k]? = some y) : (spansT (l.take k)).length + ((uintS y.lo).1.length + (uintS y.hi).1.length) ≤ (spansT l).length := by
  have := flat_take (fun y : Span => intsS [y.lo, y.hi]) h
  simp only [spansT] at *
  simp only [intsS, List.flatMap_cons, List.flatMap_nil, List.append_nil, List.length_append] at *; omega
theorem manR_pre {l : List Req} {i : Nat} {z : Req} (h : l[i]? = some z) : (intsS [(l.length : Int)] ++ (l.take i).flatMap reqT).length + ((textS z.path).length + (uintS (z.set.length : Int)).1.length + (spansT z.set).length) ≤ (manR l).length := by
  have := flat_take reqT h
  rw [reqT_eq] at this
  simp only [manR, List.length_append] at *; omega
end Go.Pm

namespace Go.Pm
open Go.Proofs

set_option maxRecDepth 10000 in
set_option maxHeartbeats 2000000 in
theorem c62 (l : List Req) (hl : l.length ≤ 100000) (hx : ∀ q ∈ l, q.Sm ∧ bndS q.set) (hb : (manR l).length ≤ 1000000000) : Fn PR 62 [.d (reqsD l)] [] [.d (.str (manR l))] [] := by
 refine fn_of_awp Tryz.func62 rfl (N := 65) rfl ?_
 refine xsr ?_
 refine las rfl rfl rfl rfl rfl ?_
 refine lendF ?_
 refine xsr ?_
 refine lmv rfl rfl rfl rfl rfl ?_
 refine xlz (o_lenE (n := l.length) rfl rfl rfl ty26 (by simp)) ?_
 refine xlz (o_call (c61 (l.length : Int) (by omega)) rfl rfl rfl ca61 rfl rfl) ?_
 refine las rfl rfl rfl rfl rfl ?_
 refine lendF ?_
 refine awp_seq ?_
 refine xsr ?_
 refine las rfl rfl rfl rfl rfl ?_
 refine lendF ?_
 refine awp_block ?_
 refine awp_loop (fun i => ⟨65, [(4, .d (I (i : Nat))), (3, .d (.str (intsS [(l.length : Int)] ++ (l.take i).flatMap reqT))), (0, .d (reqsD l))], []⟩) (fun i => l.length - i) (fun i => i ≤ l.length) 0 ?_ ?_ ?_
 ·
  exact ent_k [] rfl rfl (xkc <| .cons rfl (k_s (by simp [intsS])) <| xkc .nil) obs_nil rfl
 ·
  exact Nat.zero_le _
 ·
  rintro i hi
  refine awp_seq ?_
  refine xsr ?_
  iterate 2 refine lmv rfl rfl rfl rfl rfl ?_
  refine xlz (o_lenE (n := l.length) rfl rfl rfl ty26 (by simp)) ?_
  refine xlz (op_binI rfl rfl rfl rfl rfl (.inl rfl) rfl) ?_
  refine lendF ?_
  refine awp_cond rfl rfl (fun hc1 => ?_) (fun hc1 => ?_)
  ·
   obtain ⟨z, hn⟩ := rng_lt (l := l) (by simpa using hc1)
   have hlt := rng_le hn
   have hmem := List.mem_of_getElem? hn
   have hzx := hx z hmem
   have hzp := hzx.1.path
   have hzl := hzx.1.set
   have hpre := Nat.le_trans (manR_pre hn) hb
   refine awp_skip ?_
   refine awp_seq ?_
   refine awp_block ?_
   refine xsr ?_
   iterate 3 refine lmv rfl rfl rfl rfl rfl ?_
   refine xlz (o_ixN (i) rfl rfl rfl rfl ty26 (by first | rfl | omega | (simp; done) | (simp; omega)) hn ty51) ?_
   refine xlz (op_fieldC rfl rfl rfl fl51_0) ?_
   refine xlz (op_loadC1 rfl rfl rfl ty9 rfl rfl) ?_
   refine xlz (o_call (c60 z.path (by omega)) rfl rfl rfl ca60 rfl rfl) ?_
   refine xlz (op_binS rfl rfl rfl rfl rfl (fun _ => by simp only [List.length_append] at *; omega) rfl) ?_
   iterate 2 refine lmv rfl rfl rfl rfl rfl ?_
   refine xlz (o_ixN (i) rfl rfl rfl rfl ty26 (by first | rfl | omega | (simp; done) | (simp; omega)) hn ty51) ?_
   refine xlz (op_fieldC rfl rfl rfl fl51_1) ?_
   refine xlz (op_loadC1 rfl rfl rfl ty49 rfl rfl) ?_
   refine xlz (o_lenE (n := z.set.length) rfl rfl rfl ty49 (by simp)) ?_
   refine xlz (o_call (c61 (z.set.length : Int) (by omega)) rfl rfl rfl ca61 rfl rfl) ?_
   refine xlz (op_binS rfl rfl rfl rfl rfl (fun _ => by simp only [List.length_append] at *; omega) rfl) ?_
   refine las rfl rfl rfl rfl rfl ?_
   refine lend (fun _ => by kernel_rfl) ?_
   refine xsr ?_
   refine las rfl rfl rfl rfl rfl ?_
   refine lendF ?_
   refine awp_block ?_
   refine awp_loop (fun k => ⟨65, [(5, .d (I (k : Nat))), (3, .d (.str (intsS [(l.length : Int)] ++ (l.take i).flatMap reqT ++ textS z.path ++ (uintS (z.set.length : Int)).1 ++ spansT (z.set.take k)))), (0, .d (reqsD l)), (4, .d (I (i : Nat))), (9, .d (I (i : Nat))), (10, .d (reqsD l)), (11, .d (I l.length)), (15, .d (.str (intsS [(l.length : Int)] ++ (l.take i).flatMap reqT))), (16, .d (reqsD l)), (17, .d (I (i : Nat))), (20, .d (.str z.path)), (21, .d (.str (textS z.path))), (22, .d (.str ((intsS [(l.length : Int)] ++ (l.take i).flatMap reqT) ++ (textS z.path)))), (23, .d (reqsD l)), (24, .d (I (i : Nat))), (27, .d (setD z.set)), (28, .d (I z.set.length)), (29, .d (.str (uintS (z.set.length : Int)).1)), (30, .d (.str (((intsS [(l.length : Int)] ++ (l.take i).flatMap reqT) ++ (textS z.path)) ++ (uintS (z.set.length : Int)).1)))], []⟩) (fun k => z.set.length - k) (fun k => k ≤ z.set.length) 0 ?_ ?_ ?_
   ·
    exact ent_k [] rfl rfl (xkc <| .cons rfl (k_s (by simp [spansT])) <| (by repeat (first | exact .nil | refine xkc ?_))) obs_nil rfl
   ·
    exact Nat.zero_le _
   ·
    rintro k hk
    refine awp_seq ?_
    refine xsr ?_
    iterate 3 refine lmv rfl rfl rfl rfl rfl ?_
    refine xlz (o_ixN (i) rfl rfl rfl rfl ty26 (by first | rfl | omega | (simp; done) | (simp; omega)) hn ty51) ?_
    refine xlz (op_fieldC rfl rfl rfl fl51_1) ?_
    refine xlz (op_loadC1 rfl rfl rfl ty49 rfl rfl) ?_
    refine xlz (o_lenE (n := z.set.length) rfl rfl rfl ty49 (by simp)) ?_
    refine xlz (op_binI rfl rfl rfl rfl rfl (.inl rfl) rfl) ?_
    refine lendF ?_
    refine awp_cond rfl rfl (fun hc2 => ?_) (fun hc2 => ?_)
    ·
     obtain ⟨y, hm⟩ := rng_lt (l := z.set) (by simpa using hc2)
     have hlt2 := rng_le hm
     have hyb := hzx.2 y (List.mem_of_getElem? hm)
     have hsp := spans_pre hm
     refine awp_skip ?_
     refine awp_seq ?_
     refine awp_block ?_
     refine awp_region mixed ?_
     iterate 3 refine lmv rfl rfl rfl rfl rfl ?_
     refine xlz (o_ixN (i) rfl rfl rfl rfl ty26 (by first | rfl | omega | (simp; done) | (simp; omega)) hn ty51) ?_
     refine xlz (op_fieldC rfl rfl rfl fl51_1) ?_
     refine xlz (op_loadC1 rfl rfl rfl ty49 rfl rfl) ?_
     refine lmv rfl rfl rfl rfl rfl ?_
     refine xlz (o_ixN (k) rfl rfl rfl rfl ty49 (by first | rfl | omega | (simp; done) | (simp; omega)) hm ty78) ?_
     refine xlz (op_fieldC rfl rfl rfl fl78_0) ?_
     refine xlz (op_loadC1 rfl rfl rfl ty3 rfl rfl) ?_
     refine xlz (o_call (c61 y.lo (by omega)) rfl rfl rfl ca61 rfl rfl) ?_
     refine xlz (op_binS rfl rfl rfl rfl rfl (fun _ => by simp only [List.length_append] at *; omega) rfl) ?_
     iterate 2 refine lmv rfl rfl rfl rfl rfl ?_
     refine xlz (o_ixN (i) rfl rfl rfl rfl ty26 (by first | rfl | omega | (simp; done) | (simp; omega)) hn ty51) ?_
     refine xlz (op_fieldC rfl rfl rfl fl51_1) ?_
     refine xlz (op_loadC1 rfl rfl rfl ty49 rfl rfl) ?_
     refine lmv rfl rfl rfl rfl rfl ?_
     refine xlz (o_ixN (k) rfl rfl rfl rfl ty49 (by first | rfl | omega | (simp; done) | (simp; omega)) hm ty78) ?_
     refine xlz (op_fieldC rfl rfl rfl fl78_1) ?_
     refine xlz (op_loadC1 rfl rfl rfl ty3 rfl rfl) ?_
     refine xlz (o_call (c61 y.hi (by omega)) rfl rfl rfl ca61 rfl rfl) ?_
     refine xlz (op_binS rfl rfl rfl rfl rfl (fun _ => by simp only [List.length_append] at *; omega) rfl) ?_
     refine las rfl rfl rfl rfl rfl ?_
     refine lend (fun _ => by kernel_rfl) ?_
     refine awp_region mixed ?_
     refine lmv rfl rfl rfl rfl rfl ?_
     refine xlz (o_add rfl rfl rfl rfl (by first | omega | (simp; omega) | (simp at *; omega))) ?_
     refine las rfl rfl rfl rfl rfl ?_
     refine lendF ?_
     refine ⟨k + 1, ?_, ?_, ?_⟩
     ·
      exact rng_le hm
     ·
      exact ent_k [] rfl rfl (xkc <| .cons rfl (k_s (by rw [spans_take hm]; simp)) <| (by repeat (first | exact .nil | refine xkc ?_))) obs_nil rfl
     ·
      omega
    ·
     obtain rfl := rng_ge (l := z.set) (by simpa using hc2) hk
     refine awp_exit ?_
     refine awp_region mixed ?_
     refine lmv rfl rfl rfl rfl rfl ?_
     refine xlz (o_add rfl rfl rfl rfl (by first | omega | (simp; omega) | (simp at *; omega))) ?_
     refine las rfl rfl rfl rfl rfl ?_
     refine lendF ?_
     refine ⟨i + 1, ?_, ?_, ?_⟩
     ·
      exact rng_le hn
     ·
      exact ent_k [] rfl rfl (xkc <| .cons rfl (k_s (by rw [take_succ hn, List.take_length, List.flatMap_append]; simp [reqT_eq])) <| xkc .nil) obs_nil rfl
     ·
      omega
  ·
   obtain rfl := rng_ge (l := l) (by simpa using hc1) hi
   refine awp_exit ?_
   refine xsr ?_
   refine lmv rfl rfl rfl rfl rfl ?_
   refine las rfl rfl rfl rfl rfl ?_
   refine lendF ?_
   refine awp_ret ?_
   refine ⟨[_], ⟨rfl, trivial⟩, ?_⟩
   exact ent_d1 rfl (by rw [List.take_length]; rfl)

set_option maxRecDepth 10000 in
set_option maxHeartbeats 2000000 in
theorem c18 (r : Rls) (hr : r.Sm) : Fn PR 18 [.d r.d] [] [.d (.str (if relE r = 0 then manT r else [])), .d (I (relE r))] [] := by
 refine fn_of_awp Tryz.func18 rfl (N := 48) rfl ?_
 refine xsr ?_
 refine xlz (op_box rfl rfl (by decide) rfl rfl) ?_
 iterate 2 refine las rfl rfl rfl rfl rfl ?_
 refine lendF ?_
 refine awp_seq ?_
 refine xsr ?_
 refine xlz (o_ldA rfl rfl rfl rfl ty40 rfl (xlb rfl) rfl) ?_
 refine xlz (o_call (c59 r hr) rfl rfl rfl ca59 rfl rfl) ?_
 refine las rfl rfl rfl rfl rfl ?_
 refine lendF ?_
 refine xsr ?_
 refine lmv rfl rfl rfl rfl rfl ?_
 refine xlz (op_binI rfl rfl rfl rfl rfl (.inl rfl) rfl) ?_
 refine lendF ?_
 refine awp_cond rfl rfl (fun hc1 => ?_) (fun hc1 => ?_)
 ·
  have h0 : ¬ relE r = 0 := by simpa using hc1
  refine xsr ?_
  refine lmv rfl rfl rfl rfl rfl ?_
  iterate 2 refine las rfl rfl rfl rfl rfl ?_
  refine lendF ?_
  refine awp_ret ?_
  refine ⟨[_, _], ⟨rfl, rfl, trivial⟩, ?_⟩
  exact ent_d2 rfl (by rw [if_neg h0]) rfl rfl
 ·
  have he : relE r = 0 := by simpa using hc1
  obtain ⟨_, hok, _, _, ha, hb, hd⟩ := relE_all he
  have hvb := ok_bounds hok
  have ha := isDig_len ha
  have hb := isDig_len hb
  have hd := isDig_len hd
  have hq := relE_reqs he
  have hpp := hr.path
  have t1 := textS_len r.path
  have t2 := textS_len r.arch
  have t3 := textS_len r.iface
  have t4 := textS_len r.cert
  have u1 := uintS_len r.ver.min
  have u2 := uintS_len r.ver.pat
  have u3 := uintS_len (if r.yank then 1 else 0)
  have u4 := manR_len hr he
  refine awp_skip ?_
  refine xsr ?_
  refine las rfl rfl rfl rfl rfl ?_
  refine lendF ?_
  refine awp_joinX (fun _ : Unit => ⟨48, [(5, .d (I (if r.yank then 1 else 0))), (1, .ptr 1 0)], [(1, .cells [.d (.str r.path), .d (I r.ver.maj), .d (I r.ver.min), .d (I r.ver.pat), .d (reqsD r.reqs), .d (.str r.arch), .d (.str r.iface), .d (.str r.cert), .d (.bool r.yank)])]⟩) (fun _ : Unit => True) ?_ ?_
  ·
   refine xsr ?_
   refine xlz (op_fieldP rfl rfl rfl fl40_6) ?_
   refine xlz (op_load1 rfl rfl rfl rfl ty4 rfl rfl) ?_
   refine lendF ?_
   refine awp_cond rfl rfl (fun hc2 => ?_) (fun hc2 => ?_)
   ·
    refine awp_region mixed ?_
    refine las rfl rfl rfl rfl rfl ?_
    refine lendF ?_
    refine ⟨(), ?_, ?_⟩
    ·
     exact True.intro
    ·
     exact ent_k [] rfl rfl (.cons rfl (k_i (by simp_all)) <| xkc .nil) (obs_cons rfl (o_eq rfl) obs_nil) rfl
   ·
    refine awp_skip ?_
    refine ⟨(), ?_, ?_⟩
    ·
     exact True.intro
    ·
     exact ent_k [] rfl rfl (.cons rfl (k_i (by simp_all)) <| xkc .nil) (obs_cons rfl (o_eq rfl) obs_nil) rfl
  ·
   rintro _ _
   refine xsr ?_
   refine xlz (op_fieldP rfl rfl rfl fl40_0) ?_
   refine xlz (op_load1 rfl rfl rfl rfl ty9 rfl rfl) ?_
   refine xlz (o_call (c60 r.path (by omega)) rfl rfl rfl ca60 rfl rfl) ?_
   refine xlz (op_fieldP rfl rfl rfl fl40_1) ?_
   refine xlz (op_fieldP rfl rfl rfl fl38_1) ?_
   refine xlz (op_load1 rfl rfl rfl rfl ty3 rfl rfl) ?_
   refine xlz (o_call (c61 r.ver.min (by omega)) rfl rfl rfl ca61 rfl rfl) ?_
   refine xlz (op_binS rfl rfl rfl rfl rfl (fun _ => by simp only [List.length_append] at *; omega) rfl) ?_
   refine xlz (op_fieldP rfl rfl rfl fl40_1) ?_
   refine xlz (op_fieldP rfl rfl rfl fl38_2) ?_
   refine xlz (op_load1 rfl rfl rfl rfl ty3 rfl rfl) ?_
   refine xlz (o_call (c61 r.ver.pat (by omega)) rfl rfl rfl ca61 rfl rfl) ?_
   refine xlz (op_binS rfl rfl rfl rfl rfl (fun _ => by simp only [List.length_append] at *; omega) rfl) ?_
   refine lmv rfl rfl rfl rfl rfl ?_
   refine xlz (o_call (c61 (if r.yank then 1 else 0) (by split <;> omega)) rfl rfl rfl ca61 rfl rfl) ?_
   refine xlz (op_binS rfl rfl rfl rfl rfl (fun _ => by simp only [List.length_append] at *; omega) rfl) ?_
   refine las rfl rfl rfl rfl rfl ?_
   refine lend (fun _ => by kernel_rfl) ?_
   refine xsr ?_
   refine lmv rfl rfl rfl rfl rfl ?_
   refine xlz (op_fieldP rfl rfl rfl fl40_3) ?_
   refine xlz (op_load1 rfl rfl rfl rfl ty9 rfl rfl) ?_
   refine xlz (o_call (c60 r.arch (by omega)) rfl rfl rfl ca60 rfl rfl) ?_
   refine xlz (op_binS rfl rfl rfl rfl rfl (fun _ => by simp only [List.length_append] at *; omega) rfl) ?_
   refine xlz (op_fieldP rfl rfl rfl fl40_4) ?_
   refine xlz (op_load1 rfl rfl rfl rfl ty9 rfl rfl) ?_
   refine xlz (o_call (c60 r.iface (by omega)) rfl rfl rfl ca60 rfl rfl) ?_
   refine xlz (op_binS rfl rfl rfl rfl rfl (fun _ => by simp only [List.length_append] at *; omega) rfl) ?_
   refine xlz (op_fieldP rfl rfl rfl fl40_5) ?_
   refine xlz (op_load1 rfl rfl rfl rfl ty9 rfl rfl) ?_
   refine xlz (o_call (c60 r.cert (by omega)) rfl rfl rfl ca60 rfl rfl) ?_
   refine xlz (op_binS rfl rfl rfl rfl rfl (fun _ => by simp only [List.length_append] at *; omega) rfl) ?_
   refine las rfl rfl rfl rfl rfl ?_
   refine lend (fun _ => by kernel_rfl) ?_
   refine xsr ?_
   refine lmv rfl rfl rfl rfl rfl ?_
   refine xlz (op_fieldP rfl rfl rfl fl40_2) ?_
   refine xlz (op_load1 rfl rfl rfl rfl ty26 rfl rfl) ?_
   refine xlz (o_call (c62 r.reqs (by omega) (fun q hq => ⟨hr.reqs q hq, relE_sets he q hq⟩) (manR_len hr he)) rfl rfl rfl ca62 rfl rfl) ?_
   refine xlz (op_binS rfl rfl rfl rfl rfl (fun _ => by simp only [List.length_append] at *; omega) rfl) ?_
   iterate 2 refine las rfl rfl rfl rfl rfl ?_
   refine lendF ?_
   refine awp_ret ?_
   refine ⟨[_, _], ⟨rfl, rfl, trivial⟩, ?_⟩
   exact ent_d2 rfl (by rw [if_pos he, manT_eq]) rfl (by rw [he])

end Go.Pm

namespace Go.Pm
def stU (m : Bytes) (p : Nat × Bool) : Nat × Nat × Bool := if p.2 then rdN m p.1 else (0, p)
def stT (m : Bytes) (p : Nat × Bool) : Bytes × Nat × Bool := if p.2 then rdT m p.1 else ([], p)
def spStep (m : Bytes) (x : List Span × Nat × Bool) : List Span × Nat × Bool := if x.2.2 then (x.1 ++ [⟨((rdN m x.2.1).1 : Nat), ((stU m (rdN m x.2.1).2).1 : Nat)⟩], (stU m (rdN m x.2.1).2).2) else x
def spI (m : Bytes) (p : Nat × Bool) : Nat → List Span × Nat × Bool
  | 0 => ([], p)
  | k + 1 => spStep m (spI m p k)
def cU (m : Bytes) (p : Nat) : Nat × Nat × Bool := stU m (rdT m p).2
def qsStep (m : Bytes) (x : List Req × Nat × Bool) : List Req × Nat × Bool := if x.2.2 then (x.1 ++ [⟨(rdT m x.2.1).1, (spI m (cU m x.2.1).2 (cU m x.2.1).1).1⟩], (spI m (cU m x.2.1).2 (cU m x.2.1).1).2) else x
def qsI (m : Bytes) (p : Nat × Bool) : Nat → List Req × Nat × Bool
  | 0 => ([], p)
  | i + 1 => qsStep m (qsI m p i)
def rqs (m : Bytes) (p : Nat) : List Req × Nat × Bool := qsI m (rdN m p).2 (rdN m p).1
section
variable {m : Bytes}
theorem scanL_gt : ∀ (l : Bytes) (p i acc : Nat), (scanL l p i acc).2.2 = true → p + 1 ≤ (scanL l p i acc).2.1
  | [], p, i, acc, h => by simp [scanL] at h
  | b :: r, p, i, acc, h => by
    unfold scanL at h ⊢
    split at h
    · simp at h
    · rename_i h1
      rw [if_neg h1]
      split at h
      · simp at h
      · rename_i h2
        rw [if_neg h2]
        split at h
        · rename_i h3; rw [if_pos h3]; exact Nat.le_refl _
        · rename_i h3; rw [if_neg h3]
          have := scanL_gt r (p + 1) (i + 1) _ h
          omega
theorem rdN_gt {p : Nat} (h : (rdN m p).2.2 = true) : p + 1 ≤ (rdN m p).2.1 := by
  unfold rdN at h ⊢
  split at h
  · rename_i h1; rw [if_pos h1]
    simp [rdOK] at h1
    exact scanL_gt _ _ _ _ h1.1
  · simp at h
theorem rdT_gt {p : Nat} (h : (rdT m p).2.2 = true) : p + 1 ≤ (rdT m p).2.1 := by
  rw [rdT_rdN] at h ⊢
  split at h
  · rename_i h1; rw [if_pos h1]
    simp at h1
    have := rdN_gt h1.1
    dsimp only; omega
  · simp at h
theorem stU_le {p : Nat × Bool} (h : p.1 ≤ m.length) : (stU m p).2.1 ≤ m.length := by
  unfold stU; split
  · exact rdN_le h
  · exact h
theorem stU_ge {p : Nat × Bool} (h : (stU m p).2.2 = true) : p.1 + 1 ≤ (stU m p).2.1 ∧ p.2 = true := by
  unfold stU at h ⊢; split
  · rename_i h2; rw [if_pos h2] at h; exact ⟨rdN_gt h, h2⟩
  · rename_i h2; rw [if_neg h2] at h; exact absurd h h2
theorem sp_next {p : Nat × Bool} {k : Nat} (h : (spI m p k).2.2 = true) : spI m p (k + 1) = ((spI m p k).1 ++ [⟨((rdN m (spI m p k).2.1).1 : Nat), ((stU m (rdN m (spI m p k).2.1).2).1 : Nat)⟩], (stU m (rdN m (spI m p k).2.1).2).2) := by
  show spStep m _ = _; unfold spStep; rw [if_pos h]
theorem sp_stop {p : Nat × Bool} {k : Nat} (h : (spI m p k).2.2 = false) : ∀ {n : Nat}, k ≤ n → spI m p k = spI m p n
  | 0, hn => by rw [Nat.le_zero.1 hn]
  | n + 1, hn => by
    rcases Nat.lt_or_ge n k with h1 | h1
    · rw [show k = n + 1 from by omega]
    · have := sp_stop h h1
      show _ = spStep m _
      unfold spStep; rw [← this, if_neg (by simp [h])]
theorem sp_le {p : Nat × Bool} (h : p.1 ≤ m.length) : ∀ k, (spI m p k).2.1 ≤ m.length
  | 0 => h
  | k + 1 => by
    have ih := sp_le h k
    show (spStep m _).2.1 ≤ _
    unfold spStep; split
    · exact stU_le (rdN_le ih)
    · exact ih
theorem sp_ge {p : Nat × Bool} : ∀ k, (spI m p k).2.2 = true → p.1 + 2 * k ≤ (spI m p k).2.1 ∧ p.2 = true ∧ (spI m p k).1.length = k
  | 0, h => ⟨Nat.le_refl _, h, rfl⟩
  | k + 1, h => by
    have h0 : (spI m p k).2.2 = true := by
      cases hx : (spI m p k).2.2 with
      | true => rfl
      | false => rw [← sp_stop hx (Nat.le_succ k)] at h; rw [hx] at h; cases h
    obtain ⟨h1, h2, h3⟩ := sp_ge k h0
    rw [sp_next h0] at h ⊢
    obtain ⟨h4, h5⟩ := stU_ge h
    have := rdN_gt h5
    refine ⟨by dsimp only; omega, h2, by simp [h3]⟩
theorem sp_len {p : Nat × Bool} (hp : p.1 ≤ m.length) : ∀ k, (spI m p k).1.length ≤ m.length + 1
  | 0 => Nat.zero_le _
  | k + 1 => by
    cases hx : (spI m p k).2.2 with
    | true =>
      obtain ⟨h1, _, h3⟩ := sp_ge k hx
      have := sp_le hp k
      rw [sp_next hx]
      simp [h3]; omega
    | false => rw [← sp_stop hx (Nat.le_succ k)]; exact sp_len hp k
theorem cU_le (p : Nat) : (cU m p).2.1 ≤ m.length := stU_le (rdT_le _ _)
theorem qs_next {p : Nat × Bool} {i : Nat} (h : (qsI m p i).2.2 = true) : qsI m p (i + 1) = ((qsI m p i).1 ++ [⟨(rdT m (qsI m p i).2.1).1, (spI m (cU m (qsI m p i).2.1).2 (cU m (qsI m p i).2.1).1).1⟩], (spI m (cU m (qsI m p i).2.1).2 (cU m (qsI m p i).2.1).1).2) := by
  show qsStep m _ = _; unfold qsStep; rw [if_pos h]
theorem qs_stop {p : Nat × Bool} {k : Nat} (h : (qsI m p k).2.2 = false) : ∀ {n : Nat}, k ≤ n → qsI m p k = qsI m p n
  | 0, hn => by rw [Nat.le_zero.1 hn]
  | n + 1, hn => by
    rcases Nat.lt_or_ge n k with h1 | h1
    · rw [show k = n + 1 from by omega]
    · have := qs_stop h h1
      show _ = qsStep m _
      unfold qsStep; rw [← this, if_neg (by simp [h])]
theorem qs_le {p : Nat × Bool} (h : p.1 ≤ m.length) : ∀ k, (qsI m p k).2.1 ≤ m.length
  | 0 => h
  | k + 1 => by
    have ih := qs_le h k
    show (qsStep m _).2.1 ≤ _
    unfold qsStep; split
    · exact sp_le (cU_le _) _
    · exact ih
theorem qs_step_gt {p : Nat × Bool} {k : Nat} (h : (qsI m p (k + 1)).2.2 = true) : (qsI m p k).2.2 = true ∧ (qsI m p k).2.1 + 1 ≤ (qsI m p (k + 1)).2.1 := by
  have h0 : (qsI m p k).2.2 = true := by
    cases hx : (qsI m p k).2.2 with
    | true => rfl
    | false => rw [← qs_stop hx (Nat.le_succ k)] at h; rw [hx] at h; cases h
  refine ⟨h0, ?_⟩
  rw [qs_next h0] at h ⊢
  obtain ⟨h1, h2, _⟩ := sp_ge _ h
  obtain ⟨h3, h4⟩ := stU_ge (p := (rdT m (qsI m p k).2.1).2) h2
  have := rdT_gt h4
  have h3' : (rdT m (qsI m p k).2.1).2.1 + 1 ≤ (cU m (qsI m p k).2.1).2.1 := h3
  dsimp only; omega
theorem qs_ge {p : Nat × Bool} : ∀ k, (qsI m p k).2.2 = true → p.1 + k ≤ (qsI m p k).2.1 ∧ p.2 = true ∧ (qsI m p k).1.length = k
  | 0, h => ⟨Nat.le_refl _, h, rfl⟩
  | k + 1, h => by
    obtain ⟨h0, hg⟩ := qs_step_gt h
    obtain ⟨h1, h2, h3⟩ := qs_ge k h0
    refine ⟨by omega, h2, ?_⟩
    rw [qs_next h0]; simp [h3]
theorem qs_len {p : Nat × Bool} (hp : p.1 ≤ m.length) : ∀ k, (qsI m p k).1.length ≤ m.length + 1
  | 0 => Nat.zero_le _
  | k + 1 => by
    cases hx : (qsI m p k).2.2 with
    | true =>
      obtain ⟨h1, _, h3⟩ := qs_ge k hx
      have := qs_le hp k
      rw [qs_next hx]
      simp [h3]; omega
    | false => rw [← qs_stop hx (Nat.le_succ k)]; exact qs_len hp k
theorem qs_sm {p : Nat × Bool} (hm : m.length ≤ 100000) : ∀ k, ∀ q ∈ (qsI m p k).1, q.Sm
  | 0, q, hq => by simp [qsI] at hq
  | k + 1, q, hq => by
    cases hx : (qsI m p k).2.2 with
    | false => rw [← qs_stop hx (Nat.le_succ k)] at hq; exact qs_sm hm k q hq
    | true =>
      rw [qs_next hx] at hq
      rcases List.mem_append.1 hq with hq | hq
      · exact qs_sm hm k q hq
      · simp at hq; subst hq
        have h1 := rdT_len m (qsI m p k).2.1
        have h2 := sp_len (m := m) (p := (cU m (qsI m p k).2.1).2) (cU_le _) (cU m (qsI m p k).2.1).1
        exact ⟨by dsimp only; omega, by dsimp only; omega⟩
end
def rr1 (m : Bytes) : Bytes × Nat × Bool := rdT m 0
def rr2 (m : Bytes) : Nat × Nat × Bool := stU m (rr1 m).2
def rr3 (m : Bytes) : Nat × Nat × Bool := stU m (rr2 m).2
def rr4 (m : Bytes) : Nat × Nat × Bool := stU m (rr3 m).2
def rr5 (m : Bytes) : Bytes × Nat × Bool := stT m (rr4 m).2
def rr6 (m : Bytes) : Bytes × Nat × Bool := stT m (rr5 m).2
def rr7 (m : Bytes) : Bytes × Nat × Bool := stT m (rr6 m).2
def rr8 (m : Bytes) : List Req × Nat × Bool := if (rr7 m).2.2 then rqs m (rr7 m).2.1 else ([], (rr7 m).2)
@[reducible] def outR (m : Bytes) : Rls := ⟨(rr1 m).1, ⟨majN (rr1 m).1, ((rr2 m).1 : Nat), ((rr3 m).1 : Nat)⟩, (rr8 m).1, (rr5 m).1, (rr6 m).1, (rr7 m).1, (((rr4 m).1 : Nat) : Int) == 1⟩
def refB (m : Bytes) : Prop := (rr8 m).2.2 = false ∨ (((rr4 m).1 : Nat) : Int) > 1 ∨ (rr8 m).2.1 ≠ m.length ∨ relE (outR m) ≠ 0
instance (m : Bytes) : Decidable (refB m) := by unfold refB; infer_instance
def refRd (m : Bytes) : Rls × Int := if refB m then (zeroR, 9) else (outR m, 0)
section
variable (m : Bytes)
theorem stT_le {p : Nat × Bool} (h : p.1 ≤ m.length) : (stT m p).2.1 ≤ m.length := by
  unfold stT; split
  · exact rdT_le _ _
  · exact h
theorem stT_len (p : Nat × Bool) : (stT m p).1.length ≤ m.length := by
  unfold stT; split
  · exact rdT_len _ _
  · simp
theorem le1 : (rr1 m).2.1 ≤ m.length := rdT_le _ _
theorem le2 : (rr2 m).2.1 ≤ m.length := stU_le (le1 m)
theorem le3 : (rr3 m).2.1 ≤ m.length := stU_le (le2 m)
theorem le4 : (rr4 m).2.1 ≤ m.length := stU_le (le3 m)
theorem le5 : (rr5 m).2.1 ≤ m.length := stT_le m (le4 m)
theorem le6 : (rr6 m).2.1 ≤ m.length := stT_le m (le5 m)
theorem le7 : (rr7 m).2.1 ≤ m.length := stT_le m (le6 m)
theorem outR_sm (hm : m.length ≤ 100000) : (outR m).Sm := by
  have h1 := rdT_len m 0
  have h5 := stT_len m (rr4 m).2; have h6 := stT_len m (rr5 m).2; have h7 := stT_len m (rr6 m).2
  refine ⟨Nat.le_trans h1 hm, Nat.lt_of_le_of_lt h5 (by unfold B62; omega), Nat.lt_of_le_of_lt h6 (by unfold B62; omega), Nat.lt_of_le_of_lt h7 (by unfold B62; omega), ?_, ?_⟩
  · show (rr8 m).1.length < _
    unfold rr8; split
    · exact Nat.lt_of_le_of_lt (qs_len (rdN_le (le7 m)) _) (by unfold B62; omega)
    · simp [B62]
  · show ∀ q ∈ (rr8 m).1, q.Sm
    unfold rr8; split
    · exact qs_sm hm _
    · intro q hq; simp at hq
end
end Go.Pm
namespace Go.Pm
theorem stU_lt (m : Bytes) (p : Nat × Bool) : (stU m p).1 < 9223372036854775808 := by
  unfold stU; split
  · exact rdN_lt _ _
  · simp
end Go.Pm

namespace Go.Pm
open Go.Proofs

set_option maxRecDepth 10000 in
set_option maxHeartbeats 4000000 in
theorem c72 (m : Bytes) (p : Nat) (hm : m.length ≤ 100000) (hp : p ≤ m.length) : Fn PR 72 [.d (.str m), .d (I (p : Nat))] [] [.d (reqsD (rqs m p).1), .d (I ((rqs m p).2.1 : Nat)), .d (.bool (rqs m p).2.2)] [] := by
 refine fn_of_awp Tryz.func72 rfl (N := 87) rfl ?_
 refine xsr ?_
 iterate 3 refine las rfl rfl rfl rfl rfl ?_
 refine lendF ?_
 refine xsr ?_
 iterate 2 refine lmv rfl rfl rfl rfl rfl ?_
 refine xlz (o_call (c71 m p (by omega) hp) rfl rfl rfl ca71 rfl rfl) ?_
 refine lmv rfl rfl rfl rfl rfl ?_
 refine xlz (op_extract rfl rfl rfl rfl) ?_
 refine xlz (op_extract rfl rfl rfl rfl) ?_
 refine xlz (op_extract rfl rfl rfl rfl) ?_
 iterate 3 refine las rfl rfl rfl rfl rfl ?_
 refine lendF ?_
 refine xsr ?_
 refine xlz (o_bs rfl rfl rfl rfl rfl ty26 ty51 rfl rfl) ?_
 refine las rfl rfl rfl rfl rfl ?_
 refine lendF ?_
 refine awp_seq ?_
 refine xsr ?_
 refine las rfl rfl rfl rfl rfl ?_
 refine lendF ?_
 refine awp_block ?_
 refine awp_ent (ent_tail 9 500009 2 rfl rfl rfl (by decide)) ?_
 refine awp_loop (fun i => ⟨87, [(10, .d (I (i : Nat))), (1, .d (I ((qsI m (rdN m p).2 i).2.1 : Nat))), (8, .d (.bool (qsI m (rdN m p).2 i).2.2)), (9, .tl ((qsI m (rdN m p).2 i).1.map Req.d) (some 500009)), (7, .d (I ((rdN m p).1 : Nat))), (0, .d (.str m))], [(500009, .tail 2)]⟩) (fun i => if (qsI m (rdN m p).2 i).2.2 then m.length + 1 - (qsI m (rdN m p).2 i).2.1 else 0) (fun i => i ≤ (rdN m p).1) 0 ?_ ?_ ?_
 ·
  exact ent_k [] rfl rfl ((by repeat (first | exact .nil | refine xkc ?_))) (obs_cons rfl (o_eq rfl) obs_nil) rfl
 ·
  exact Nat.zero_le _
 ·
  rintro i hi
  refine awp_seq ?_
  refine xsr ?_
  iterate 2 refine lmv rfl rfl rfl rfl rfl ?_
  refine lsplit rfl (fun hg1 => ?_) (fun hg1 => ?_)
  ·
   have hok : (qsI m (rdN m p).2 i).2.2 = true := by (have h := (g11 hg1)); simpa using h
   iterate 2 refine gmv hg1 rfl rfl rfl rfl rfl ?_
   refine lg (op_binI rfl rfl rfl rfl rfl (.inl rfl) rfl) rfl hg1 rfl rfl ?_
   refine xlz (o_pT rfl rfl (g11 hg1) rfl rfl) ?_
   refine lendF ?_
   refine awp_cond rfl rfl (fun hc2 => ?_) (fun hc2 => ?_)
   ·
    have hnb := rdN_lt m p
    have hin : i < (rdN m p).1 := by (have h := hc2); simpa using h
    refine awp_skip ?_
    refine awp_seq ?_
    refine awp_block ?_
    refine xsr ?_
    refine xlz (o_bldP rfl rfl rfl bl51 ty51 zk51 rfl rfl) ?_
    refine xlz (op_alloc rfl rfl (by decide) ty51 zk51 rfl) ?_
    refine xlz (op_store rfl rfl rfl rfl rfl rfl ty51 rfl (xlb rfl)) ?_
    refine lendF ?_
    refine xsr ?_
    refine las rfl rfl rfl rfl rfl ?_
    refine lendF ?_
    refine xsr ?_
    iterate 2 refine lmv rfl rfl rfl rfl rfl ?_
    refine xlz (o_call (c70 m (qsI m (rdN m p).2 i).2.1 (by omega) (qs_le (rdN_le hp) i)) rfl rfl rfl ca70 rfl rfl) ?_
    refine lmv rfl rfl rfl rfl rfl ?_
    refine xlz (op_extract rfl rfl rfl rfl) ?_
    refine xlz (op_extract rfl rfl rfl rfl) ?_
    refine xlz (op_extract rfl rfl rfl rfl) ?_
    refine xlz (op_fieldP rfl rfl rfl fl51_0) ?_
    refine xlz (op_store rfl rfl rfl rfl rfl rfl ty9 rfl (xlb rfl)) ?_
    iterate 2 refine las rfl rfl rfl rfl rfl ?_
    refine lendF ?_
    refine awp_joinX (fun _ : Unit => ⟨87, [(12, .d (I ((cU m (qsI m (rdN m p).2 i).2.1).1 : Nat))), (1, .d (I ((cU m (qsI m (rdN m p).2 i).2.1).2.1 : Nat))), (8, .d (.bool (cU m (qsI m (rdN m p).2 i).2.1).2.2)), (11, .ptr 11 0), (0, .d (.str m)), (7, .d (I ((rdN m p).1 : Nat))), (9, .tl ((qsI m (rdN m p).2 i).1.map Req.d) (some 500009)), (10, .d (I (i : Nat))), (23, .d (.bool (qsI m (rdN m p).2 i).2.2)), (24, .d (.bool (qsI m (rdN m p).2 i).2.2)), (25, .d (I (i : Nat))), (26, .d (I ((rdN m p).1 : Nat))), (31, .agg [.d (.str []), .nils]), (32, .tup [.d (.str (rdT m (qsI m (rdN m p).2 i).2.1).1), .d (I ((rdT m (qsI m (rdN m p).2 i).2.1).2.1 : Nat)), .d (.bool (rdT m (qsI m (rdN m p).2 i).2.1).2.2)]), (33, .d (.str m)), (34, .d (I ((qsI m (rdN m p).2 i).2.1 : Nat))), (35, .tup [.d (.str (rdT m (qsI m (rdN m p).2 i).2.1).1), .d (I ((rdT m (qsI m (rdN m p).2 i).2.1).2.1 : Nat)), .d (.bool (rdT m (qsI m (rdN m p).2 i).2.1).2.2)]), (36, .d (.str (rdT m (qsI m (rdN m p).2 i).2.1).1)), (37, .d (I ((rdT m (qsI m (rdN m p).2 i).2.1).2.1 : Nat))), (38, .d (.bool (rdT m (qsI m (rdN m p).2 i).2.1).2.2)), (39, .ptr 11 0)], [(11, .cells [.d (.str (rdT m (qsI m (rdN m p).2 i).2.1).1), .nils]), (500009, .tail 2)]⟩) (fun _ : Unit => True) ?_ ?_
    ·
     refine xsr ?_
     refine lmv rfl rfl rfl rfl rfl ?_
     refine lendF ?_
     refine awp_cond rfl rfl (fun hc3 => ?_) (fun hc3 => ?_)
     ·
      have hk1 : (rdT m (qsI m (rdN m p).2 i).2.1).2.2 = true := by (have h := hc3); simpa using h
      refine awp_region mixed ?_
      iterate 2 refine lmv rfl rfl rfl rfl rfl ?_
      refine xlz (o_call (c71 m (rdT m (qsI m (rdN m p).2 i).2.1).2.1 (by omega) (rdT_le _ _)) rfl rfl rfl ca71 rfl rfl) ?_
      refine lmv rfl rfl rfl rfl rfl ?_
      refine xlz (op_extract rfl rfl rfl rfl) ?_
      refine xlz (op_extract rfl rfl rfl rfl) ?_
      refine xlz (op_extract rfl rfl rfl rfl) ?_
      iterate 3 refine las rfl rfl rfl rfl rfl ?_
      refine lendF ?_
      refine ⟨(), ?_, ?_⟩
      ·
       exact True.intro
      ·
       exact ent_k [] rfl rfl (.cons rfl (k_i (by simp [cU, stU, hk1])) <| .cons rfl (k_i (by simp [cU, stU, hk1])) <| .cons rfl (k_b (by simp [cU, stU, hk1])) <| (by repeat (first | exact .nil | refine xkc ?_))) (obs_cons rfl (o_eq rfl) (obs_cons rfl (o_eq rfl) obs_nil)) rfl
     ·
      have hk1 : (rdT m (qsI m (rdN m p).2 i).2.1).2.2 = false := by (have h := hc3); simpa using h
      refine awp_skip ?_
      refine ⟨(), ?_, ?_⟩
      ·
       exact True.intro
      ·
       exact ent_k [] rfl rfl (.cons rfl (k_i (by simp [cU, stU, hk1])) <| .cons rfl (k_i (by simp [cU, stU, hk1])) <| .cons rfl (k_b (by simp [cU, stU, hk1])) <| (by repeat (first | exact .nil | refine xkc ?_))) (obs_cons rfl (o_eq rfl) (obs_cons rfl (o_eq rfl) obs_nil)) rfl
    ·
     rintro _ _
     refine awp_seq ?_
     refine xsr ?_
     refine las rfl rfl rfl rfl rfl ?_
     refine lendF ?_
     refine awp_block ?_
     refine awp_ent (ent_tailc 11 1 500078 2 rfl rfl rfl (by decide) rfl) ?_
     refine awp_loop (fun k => ⟨87, [(13, .d (I (k : Nat))), (1, .d (I ((spI m (cU m (qsI m (rdN m p).2 i).2.1).2 k).2.1 : Nat))), (8, .d (.bool (spI m (cU m (qsI m (rdN m p).2 i).2.1).2 k).2.2)), (12, .d (I ((cU m (qsI m (rdN m p).2 i).2.1).1 : Nat))), (11, .ptr 11 0), (0, .d (.str m)), (7, .d (I ((rdN m p).1 : Nat))), (9, .tl ((qsI m (rdN m p).2 i).1.map Req.d) (some 500009)), (10, .d (I (i : Nat))), (23, .d (.bool (qsI m (rdN m p).2 i).2.2)), (24, .d (.bool (qsI m (rdN m p).2 i).2.2)), (25, .d (I (i : Nat))), (26, .d (I ((rdN m p).1 : Nat))), (31, .agg [.d (.str []), .nils]), (32, .tup [.d (.str (rdT m (qsI m (rdN m p).2 i).2.1).1), .d (I ((rdT m (qsI m (rdN m p).2 i).2.1).2.1 : Nat)), .d (.bool (rdT m (qsI m (rdN m p).2 i).2.1).2.2)]), (33, .d (.str m)), (34, .d (I ((qsI m (rdN m p).2 i).2.1 : Nat))), (35, .tup [.d (.str (rdT m (qsI m (rdN m p).2 i).2.1).1), .d (I ((rdT m (qsI m (rdN m p).2 i).2.1).2.1 : Nat)), .d (.bool (rdT m (qsI m (rdN m p).2 i).2.1).2.2)]), (36, .d (.str (rdT m (qsI m (rdN m p).2 i).2.1).1)), (37, .d (I ((rdT m (qsI m (rdN m p).2 i).2.1).2.1 : Nat))), (38, .d (.bool (rdT m (qsI m (rdN m p).2 i).2.1).2.2)), (39, .ptr 11 0)], [(11, .cells [.d (.str (rdT m (qsI m (rdN m p).2 i).2.1).1), .tl ((spI m (cU m (qsI m (rdN m p).2 i).2.1).2 k).1.map Span.d) (some 500078)]), (500078, .tail 2), (500009, .tail 2)]⟩) (fun k => if (spI m (cU m (qsI m (rdN m p).2 i).2.1).2 k).2.2 then m.length + 1 - (spI m (cU m (qsI m (rdN m p).2 i).2.1).2 k).2.1 else 0) (fun k => k ≤ (cU m (qsI m (rdN m p).2 i).2.1).1) 0 ?_ ?_ ?_
     ·
      exact ent_k [] rfl rfl ((by repeat (first | exact .nil | refine xkc ?_))) (obs_cons rfl (.cells (by repeat (first | exact .nil | refine .cons (by first | exact k_eq rfl | exact .same _) ?_))) (obs_cons rfl (o_eq rfl) (obs_cons rfl (o_eq rfl) obs_nil))) rfl
     ·
      exact Nat.zero_le _
     ·
      rintro k hk
      refine awp_seq ?_
      refine xsr ?_
      iterate 2 refine lmv rfl rfl rfl rfl rfl ?_
      refine lsplit rfl (fun hg4 => ?_) (fun hg4 => ?_)
      ·
       have hko : (spI m (cU m (qsI m (rdN m p).2 i).2.1).2 k).2.2 = true := by (have h := (g11 hg4)); simpa using h
       iterate 2 refine gmv hg4 rfl rfl rfl rfl rfl ?_
       refine lg (op_binI rfl rfl rfl rfl rfl (.inl rfl) rfl) rfl hg4 rfl rfl ?_
       refine xlz (o_pT rfl rfl (g11 hg4) rfl rfl) ?_
       refine lendF ?_
       refine awp_cond rfl rfl (fun hc5 => ?_) (fun hc5 => ?_)
       ·
        have hcb : (cU m (qsI m (rdN m p).2 i).2.1).1 < 9223372036854775808 := stU_lt _ _
        have hk2 : k < (cU m (qsI m (rdN m p).2 i).2.1).1 := by (have h := hc5); simpa using h
        refine awp_skip ?_
        refine awp_seq ?_
        refine awp_block ?_
        refine xsr ?_
        refine xlz (o_bld rfl rfl rfl bl78 ty78 zk78 rfl rfl rfl) ?_
        refine xlz (op_alloc rfl rfl (by decide) ty78 zk78 rfl) ?_
        refine xlz (op_store rfl rfl rfl rfl rfl rfl ty78 rfl (xlb rfl)) ?_
        refine lendF ?_
        refine xsr ?_
        iterate 2 refine lmv rfl rfl rfl rfl rfl ?_
        refine xlz (o_call (c71 m (spI m (cU m (qsI m (rdN m p).2 i).2.1).2 k).2.1 (by omega) (sp_le (cU_le _) k)) rfl rfl rfl ca71 rfl rfl) ?_
        refine lmv rfl rfl rfl rfl rfl ?_
        refine xlz (op_extract rfl rfl rfl rfl) ?_
        refine xlz (op_extract rfl rfl rfl rfl) ?_
        refine xlz (op_extract rfl rfl rfl rfl) ?_
        refine xlz (op_fieldP rfl rfl rfl fl78_0) ?_
        refine xlz (op_store rfl rfl rfl rfl rfl rfl ty3 rfl (xlb rfl)) ?_
        iterate 2 refine las rfl rfl rfl rfl rfl ?_
        refine lendF ?_
        refine awp_joinX (fun _ : Unit => ⟨87, [(1, .d (I ((stU m (rdN m (spI m (cU m (qsI m (rdN m p).2 i).2.1).2 k).2.1).2).2.1 : Nat))), (8, .d (.bool (stU m (rdN m (spI m (cU m (qsI m (rdN m p).2 i).2.1).2 k).2.1).2).2.2)), (14, .ptr 14 0), (0, .d (.str m)), (7, .d (I ((rdN m p).1 : Nat))), (9, .tl ((qsI m (rdN m p).2 i).1.map Req.d) (some 500009)), (10, .d (I (i : Nat))), (11, .ptr 11 0), (12, .d (I ((cU m (qsI m (rdN m p).2 i).2.1).1 : Nat))), (13, .d (I (k : Nat))), (23, .d (.bool (qsI m (rdN m p).2 i).2.2)), (24, .d (.bool (qsI m (rdN m p).2 i).2.2)), (25, .d (I (i : Nat))), (26, .d (I ((rdN m p).1 : Nat))), (31, .agg [.d (.str []), .nils]), (32, .tup [.d (.str (rdT m (qsI m (rdN m p).2 i).2.1).1), .d (I ((rdT m (qsI m (rdN m p).2 i).2.1).2.1 : Nat)), .d (.bool (rdT m (qsI m (rdN m p).2 i).2.1).2.2)]), (33, .d (.str m)), (34, .d (I ((qsI m (rdN m p).2 i).2.1 : Nat))), (35, .tup [.d (.str (rdT m (qsI m (rdN m p).2 i).2.1).1), .d (I ((rdT m (qsI m (rdN m p).2 i).2.1).2.1 : Nat)), .d (.bool (rdT m (qsI m (rdN m p).2 i).2.1).2.2)]), (36, .d (.str (rdT m (qsI m (rdN m p).2 i).2.1).1)), (37, .d (I ((rdT m (qsI m (rdN m p).2 i).2.1).2.1 : Nat))), (38, .d (.bool (rdT m (qsI m (rdN m p).2 i).2.1).2.2)), (39, .ptr 11 0), (48, .d (.bool (spI m (cU m (qsI m (rdN m p).2 i).2.1).2 k).2.2)), (49, .d (.bool (spI m (cU m (qsI m (rdN m p).2 i).2.1).2 k).2.2)), (50, .d (I (k : Nat))), (51, .d (I ((cU m (qsI m (rdN m p).2 i).2.1).1 : Nat))), (56, .d (.agg [I 0, I 0])), (57, .tup [.d (I ((rdN m (spI m (cU m (qsI m (rdN m p).2 i).2.1).2 k).2.1).1 : Nat)), .d (I ((rdN m (spI m (cU m (qsI m (rdN m p).2 i).2.1).2 k).2.1).2.1 : Nat)), .d (.bool (rdN m (spI m (cU m (qsI m (rdN m p).2 i).2.1).2 k).2.1).2.2)]), (58, .d (.str m)), (59, .d (I ((spI m (cU m (qsI m (rdN m p).2 i).2.1).2 k).2.1 : Nat))), (60, .tup [.d (I ((rdN m (spI m (cU m (qsI m (rdN m p).2 i).2.1).2 k).2.1).1 : Nat)), .d (I ((rdN m (spI m (cU m (qsI m (rdN m p).2 i).2.1).2 k).2.1).2.1 : Nat)), .d (.bool (rdN m (spI m (cU m (qsI m (rdN m p).2 i).2.1).2 k).2.1).2.2)]), (61, .d (I ((rdN m (spI m (cU m (qsI m (rdN m p).2 i).2.1).2 k).2.1).1 : Nat))), (62, .d (I ((rdN m (spI m (cU m (qsI m (rdN m p).2 i).2.1).2 k).2.1).2.1 : Nat))), (63, .d (.bool (rdN m (spI m (cU m (qsI m (rdN m p).2 i).2.1).2 k).2.1).2.2)), (64, .ptr 14 0)], [(14, .cells [.d (I ((rdN m (spI m (cU m (qsI m (rdN m p).2 i).2.1).2 k).2.1).1 : Nat)), .d (I ((stU m (rdN m (spI m (cU m (qsI m (rdN m p).2 i).2.1).2 k).2.1).2).1 : Nat))]), (11, .cells [.d (.str (rdT m (qsI m (rdN m p).2 i).2.1).1), .tl ((spI m (cU m (qsI m (rdN m p).2 i).2.1).2 k).1.map Span.d) (some 500078)]), (500078, .tail 2), (500009, .tail 2)]⟩) (fun _ : Unit => True) ?_ ?_
        ·
         refine xsr ?_
         refine lmv rfl rfl rfl rfl rfl ?_
         refine lendF ?_
         refine awp_cond rfl rfl (fun hc6 => ?_) (fun hc6 => ?_)
         ·
          have hk3 : (rdN m (spI m (cU m (qsI m (rdN m p).2 i).2.1).2 k).2.1).2.2 = true := by (have h := hc6); simpa using h
          refine awp_region mixed ?_
          iterate 2 refine lmv rfl rfl rfl rfl rfl ?_
          refine xlz (o_call (c71 m (rdN m (spI m (cU m (qsI m (rdN m p).2 i).2.1).2 k).2.1).2.1 (by omega) (rdN_le (sp_le (cU_le _) k))) rfl rfl rfl ca71 rfl rfl) ?_
          refine lmv rfl rfl rfl rfl rfl ?_
          refine xlz (op_extract rfl rfl rfl rfl) ?_
          refine xlz (op_extract rfl rfl rfl rfl) ?_
          refine xlz (op_extract rfl rfl rfl rfl) ?_
          refine xlz (op_fieldP rfl rfl rfl fl78_1) ?_
          refine xlz (op_store rfl rfl rfl rfl rfl rfl ty3 rfl (xlb rfl)) ?_
          iterate 2 refine las rfl rfl rfl rfl rfl ?_
          refine lendF ?_
          refine ⟨(), ?_, ?_⟩
          ·
           exact True.intro
          ·
           exact ent_k [] rfl rfl (.cons rfl (k_i (by simp [stU, hk3])) <| .cons rfl (k_b (by simp [stU, hk3])) <| (by repeat (first | exact .nil | refine xkc ?_))) (obs_cons rfl (.cells (.cons (k_eq rfl) (.cons (by first | exact k_eq rfl | exact k_i (by simp [stU, hk3])) .nil))) (obs_cons rfl (o_eq rfl) (obs_cons rfl (o_eq rfl) (obs_cons rfl (o_eq rfl) obs_nil)))) rfl
         ·
          have hk3 : (rdN m (spI m (cU m (qsI m (rdN m p).2 i).2.1).2 k).2.1).2.2 = false := by (have h := hc6); simpa using h
          refine awp_skip ?_
          refine ⟨(), ?_, ?_⟩
          ·
           exact True.intro
          ·
           exact ent_k [] rfl rfl (.cons rfl (k_i (by simp [stU, hk3])) <| .cons rfl (k_b (by simp [stU, hk3])) <| (by repeat (first | exact .nil | refine xkc ?_))) (obs_cons rfl (.cells (.cons (k_eq rfl) (.cons (by first | exact k_eq rfl | exact k_i (by simp [stU, hk3])) .nil))) (obs_cons rfl (o_eq rfl) (obs_cons rfl (o_eq rfl) (obs_cons rfl (o_eq rfl) obs_nil)))) rfl
        ·
         rintro _ _
         refine awp_region mixed ?_
         refine xlz (op_fieldP rfl rfl rfl fl51_1) ?_
         refine xlz (op_load1 rfl rfl rfl rfl ty49 rfl rfl) ?_
         refine xlz (o_ldA rfl rfl rfl rfl ty78 rfl (xlb rfl) rfl) ?_
         refine xlz (o_bs rfl rfl rfl rfl rfl ty49 ty78 rfl rfl) ?_
         refine xlz (o_app rfl rfl (by decide) rfl rfl rfl ty49 ty78 rfl (by decide) rfl (by intro d hd; obtain ⟨x, _, rfl⟩ := List.mem_map.1 hd; rfl) (by simp [D.cells]) (by have := sp_len (m := m) (p := (cU m (qsI m (rdN m p).2 i).2.1).2) (cU_le _) k; simp; omega) (by decide) (show _ = (spI m (cU m (qsI m (rdN m p).2 i).2.1).2 (k + 1)).1.map Span.d from by rw [sp_next hko]; simp)) ?_
         refine xlz (op_fieldP rfl rfl rfl fl51_1) ?_
         refine xlz (op_store rfl rfl rfl rfl rfl rfl ty49 rfl (xlb rfl)) ?_
         refine lendF ?_
         refine awp_region mixed ?_
         refine lmv rfl rfl rfl rfl rfl ?_
         refine xlz (o_add rfl rfl rfl rfl (by first | omega | (simp; omega) | (simp at *; omega))) ?_
         refine las rfl rfl rfl rfl rfl ?_
         refine lendF ?_
         refine ⟨k + 1, ?_, ?_, ?_⟩
         ·
          exact hk2
         ·
          exact ent_k [(500078, 78)] rfl rfl (xkc <| .cons rfl (k_i (by rw [sp_next hko])) <| .cons rfl (k_b (by rw [sp_next hko])) <| (by repeat (first | exact .nil | refine xkc ?_))) (obs_cons rfl (.cells (by repeat (first | exact .nil | refine .cons (by first | exact k_eq rfl | exact .same _) ?_))) (obs_cons rfl (o_eq rfl) (obs_cons rfl (o_eq rfl) obs_nil))) rfl
         ·
          rw [if_pos hko]
          have hle := sp_le (m := m) (p := (cU m (qsI m (rdN m p).2 i).2.1).2) (cU_le _) k
          cases hx : (spI m (cU m (qsI m (rdN m p).2 i).2.1).2 (k + 1)).2.2 with
          | true => rw [if_pos rfl]; rw [sp_next hko] at hx ⊢; have h4 := stU_ge hx; have h5 := rdN_gt h4.2; dsimp only; omega
          | false => rw [if_neg (by simp)]; omega
       ·
        obtain rfl : k = (cU m (qsI m (rdN m p).2 i).2.1).1 := by (have h := hc5); simp at h; omega
        refine awp_exit ?_
        first | rw [sp_stop hko hk] | skip
        refine awp_region mixed ?_
        refine lmv rfl rfl rfl rfl rfl ?_
        refine xlz (o_ldA rfl rfl rfl rfl ty51 rfl (xlb rfl) rfl) ?_
        refine xlz (o_bs rfl rfl rfl rfl rfl ty26 ty51 rfl rfl) ?_
        refine xlz (o_app rfl rfl (by decide) rfl rfl rfl ty26 ty51 rfl (by decide) rfl (by intro d hd; obtain ⟨x, _, rfl⟩ := List.mem_map.1 hd; rfl) (by simp [D.cells]) (by have := qs_len (m := m) (p := (rdN m p).2) (rdN_le hp) i; simp; omega) (by decide) (show _ = (qsI m (rdN m p).2 (i + 1)).1.map Req.d from by rw [qs_next hok]; simp)) ?_
        refine las rfl rfl rfl rfl rfl ?_
        refine lendF ?_
        refine awp_region mixed ?_
        refine lmv rfl rfl rfl rfl rfl ?_
        refine xlz (o_add rfl rfl rfl rfl (by first | omega | (simp; omega) | (simp at *; omega))) ?_
        refine las rfl rfl rfl rfl rfl ?_
        refine lendF ?_
        refine ⟨i + 1, ?_, ?_, ?_⟩
        ·
         exact hin
        ·
         exact ent_k [(500009, 83)] rfl rfl (xkc <| .cons rfl (k_i (by rw [qs_next hok])) <| .cons rfl (k_b (by rw [qs_next hok])) <| (by repeat (first | exact .nil | refine xkc ?_))) (obs_cons rfl (o_eq rfl) obs_nil) rfl
        ·
         rw [if_pos hok]
         have hle := qs_le (m := m) (p := (rdN m p).2) (rdN_le hp) i
         cases hx : (qsI m (rdN m p).2 (i + 1)).2.2 with
         | true => rw [if_pos rfl]; have := (qs_step_gt hx).2; omega
         | false => rw [if_neg (by simp)]; omega
      ·
       have hko : (spI m (cU m (qsI m (rdN m p).2 i).2.1).2 k).2.2 = false := by (have h := (g10 hg4)); simpa using h
       iterate 3 refine lskip rfl hg4 rfl ?_
       refine xlz (o_pF rfl rfl (g10 hg4) rfl rfl) ?_
       refine lendF ?_
       refine awp_condF rfl rfl rfl ?_
       refine awp_exit ?_
       first | rw [sp_stop hko hk] | skip
       refine awp_region mixed ?_
       refine lmv rfl rfl rfl rfl rfl ?_
       refine xlz (o_ldA rfl rfl rfl rfl ty51 rfl (xlb rfl) rfl) ?_
       refine xlz (o_bs rfl rfl rfl rfl rfl ty26 ty51 rfl rfl) ?_
       refine xlz (o_app rfl rfl (by decide) rfl rfl rfl ty26 ty51 rfl (by decide) rfl (by intro d hd; obtain ⟨x, _, rfl⟩ := List.mem_map.1 hd; rfl) (by simp [D.cells]) (by have := qs_len (m := m) (p := (rdN m p).2) (rdN_le hp) i; simp; omega) (by decide) (show _ = (qsI m (rdN m p).2 (i + 1)).1.map Req.d from by rw [qs_next hok]; simp)) ?_
       refine las rfl rfl rfl rfl rfl ?_
       refine lendF ?_
       refine awp_region mixed ?_
       refine lmv rfl rfl rfl rfl rfl ?_
       refine xlz (o_add rfl rfl rfl rfl (by first | omega | (simp; omega) | (simp at *; omega))) ?_
       refine las rfl rfl rfl rfl rfl ?_
       refine lendF ?_
       refine ⟨i + 1, ?_, ?_, ?_⟩
       ·
        exact hin
       ·
        exact ent_k [(500009, 83)] rfl rfl (xkc <| .cons rfl (k_i (by rw [qs_next hok])) <| .cons rfl (k_b (by rw [qs_next hok])) <| (by repeat (first | exact .nil | refine xkc ?_))) (obs_cons rfl (o_eq rfl) obs_nil) rfl
       ·
        rw [if_pos hok]
        have hle := qs_le (m := m) (p := (rdN m p).2) (rdN_le hp) i
        cases hx : (qsI m (rdN m p).2 (i + 1)).2.2 with
        | true => rw [if_pos rfl]; have := (qs_step_gt hx).2; omega
        | false => rw [if_neg (by simp)]; omega
   ·
    obtain rfl : i = (rdN m p).1 := by (have h := hc2); simp at h; omega
    have hfin : (qsI m (rdN m p).2 (rdN m p).1) = rqs m p := rfl
    refine awp_exit ?_
    refine xsr ?_
    iterate 3 refine lmv rfl rfl rfl rfl rfl ?_
    iterate 3 refine las rfl rfl rfl rfl rfl ?_
    refine lendF ?_
    refine awp_ret ?_
    refine ⟨[_, _, _], ⟨rfl, rfl, rfl, trivial⟩, ?_⟩
    exact ent_d3 rfl (by rw [hfin]) rfl (by rw [hfin]) rfl (by rw [hfin])
  ·
   have hok : (qsI m (rdN m p).2 i).2.2 = false := by (have h := (g10 hg1)); simpa using h
   have hfin : (qsI m (rdN m p).2 i) = rqs m p := qs_stop hok hi
   iterate 3 refine lskip rfl hg1 rfl ?_
   refine xlz (o_pF rfl rfl (g10 hg1) rfl rfl) ?_
   refine lendF ?_
   refine awp_condF rfl rfl rfl ?_
   refine awp_exit ?_
   refine xsr ?_
   iterate 3 refine lmv rfl rfl rfl rfl rfl ?_
   iterate 3 refine las rfl rfl rfl rfl rfl ?_
   refine lendF ?_
   refine awp_ret ?_
   refine ⟨[_, _, _], ⟨rfl, rfl, rfl, trivial⟩, ?_⟩
   exact ent_d3 rfl (by rw [hfin]) rfl (by rw [hfin]) rfl (by rw [hfin])

end Go.Pm

namespace Go.Pm
open Go.Proofs

set_option maxRecDepth 10000 in
set_option maxHeartbeats 4000000 in
theorem c20 (m : Bytes) (hm : m.length ≤ 100000) : Fn PR 20 [.d (.str m)] [] [.d (refRd m).1.d, .d (I (refRd m).2)] [] := by
 refine fn_of_awp Tryz.func20 rfl (N := 108) rfl ?_
 refine xsr ?_
 refine xlz (op_alloc rfl rfl (by decide) ty40 zk40 rfl) ?_
 refine las rfl rfl rfl rfl rfl ?_
 refine lendF ?_
 refine xsr ?_
 refine xlz (o_bld rfl rfl rfl bl40 ty40 zk40 rfl rfl rfl) ?_
 refine xlz (op_alloc rfl rfl (by decide) ty40 zk40 rfl) ?_
 refine xlz (op_store rfl rfl rfl rfl rfl rfl ty40 rfl (xlb rfl)) ?_
 refine lendF ?_
 refine xsr ?_
 refine las rfl rfl rfl rfl rfl ?_
 refine lendF ?_
 refine xsr ?_
 refine lmv rfl rfl rfl rfl rfl ?_
 refine xlz (o_call (c70 m 0 (by omega) (Nat.zero_le _)) rfl rfl rfl ca70 rfl rfl) ?_
 refine lmv rfl rfl rfl rfl rfl ?_
 refine xlz (op_extract rfl rfl rfl rfl) ?_
 refine xlz (op_extract rfl rfl rfl rfl) ?_
 refine xlz (op_extract rfl rfl rfl rfl) ?_
 iterate 3 refine las rfl rfl rfl rfl rfl ?_
 refine lendF ?_
 refine xsr ?_
 refine lmv rfl rfl rfl rfl rfl ?_
 refine xlz (op_fieldP rfl rfl rfl fl40_0) ?_
 refine xlz (op_store rfl rfl rfl rfl rfl rfl ty9 rfl (xlb rfl)) ?_
 refine lendF ?_
 refine awp_joinX (fun _ : Unit => ⟨108, [(7, .d (I ((rr2 m).2.1 : Nat))), (8, .d (.bool (rr2 m).2.2)), (4, .ptr 4 0), (6, .d (.str (rr1 m).1)), (5, .d (I 0)), (0, .d (.str m)), (2, .ptr 2 0)], [(4, .cells [.d (.str (rr1 m).1), .d (I 0), .d (I ((rr2 m).1 : Nat)), .d (I 0), .d (.list []), .d (.str []), .d (.str []), .d (.str []), .d (.bool false)]), (2, .cells [.d (.str []), .d (I 0), .d (I 0), .d (I 0), .nils, .d (.str []), .d (.str []), .d (.str []), .d (.bool false)])]⟩) (fun _ : Unit => True) ?_ ?_
 ·
  refine xsr ?_
  refine lmv rfl rfl rfl rfl rfl ?_
  refine lendF ?_
  refine awp_cond rfl rfl (fun hc1 => ?_) (fun hc1 => ?_)
  ·
   have hk1 : (rr1 m).2.2 = true := by (have h := hc1); simpa [rr1] using h
   refine awp_region mixed ?_
   iterate 2 refine lmv rfl rfl rfl rfl rfl ?_
   refine xlz (o_call (c71 m (rr1 m).2.1 (by omega) (le1 m)) rfl rfl rfl ca71 rfl rfl) ?_
   refine lmv rfl rfl rfl rfl rfl ?_
   refine xlz (op_extract rfl rfl rfl rfl) ?_
   refine xlz (op_extract rfl rfl rfl rfl) ?_
   refine xlz (op_extract rfl rfl rfl rfl) ?_
   refine xlz (op_fieldP rfl rfl rfl fl40_1) ?_
   refine xlz (op_fieldP rfl rfl rfl fl38_1) ?_
   refine xlz (op_store rfl rfl rfl rfl rfl rfl ty3 rfl (xlb rfl)) ?_
   iterate 2 refine las rfl rfl rfl rfl rfl ?_
   refine lendF ?_
   refine ⟨(), ?_, ?_⟩
   ·
    exact True.intro
   ·
    exact ent_k [] rfl rfl (.cons rfl (k_i (by first | (simp [rr2, stU, stT, hk1]; done) | (simp [rr2, stU, stT, hk1]; rfl))) <| .cons rfl (k_b (by first | (simp [rr2, stU, stT, hk1]; done) | (simp [rr2, stU, stT, hk1]; rfl) | (simp [rr2, stU, stT, hk1]; exact hk1))) <| xkc <| xkc <| .cons rfl (by first | exact k_eq rfl | exact k_i (by simp [rr2, stU, stT, hk1])) <| (by repeat (first | exact .nil | refine xkc ?_))) (obs_cons rfl (.cells (by repeat (first | exact .nil | refine .cons (by first | exact k_eq rfl | exact k_i (by simp [rr2, stU, stT, hk1]) | exact k_s (by simp [rr2, stU, stT, hk1]) | exact k_d (by simp [rr2, stU, stT, hk1])) ?_))) (obs_cons rfl (o_eq rfl) obs_nil)) rfl
  ·
   have hk1 : (rr1 m).2.2 = false := by (have h := hc1); simpa [rr1] using h
   refine awp_skip ?_
   refine ⟨(), ?_, ?_⟩
   ·
    exact True.intro
   ·
    exact ent_k [] rfl rfl (.cons rfl (k_i (by first | (simp [rr2, stU, stT, hk1]; done) | (simp [rr2, stU, stT, hk1]; rfl))) <| .cons rfl (k_b (by first | (simp [rr2, stU, stT, hk1]; done) | (simp [rr2, stU, stT, hk1]; rfl) | (simp [rr2, stU, stT, hk1]; exact hk1))) <| xkc <| xkc <| .cons rfl (by first | exact k_eq rfl | exact k_i (by simp [rr2, stU, stT, hk1])) <| (by repeat (first | exact .nil | refine xkc ?_))) (obs_cons rfl (.cells (by repeat (first | exact .nil | refine .cons (by first | exact k_eq rfl | exact k_i (by simp [rr2, stU, stT, hk1]) | exact k_s (by simp [rr2, stU, stT, hk1]) | exact k_d (by simp [rr2, stU, stT, hk1])) ?_))) (obs_cons rfl (o_eq rfl) obs_nil)) rfl
 ·
  rintro _ _
  refine awp_joinX (fun _ : Unit => ⟨108, [(7, .d (I ((rr3 m).2.1 : Nat))), (8, .d (.bool (rr3 m).2.2)), (4, .ptr 4 0), (6, .d (.str (rr1 m).1)), (5, .d (I 0)), (0, .d (.str m)), (2, .ptr 2 0)], [(4, .cells [.d (.str (rr1 m).1), .d (I 0), .d (I ((rr2 m).1 : Nat)), .d (I ((rr3 m).1 : Nat)), .d (.list []), .d (.str []), .d (.str []), .d (.str []), .d (.bool false)]), (2, .cells [.d (.str []), .d (I 0), .d (I 0), .d (I 0), .nils, .d (.str []), .d (.str []), .d (.str []), .d (.bool false)])]⟩) (fun _ : Unit => True) ?_ ?_
  ·
   refine xsr ?_
   refine lmv rfl rfl rfl rfl rfl ?_
   refine lendF ?_
   refine awp_cond rfl rfl (fun hc2 => ?_) (fun hc2 => ?_)
   ·
    have hk2 : (rr2 m).2.2 = true := by (have h := hc2); simpa [rr1] using h
    refine awp_region mixed ?_
    iterate 2 refine lmv rfl rfl rfl rfl rfl ?_
    refine xlz (o_call (c71 m (rr2 m).2.1 (by omega) (le2 m)) rfl rfl rfl ca71 rfl rfl) ?_
    refine lmv rfl rfl rfl rfl rfl ?_
    refine xlz (op_extract rfl rfl rfl rfl) ?_
    refine xlz (op_extract rfl rfl rfl rfl) ?_
    refine xlz (op_extract rfl rfl rfl rfl) ?_
    refine xlz (op_fieldP rfl rfl rfl fl40_1) ?_
    refine xlz (op_fieldP rfl rfl rfl fl38_2) ?_
    refine xlz (op_store rfl rfl rfl rfl rfl rfl ty3 rfl (xlb rfl)) ?_
    iterate 2 refine las rfl rfl rfl rfl rfl ?_
    refine lendF ?_
    refine ⟨(), ?_, ?_⟩
    ·
     exact True.intro
    ·
     exact ent_k [] rfl rfl (.cons rfl (k_i (by first | (simp [rr3, stU, stT, hk2]; done) | (simp [rr3, stU, stT, hk2]; rfl))) <| .cons rfl (k_b (by first | (simp [rr3, stU, stT, hk2]; done) | (simp [rr3, stU, stT, hk2]; rfl) | (simp [rr3, stU, stT, hk2]; exact hk2))) <| xkc <| xkc <| .cons rfl (by first | exact k_eq rfl | exact k_i (by simp [rr3, stU, stT, hk2])) <| (by repeat (first | exact .nil | refine xkc ?_))) (obs_cons rfl (.cells (by repeat (first | exact .nil | refine .cons (by first | exact k_eq rfl | exact k_i (by simp [rr3, stU, stT, hk2]) | exact k_s (by simp [rr3, stU, stT, hk2]) | exact k_d (by simp [rr3, stU, stT, hk2])) ?_))) (obs_cons rfl (o_eq rfl) obs_nil)) rfl
   ·
    have hk2 : (rr2 m).2.2 = false := by (have h := hc2); simpa [rr1] using h
    refine awp_skip ?_
    refine ⟨(), ?_, ?_⟩
    ·
     exact True.intro
    ·
     exact ent_k [] rfl rfl (.cons rfl (k_i (by first | (simp [rr3, stU, stT, hk2]; done) | (simp [rr3, stU, stT, hk2]; rfl))) <| .cons rfl (k_b (by first | (simp [rr3, stU, stT, hk2]; done) | (simp [rr3, stU, stT, hk2]; rfl) | (simp [rr3, stU, stT, hk2]; exact hk2))) <| xkc <| xkc <| .cons rfl (by first | exact k_eq rfl | exact k_i (by simp [rr3, stU, stT, hk2])) <| (by repeat (first | exact .nil | refine xkc ?_))) (obs_cons rfl (.cells (by repeat (first | exact .nil | refine .cons (by first | exact k_eq rfl | exact k_i (by simp [rr3, stU, stT, hk2]) | exact k_s (by simp [rr3, stU, stT, hk2]) | exact k_d (by simp [rr3, stU, stT, hk2])) ?_))) (obs_cons rfl (o_eq rfl) obs_nil)) rfl
  ·
   rintro _ _
   refine awp_joinX (fun _ : Unit => ⟨108, [(7, .d (I ((rr4 m).2.1 : Nat))), (8, .d (.bool (rr4 m).2.2)), (4, .ptr 4 0), (6, .d (.str (rr1 m).1)), (5, .d (I ((rr4 m).1 : Nat))), (0, .d (.str m)), (2, .ptr 2 0)], [(4, .cells [.d (.str (rr1 m).1), .d (I 0), .d (I ((rr2 m).1 : Nat)), .d (I ((rr3 m).1 : Nat)), .d (.list []), .d (.str []), .d (.str []), .d (.str []), .d (.bool false)]), (2, .cells [.d (.str []), .d (I 0), .d (I 0), .d (I 0), .nils, .d (.str []), .d (.str []), .d (.str []), .d (.bool false)])]⟩) (fun _ : Unit => True) ?_ ?_
   ·
    refine xsr ?_
    refine lmv rfl rfl rfl rfl rfl ?_
    refine lendF ?_
    refine awp_cond rfl rfl (fun hc3 => ?_) (fun hc3 => ?_)
    ·
     have hk3 : (rr3 m).2.2 = true := by (have h := hc3); simpa [rr1] using h
     refine awp_region mixed ?_
     iterate 2 refine lmv rfl rfl rfl rfl rfl ?_
     refine xlz (o_call (c71 m (rr3 m).2.1 (by omega) (le3 m)) rfl rfl rfl ca71 rfl rfl) ?_
     refine lmv rfl rfl rfl rfl rfl ?_
     refine xlz (op_extract rfl rfl rfl rfl) ?_
     refine xlz (op_extract rfl rfl rfl rfl) ?_
     refine xlz (op_extract rfl rfl rfl rfl) ?_
     iterate 3 refine las rfl rfl rfl rfl rfl ?_
     refine lendF ?_
     refine ⟨(), ?_, ?_⟩
     ·
      exact True.intro
     ·
      exact ent_k [] rfl rfl (.cons rfl (k_i (by first | (simp [rr4, stU, stT, hk3]; done) | (simp [rr4, stU, stT, hk3]; rfl))) <| .cons rfl (k_b (by first | (simp [rr4, stU, stT, hk3]; done) | (simp [rr4, stU, stT, hk3]; rfl) | (simp [rr4, stU, stT, hk3]; exact hk3))) <| xkc <| xkc <| .cons rfl (by first | exact k_eq rfl | exact k_i (by simp [rr4, stU, stT, hk3])) <| (by repeat (first | exact .nil | refine xkc ?_))) (obs_cons rfl (.cells (by repeat (first | exact .nil | refine .cons (by first | exact k_eq rfl | exact k_i (by simp [rr4, stU, stT, hk3]) | exact k_s (by simp [rr4, stU, stT, hk3]) | exact k_d (by simp [rr4, stU, stT, hk3])) ?_))) (obs_cons rfl (o_eq rfl) obs_nil)) rfl
    ·
     have hk3 : (rr3 m).2.2 = false := by (have h := hc3); simpa [rr1] using h
     refine awp_skip ?_
     refine ⟨(), ?_, ?_⟩
     ·
      exact True.intro
     ·
      exact ent_k [] rfl rfl (.cons rfl (k_i (by first | (simp [rr4, stU, stT, hk3]; done) | (simp [rr4, stU, stT, hk3]; rfl))) <| .cons rfl (k_b (by first | (simp [rr4, stU, stT, hk3]; done) | (simp [rr4, stU, stT, hk3]; rfl) | (simp [rr4, stU, stT, hk3]; exact hk3))) <| xkc <| xkc <| .cons rfl (by first | exact k_eq rfl | exact k_i (by simp [rr4, stU, stT, hk3])) <| (by repeat (first | exact .nil | refine xkc ?_))) (obs_cons rfl (.cells (by repeat (first | exact .nil | refine .cons (by first | exact k_eq rfl | exact k_i (by simp [rr4, stU, stT, hk3]) | exact k_s (by simp [rr4, stU, stT, hk3]) | exact k_d (by simp [rr4, stU, stT, hk3])) ?_))) (obs_cons rfl (o_eq rfl) obs_nil)) rfl
   ·
    rintro _ _
    refine awp_joinX (fun _ : Unit => ⟨108, [(7, .d (I ((rr5 m).2.1 : Nat))), (8, .d (.bool (rr5 m).2.2)), (4, .ptr 4 0), (6, .d (.str (rr1 m).1)), (5, .d (I ((rr4 m).1 : Nat))), (0, .d (.str m)), (2, .ptr 2 0)], [(4, .cells [.d (.str (rr1 m).1), .d (I 0), .d (I ((rr2 m).1 : Nat)), .d (I ((rr3 m).1 : Nat)), .d (.list []), .d (.str (rr5 m).1), .d (.str []), .d (.str []), .d (.bool false)]), (2, .cells [.d (.str []), .d (I 0), .d (I 0), .d (I 0), .nils, .d (.str []), .d (.str []), .d (.str []), .d (.bool false)])]⟩) (fun _ : Unit => True) ?_ ?_
    ·
     refine xsr ?_
     refine lmv rfl rfl rfl rfl rfl ?_
     refine lendF ?_
     refine awp_cond rfl rfl (fun hc4 => ?_) (fun hc4 => ?_)
     ·
      have hk4 : (rr4 m).2.2 = true := by (have h := hc4); simpa [rr1] using h
      refine awp_region mixed ?_
      iterate 2 refine lmv rfl rfl rfl rfl rfl ?_
      refine xlz (o_call (c70 m (rr4 m).2.1 (by omega) (le4 m)) rfl rfl rfl ca70 rfl rfl) ?_
      refine lmv rfl rfl rfl rfl rfl ?_
      refine xlz (op_extract rfl rfl rfl rfl) ?_
      refine xlz (op_extract rfl rfl rfl rfl) ?_
      refine xlz (op_extract rfl rfl rfl rfl) ?_
      refine xlz (op_fieldP rfl rfl rfl fl40_3) ?_
      refine xlz (op_store rfl rfl rfl rfl rfl rfl ty9 rfl (xlb rfl)) ?_
      iterate 2 refine las rfl rfl rfl rfl rfl ?_
      refine lendF ?_
      refine ⟨(), ?_, ?_⟩
      ·
       exact True.intro
      ·
       exact ent_k [] rfl rfl (.cons rfl (k_i (by first | (simp [rr5, stU, stT, hk4]; done) | (simp [rr5, stU, stT, hk4]; rfl))) <| .cons rfl (k_b (by first | (simp [rr5, stU, stT, hk4]; done) | (simp [rr5, stU, stT, hk4]; rfl) | (simp [rr5, stU, stT, hk4]; exact hk4))) <| xkc <| xkc <| .cons rfl (by first | exact k_eq rfl | exact k_i (by simp [rr5, stU, stT, hk4])) <| (by repeat (first | exact .nil | refine xkc ?_))) (obs_cons rfl (.cells (by repeat (first | exact .nil | refine .cons (by first | exact k_eq rfl | exact k_i (by simp [rr5, stU, stT, hk4]) | exact k_s (by simp [rr5, stU, stT, hk4]) | exact k_d (by simp [rr5, stU, stT, hk4])) ?_))) (obs_cons rfl (o_eq rfl) obs_nil)) rfl
     ·
      have hk4 : (rr4 m).2.2 = false := by (have h := hc4); simpa [rr1] using h
      refine awp_skip ?_
      refine ⟨(), ?_, ?_⟩
      ·
       exact True.intro
      ·
       exact ent_k [] rfl rfl (.cons rfl (k_i (by first | (simp [rr5, stU, stT, hk4]; done) | (simp [rr5, stU, stT, hk4]; rfl))) <| .cons rfl (k_b (by first | (simp [rr5, stU, stT, hk4]; done) | (simp [rr5, stU, stT, hk4]; rfl) | (simp [rr5, stU, stT, hk4]; exact hk4))) <| xkc <| xkc <| .cons rfl (by first | exact k_eq rfl | exact k_i (by simp [rr5, stU, stT, hk4])) <| (by repeat (first | exact .nil | refine xkc ?_))) (obs_cons rfl (.cells (by repeat (first | exact .nil | refine .cons (by first | exact k_eq rfl | exact k_i (by simp [rr5, stU, stT, hk4]) | exact k_s (by simp [rr5, stU, stT, hk4]) | exact k_d (by simp [rr5, stU, stT, hk4])) ?_))) (obs_cons rfl (o_eq rfl) obs_nil)) rfl
    ·
     rintro _ _
     refine awp_joinX (fun _ : Unit => ⟨108, [(7, .d (I ((rr6 m).2.1 : Nat))), (8, .d (.bool (rr6 m).2.2)), (4, .ptr 4 0), (6, .d (.str (rr1 m).1)), (5, .d (I ((rr4 m).1 : Nat))), (0, .d (.str m)), (2, .ptr 2 0)], [(4, .cells [.d (.str (rr1 m).1), .d (I 0), .d (I ((rr2 m).1 : Nat)), .d (I ((rr3 m).1 : Nat)), .d (.list []), .d (.str (rr5 m).1), .d (.str (rr6 m).1), .d (.str []), .d (.bool false)]), (2, .cells [.d (.str []), .d (I 0), .d (I 0), .d (I 0), .nils, .d (.str []), .d (.str []), .d (.str []), .d (.bool false)])]⟩) (fun _ : Unit => True) ?_ ?_
     ·
      refine xsr ?_
      refine lmv rfl rfl rfl rfl rfl ?_
      refine lendF ?_
      refine awp_cond rfl rfl (fun hc5 => ?_) (fun hc5 => ?_)
      ·
       have hk5 : (rr5 m).2.2 = true := by (have h := hc5); simpa [rr1] using h
       refine awp_region mixed ?_
       iterate 2 refine lmv rfl rfl rfl rfl rfl ?_
       refine xlz (o_call (c70 m (rr5 m).2.1 (by omega) (le5 m)) rfl rfl rfl ca70 rfl rfl) ?_
       refine lmv rfl rfl rfl rfl rfl ?_
       refine xlz (op_extract rfl rfl rfl rfl) ?_
       refine xlz (op_extract rfl rfl rfl rfl) ?_
       refine xlz (op_extract rfl rfl rfl rfl) ?_
       refine xlz (op_fieldP rfl rfl rfl fl40_4) ?_
       refine xlz (op_store rfl rfl rfl rfl rfl rfl ty9 rfl (xlb rfl)) ?_
       iterate 2 refine las rfl rfl rfl rfl rfl ?_
       refine lendF ?_
       refine ⟨(), ?_, ?_⟩
       ·
        exact True.intro
       ·
        exact ent_k [] rfl rfl (.cons rfl (k_i (by first | (simp [rr6, stU, stT, hk5]; done) | (simp [rr6, stU, stT, hk5]; rfl))) <| .cons rfl (k_b (by first | (simp [rr6, stU, stT, hk5]; done) | (simp [rr6, stU, stT, hk5]; rfl) | (simp [rr6, stU, stT, hk5]; exact hk5))) <| xkc <| xkc <| .cons rfl (by first | exact k_eq rfl | exact k_i (by simp [rr6, stU, stT, hk5])) <| (by repeat (first | exact .nil | refine xkc ?_))) (obs_cons rfl (.cells (by repeat (first | exact .nil | refine .cons (by first | exact k_eq rfl | exact k_i (by simp [rr6, stU, stT, hk5]) | exact k_s (by simp [rr6, stU, stT, hk5]) | exact k_d (by simp [rr6, stU, stT, hk5])) ?_))) (obs_cons rfl (o_eq rfl) obs_nil)) rfl
      ·
       have hk5 : (rr5 m).2.2 = false := by (have h := hc5); simpa [rr1] using h
       refine awp_skip ?_
       refine ⟨(), ?_, ?_⟩
       ·
        exact True.intro
       ·
        exact ent_k [] rfl rfl (.cons rfl (k_i (by first | (simp [rr6, stU, stT, hk5]; done) | (simp [rr6, stU, stT, hk5]; rfl))) <| .cons rfl (k_b (by first | (simp [rr6, stU, stT, hk5]; done) | (simp [rr6, stU, stT, hk5]; rfl) | (simp [rr6, stU, stT, hk5]; exact hk5))) <| xkc <| xkc <| .cons rfl (by first | exact k_eq rfl | exact k_i (by simp [rr6, stU, stT, hk5])) <| (by repeat (first | exact .nil | refine xkc ?_))) (obs_cons rfl (.cells (by repeat (first | exact .nil | refine .cons (by first | exact k_eq rfl | exact k_i (by simp [rr6, stU, stT, hk5]) | exact k_s (by simp [rr6, stU, stT, hk5]) | exact k_d (by simp [rr6, stU, stT, hk5])) ?_))) (obs_cons rfl (o_eq rfl) obs_nil)) rfl
     ·
      rintro _ _
      refine awp_joinX (fun _ : Unit => ⟨108, [(7, .d (I ((rr7 m).2.1 : Nat))), (8, .d (.bool (rr7 m).2.2)), (4, .ptr 4 0), (6, .d (.str (rr1 m).1)), (5, .d (I ((rr4 m).1 : Nat))), (0, .d (.str m)), (2, .ptr 2 0)], [(4, .cells [.d (.str (rr1 m).1), .d (I 0), .d (I ((rr2 m).1 : Nat)), .d (I ((rr3 m).1 : Nat)), .d (.list []), .d (.str (rr5 m).1), .d (.str (rr6 m).1), .d (.str (rr7 m).1), .d (.bool false)]), (2, .cells [.d (.str []), .d (I 0), .d (I 0), .d (I 0), .nils, .d (.str []), .d (.str []), .d (.str []), .d (.bool false)])]⟩) (fun _ : Unit => True) ?_ ?_
      ·
       refine xsr ?_
       refine lmv rfl rfl rfl rfl rfl ?_
       refine lendF ?_
       refine awp_cond rfl rfl (fun hc6 => ?_) (fun hc6 => ?_)
       ·
        have hk6 : (rr6 m).2.2 = true := by (have h := hc6); simpa [rr1] using h
        refine awp_region mixed ?_
        iterate 2 refine lmv rfl rfl rfl rfl rfl ?_
        refine xlz (o_call (c70 m (rr6 m).2.1 (by omega) (le6 m)) rfl rfl rfl ca70 rfl rfl) ?_
        refine lmv rfl rfl rfl rfl rfl ?_
        refine xlz (op_extract rfl rfl rfl rfl) ?_
        refine xlz (op_extract rfl rfl rfl rfl) ?_
        refine xlz (op_extract rfl rfl rfl rfl) ?_
        refine xlz (op_fieldP rfl rfl rfl fl40_5) ?_
        refine xlz (op_store rfl rfl rfl rfl rfl rfl ty9 rfl (xlb rfl)) ?_
        iterate 2 refine las rfl rfl rfl rfl rfl ?_
        refine lendF ?_
        refine ⟨(), ?_, ?_⟩
        ·
         exact True.intro
        ·
         exact ent_k [] rfl rfl (.cons rfl (k_i (by first | (simp [rr7, stU, stT, hk6]; done) | (simp [rr7, stU, stT, hk6]; rfl))) <| .cons rfl (k_b (by first | (simp [rr7, stU, stT, hk6]; done) | (simp [rr7, stU, stT, hk6]; rfl) | (simp [rr7, stU, stT, hk6]; exact hk6))) <| xkc <| xkc <| .cons rfl (by first | exact k_eq rfl | exact k_i (by simp [rr7, stU, stT, hk6])) <| (by repeat (first | exact .nil | refine xkc ?_))) (obs_cons rfl (.cells (by repeat (first | exact .nil | refine .cons (by first | exact k_eq rfl | exact k_i (by simp [rr7, stU, stT, hk6]) | exact k_s (by simp [rr7, stU, stT, hk6]) | exact k_d (by simp [rr7, stU, stT, hk6])) ?_))) (obs_cons rfl (o_eq rfl) obs_nil)) rfl
       ·
        have hk6 : (rr6 m).2.2 = false := by (have h := hc6); simpa [rr1] using h
        refine awp_skip ?_
        refine ⟨(), ?_, ?_⟩
        ·
         exact True.intro
        ·
         exact ent_k [] rfl rfl (.cons rfl (k_i (by first | (simp [rr7, stU, stT, hk6]; done) | (simp [rr7, stU, stT, hk6]; rfl))) <| .cons rfl (k_b (by first | (simp [rr7, stU, stT, hk6]; done) | (simp [rr7, stU, stT, hk6]; rfl) | (simp [rr7, stU, stT, hk6]; exact hk6))) <| xkc <| xkc <| .cons rfl (by first | exact k_eq rfl | exact k_i (by simp [rr7, stU, stT, hk6])) <| (by repeat (first | exact .nil | refine xkc ?_))) (obs_cons rfl (.cells (by repeat (first | exact .nil | refine .cons (by first | exact k_eq rfl | exact k_i (by simp [rr7, stU, stT, hk6]) | exact k_s (by simp [rr7, stU, stT, hk6]) | exact k_d (by simp [rr7, stU, stT, hk6])) ?_))) (obs_cons rfl (o_eq rfl) obs_nil)) rfl
      ·
       rintro _ _
       refine awp_joinX (fun _ : Unit => ⟨108, [(7, .d (I ((rr8 m).2.1 : Nat))), (8, .d (.bool (rr8 m).2.2)), (4, .ptr 4 0), (6, .d (.str (rr1 m).1)), (5, .d (I ((rr4 m).1 : Nat))), (0, .d (.str m)), (2, .ptr 2 0)], [(4, .cells [.d (.str (rr1 m).1), .d (I 0), .d (I ((rr2 m).1 : Nat)), .d (I ((rr3 m).1 : Nat)), .d (reqsD (rr8 m).1), .d (.str (rr5 m).1), .d (.str (rr6 m).1), .d (.str (rr7 m).1), .d (.bool false)]), (2, .cells [.d (.str []), .d (I 0), .d (I 0), .d (I 0), .nils, .d (.str []), .d (.str []), .d (.str []), .d (.bool false)])]⟩) (fun _ : Unit => True) ?_ ?_
       ·
        refine xsr ?_
        refine lmv rfl rfl rfl rfl rfl ?_
        refine lendF ?_
        refine awp_cond rfl rfl (fun hc7 => ?_) (fun hc7 => ?_)
        ·
         have hk7 : (rr7 m).2.2 = true := by (have h := hc7); simpa [rr1] using h
         refine awp_region mixed ?_
         iterate 2 refine lmv rfl rfl rfl rfl rfl ?_
         refine xlz (o_call (c72 m (rr7 m).2.1 hm (le7 m)) rfl rfl rfl ca72 rfl rfl) ?_
         refine lmv rfl rfl rfl rfl rfl ?_
         refine xlz (op_extract rfl rfl rfl rfl) ?_
         refine xlz (op_extract rfl rfl rfl rfl) ?_
         refine xlz (op_extract rfl rfl rfl rfl) ?_
         refine xlz (op_fieldP rfl rfl rfl fl40_2) ?_
         refine xlz (op_store rfl rfl rfl rfl rfl rfl ty26 rfl (xlb rfl)) ?_
         iterate 2 refine las rfl rfl rfl rfl rfl ?_
         refine lendF ?_
         refine ⟨(), ?_, ?_⟩
         ·
          exact True.intro
         ·
          exact ent_k [] rfl rfl (.cons rfl (k_i (by first | (simp [rr8, stU, stT, hk7]; done) | (simp [rr8, stU, stT, hk7]; rfl))) <| .cons rfl (k_b (by first | (simp [rr8, stU, stT, hk7]; done) | (simp [rr8, stU, stT, hk7]; rfl) | (simp [rr8, stU, stT, hk7]; exact hk7))) <| xkc <| xkc <| .cons rfl (by first | exact k_eq rfl | exact k_i (by simp [rr8, stU, stT, hk7])) <| (by repeat (first | exact .nil | refine xkc ?_))) (obs_cons rfl (.cells (by repeat (first | exact .nil | refine .cons (by first | exact k_eq rfl | exact k_i (by simp [rr8, stU, stT, hk7]) | exact k_s (by simp [rr8, stU, stT, hk7]) | exact k_d (by simp [rr8, stU, stT, hk7])) ?_))) (obs_cons rfl (o_eq rfl) obs_nil)) rfl
        ·
         have hk7 : (rr7 m).2.2 = false := by (have h := hc7); simpa [rr1] using h
         refine awp_skip ?_
         refine ⟨(), ?_, ?_⟩
         ·
          exact True.intro
         ·
          exact ent_k [] rfl rfl (.cons rfl (k_i (by first | (simp [rr8, stU, stT, hk7]; done) | (simp [rr8, stU, stT, hk7]; rfl))) <| .cons rfl (k_b (by first | (simp [rr8, stU, stT, hk7]; done) | (simp [rr8, stU, stT, hk7]; rfl) | (simp [rr8, stU, stT, hk7]; exact hk7))) <| xkc <| xkc <| .cons rfl (by first | exact k_eq rfl | exact k_i (by simp [rr8, stU, stT, hk7])) <| (by repeat (first | exact .nil | refine xkc ?_))) (obs_cons rfl (.cells (by repeat (first | exact .nil | refine .cons (by first | exact k_eq rfl | exact k_i (by simp [rr8, stU, stT, hk7]) | exact k_s (by simp [rr8, stU, stT, hk7]) | exact k_d (by simp [rr8, stU, stT, hk7])) ?_))) (obs_cons rfl (o_eq rfl) obs_nil)) rfl
       ·
        rintro _ _
        refine xsr ?_
        refine lmv rfl rfl rfl rfl rfl ?_
        refine xlz (op_binI rfl rfl rfl rfl rfl (.inl rfl) rfl) ?_
        refine xlz (op_fieldP rfl rfl rfl fl40_6) ?_
        refine xlz (op_store rfl rfl rfl rfl rfl rfl ty4 rfl (xlb rfl)) ?_
        refine lendF ?_
        refine awp_joinX (fun _ : Unit => ⟨108, [(4, .ptr 4 0), (5, .d (I ((rr4 m).1 : Nat))), (7, .d (I ((rr8 m).2.1 : Nat))), (8, .d (.bool (rr8 m).2.2)), (0, .d (.str m)), (2, .ptr 2 0)], [(4, .cells [.d (.str (rr1 m).1), .d (I (majN (rr1 m).1)), .d (I ((rr2 m).1 : Nat)), .d (I ((rr3 m).1 : Nat)), .d (reqsD (rr8 m).1), .d (.str (rr5 m).1), .d (.str (rr6 m).1), .d (.str (rr7 m).1), .d (.bool ((((rr4 m).1 : Nat) : Int) == 1))]), (2, .cells [.d (.str []), .d (I 0), .d (I 0), .d (I 0), .nils, .d (.str []), .d (.str []), .d (.str []), .d (.bool false)])]⟩) (fun _ : Unit => True) ?_ ?_
        ·
         refine awp_region mixed ?_
         refine lmv rfl rfl rfl rfl rfl ?_
         refine xlz (o_call (c73 (rr1 m).1 (by have := rdT_len m 0; unfold rr1; omega)) rfl rfl rfl ca73 rfl rfl) ?_
         refine xlz (op_fieldP rfl rfl rfl fl40_1) ?_
         refine xlz (op_fieldP rfl rfl rfl fl38_0) ?_
         refine xlz (op_store rfl rfl rfl rfl rfl rfl ty3 rfl (xlb rfl)) ?_
         refine lendF ?_
         refine ⟨(), ?_, ?_⟩
         ·
          exact True.intro
         ·
          exact ent_k [] rfl rfl ((by repeat (first | exact .nil | refine xkc ?_))) (obs_cons rfl (.cells (by repeat (first | exact .nil | refine .cons (k_eq rfl) ?_))) (obs_cons rfl (o_eq rfl) obs_nil)) rfl
        ·
         rintro _ _
         refine awp_seq ?_
         refine xsr ?_
         refine lmv rfl rfl rfl rfl rfl ?_
         refine xlz (op_not rfl rfl rfl) ?_
         refine lmv rfl rfl rfl rfl rfl ?_
         refine lsplit rfl (fun hg8 => ?_) (fun hg8 => ?_)
         ·
          have hok : (rr8 m).2.2 = true := by (have h := (g01 hg8)); simpa using h
          refine gmv hg8 rfl rfl rfl rfl rfl ?_
          refine lg (op_binI rfl rfl rfl rfl rfl (.inl rfl) rfl) rfl hg8 rfl rfl ?_
          refine xlz (o_pF rfl rfl (g01 hg8) rfl rfl) ?_
          refine lmv rfl rfl rfl rfl rfl ?_
          refine lsplit rfl (fun hg9 => ?_) (fun hg9 => ?_)
          ·
           have hyk : ¬ (((rr4 m).1 : Nat) : Int) > 1 := by (have h := (g01 hg9)); simpa using h
           iterate 2 refine gmv hg9 rfl rfl rfl rfl rfl ?_
           refine lg (op_lenS rfl rfl rfl ty9) rfl hg9 rfl rfl ?_
           refine lg (op_binI rfl rfl rfl rfl rfl (.inl rfl) rfl) rfl hg9 rfl rfl ?_
           refine xlz (o_pF rfl rfl (g01 hg9) rfl rfl) ?_
           refine lmv rfl rfl rfl rfl rfl ?_
           refine lsplit rfl (fun hg10 => ?_) (fun hg10 => ?_)
           ·
            have hat : ¬ (rr8 m).2.1 ≠ m.length := by (have h := (g01 hg10)); simp at h; omega
            refine lg (o_ldA rfl rfl rfl rfl ty40 rfl (xlb rfl) rfl) rfl hg10 rfl rfl ?_
            refine lg (o_call (c59 (outR m) (outR_sm m hm)) rfl rfl rfl ca59 rfl rfl) rfl hg10 rfl rfl ?_
            refine lg (op_binI rfl rfl rfl rfl rfl (.inl rfl) rfl) rfl hg10 rfl rfl ?_
            refine xlz (o_pF rfl rfl (g01 hg10) rfl rfl) ?_
            refine lendF ?_
            refine awp_cond rfl rfl (fun hc11 => ?_) (fun hc11 => ?_)
            ·
             have hb : refB m := .inr (.inr (.inr (by (have h := hc11); simpa using h)))
             refine xsr ?_
             refine xlz (o_bld rfl rfl rfl bl40 ty40 zk40 rfl rfl rfl) ?_
             refine xlz (op_store rfl rfl rfl rfl rfl rfl ty40 rfl (xlb rfl)) ?_
             refine las rfl rfl rfl rfl rfl ?_
             refine lendF ?_
             refine awp_ret ?_
             refine ⟨[_, _], ⟨⟨_, _, _, _, _, _, _, rfl, rfl, ty40, (xlb rfl), rfl⟩, rfl, trivial⟩, ?_⟩
             first | exact ent_d2 rfl (by rw [refRd, if_pos hb] <;> rfl) rfl (by rw [refRd, if_pos hb] <;> rfl) | exact ent_d2 rfl (by rw [refRd, if_neg hb] <;> rfl) rfl (by rw [refRd, if_neg hb] <;> rfl)
            ·
             have hrl : ¬ relE (outR m) ≠ 0 := by (have h := hc11); simpa using h
             have hb : ¬ refB m := by unfold refB; simp only [not_or]; exact ⟨by simp [hok], hyk, hat, hrl⟩
             refine awp_skip ?_
             refine xsr ?_
             refine xlz (o_ldA rfl rfl rfl rfl ty40 rfl (xlb rfl) rfl) ?_
             refine xlz (op_store rfl rfl rfl rfl rfl rfl ty40 rfl (xlb rfl)) ?_
             refine las rfl rfl rfl rfl rfl ?_
             refine lendF ?_
             refine awp_ret ?_
             refine ⟨[_, _], ⟨⟨_, _, _, _, _, _, _, rfl, rfl, ty40, (xlb rfl), rfl⟩, rfl, trivial⟩, ?_⟩
             first | exact ent_d2 rfl (by rw [refRd, if_pos hb] <;> rfl) rfl (by rw [refRd, if_pos hb] <;> rfl) | exact ent_d2 rfl (by rw [refRd, if_neg hb] <;> rfl) rfl (by rw [refRd, if_neg hb] <;> rfl)
           ·
            have hb : refB m := .inr (.inr (.inl (by (have h := (g00 hg10)); simp at h; omega)))
            iterate 3 refine lskip rfl hg10 rfl ?_
            refine xlz (o_pT rfl rfl (g00 hg10) rfl rfl) ?_
            refine lendF ?_
            refine awp_condT rfl rfl rfl ?_
            refine xsr ?_
            refine xlz (o_bld rfl rfl rfl bl40 ty40 zk40 rfl rfl rfl) ?_
            refine xlz (op_store rfl rfl rfl rfl rfl rfl ty40 rfl (xlb rfl)) ?_
            refine las rfl rfl rfl rfl rfl ?_
            refine lendF ?_
            refine awp_ret ?_
            refine ⟨[_, _], ⟨⟨_, _, _, _, _, _, _, rfl, rfl, ty40, (xlb rfl), rfl⟩, rfl, trivial⟩, ?_⟩
            first | exact ent_d2 rfl (by rw [refRd, if_pos hb] <;> rfl) rfl (by rw [refRd, if_pos hb] <;> rfl) | exact ent_d2 rfl (by rw [refRd, if_neg hb] <;> rfl) rfl (by rw [refRd, if_neg hb] <;> rfl)
          ·
           have hb : refB m := .inr (.inl (by (have h := (g00 hg9)); simpa using h))
           iterate 4 refine lskip rfl hg9 rfl ?_
           refine xlz (o_pT rfl rfl (g00 hg9) rfl rfl) ?_
           refine lmv rfl rfl rfl rfl rfl ?_
           iterate 3 refine lskip rfl rfl rfl ?_
           refine xlz (o_pT rfl rfl rfl rfl rfl) ?_
           refine lendF ?_
           refine awp_condT rfl rfl rfl ?_
           refine xsr ?_
           refine xlz (o_bld rfl rfl rfl bl40 ty40 zk40 rfl rfl rfl) ?_
           refine xlz (op_store rfl rfl rfl rfl rfl rfl ty40 rfl (xlb rfl)) ?_
           refine las rfl rfl rfl rfl rfl ?_
           refine lendF ?_
           refine awp_ret ?_
           refine ⟨[_, _], ⟨⟨_, _, _, _, _, _, _, rfl, rfl, ty40, (xlb rfl), rfl⟩, rfl, trivial⟩, ?_⟩
           first | exact ent_d2 rfl (by rw [refRd, if_pos hb] <;> rfl) rfl (by rw [refRd, if_pos hb] <;> rfl) | exact ent_d2 rfl (by rw [refRd, if_neg hb] <;> rfl) rfl (by rw [refRd, if_neg hb] <;> rfl)
         ·
          have hb : refB m := .inl (by (have h := (g00 hg8)); simpa using h)
          iterate 2 refine lskip rfl hg8 rfl ?_
          refine xlz (o_pT rfl rfl (g00 hg8) rfl rfl) ?_
          refine lmv rfl rfl rfl rfl rfl ?_
          iterate 4 refine lskip rfl rfl rfl ?_
          refine xlz (o_pT rfl rfl rfl rfl rfl) ?_
          refine lmv rfl rfl rfl rfl rfl ?_
          iterate 3 refine lskip rfl rfl rfl ?_
          refine xlz (o_pT rfl rfl rfl rfl rfl) ?_
          refine lendF ?_
          refine awp_condT rfl rfl rfl ?_
          refine xsr ?_
          refine xlz (o_bld rfl rfl rfl bl40 ty40 zk40 rfl rfl rfl) ?_
          refine xlz (op_store rfl rfl rfl rfl rfl rfl ty40 rfl (xlb rfl)) ?_
          refine las rfl rfl rfl rfl rfl ?_
          refine lendF ?_
          refine awp_ret ?_
          refine ⟨[_, _], ⟨⟨_, _, _, _, _, _, _, rfl, rfl, ty40, (xlb rfl), rfl⟩, rfl, trivial⟩, ?_⟩
          first | exact ent_d2 rfl (by rw [refRd, if_pos hb] <;> rfl) rfl (by rw [refRd, if_pos hb] <;> rfl) | exact ent_d2 rfl (by rw [refRd, if_neg hb] <;> rfl) rfl (by rw [refRd, if_neg hb] <;> rfl)

end Go.Pm

namespace Go.Pm
structure RR (m : Bytes) (r : RS) (p : Nat × Bool) : Prop where
  s : r.s = m
  t : p.2 = true → r.e = 0 ∧ r.pos = p.1
  f : p.2 = false → r.e ≠ 0
section
variable {m : Bytes} {r : RS} {p : Nat × Bool}
theorem rdN_no {a : Nat} (h : (rdN m a).2.2 = false) : (rdN m a).1 = 0 := by
  unfold rdN at h ⊢; split at h
  · simp at h
  · rename_i h1; rw [if_neg h1]
theorem rdT_no {a : Nat} (h : (rdT m a).2.2 = false) : (rdT m a).1 = [] := by
  unfold rdT at h ⊢; split at h
  · simp at h
  · rename_i h1; rw [if_neg h1]
theorem take_bad {α : Type} (h : r.e ≠ 0) (y : α × Nat × Bool) (z : α) : r.take y z = (z, r) := by unfold RS.take; rw [if_neg h]
theorem take_yes {α : Type} (h : r.e = 0) {y : α × Nat × Bool} (hy : y.2.2 = true) (z : α) : r.take y z = (y.1, { r with pos := y.2.1 }) := by unfold RS.take; rw [if_pos h, if_pos hy]
theorem take_no {α : Type} (h : r.e = 0) {y : α × Nat × Bool} (hy : y.2.2 = false) (z : α) : r.take y z = (z, { r with e := 9 }) := by unfold RS.take; rw [if_pos h, if_neg (by simp [hy])]
theorem uint_rr (h : RR m r p) : r.uint.1 = (((stU m p).1 : Nat) : Int) ∧ RR m r.uint.2 (stU m p).2 := by
  obtain ⟨a, b⟩ := p
  cases b with
  | false =>
    have he := h.f rfl
    have e : r.uint = (0, r) := take_bad he _ _
    rw [e]
    exact ⟨rfl, h⟩
  | true =>
    obtain ⟨rs, rp, re⟩ := r
    obtain rfl : rs = m := h.s
    obtain rfl : re = 0 := (h.t rfl).1
    obtain rfl : rp = a := (h.t rfl).2
    have e2 : stU rs (rp, true) = rdN rs rp := rfl
    rw [e2]
    cases hy : (rdN rs rp).2.2 with
    | true =>
      have e : RS.uint ⟨rs, rp, 0⟩ = ((((rdN rs rp).1 : Nat) : Int), ⟨rs, (rdN rs rp).2.1, 0⟩) := take_yes (r := ⟨rs, rp, 0⟩) (y := ((((rdN rs rp).1 : Nat) : Int), (rdN rs rp).2)) rfl hy 0
      rw [e]
      exact ⟨rfl, rfl, fun _ => ⟨rfl, rfl⟩, fun h2 => by rw [hy] at h2; cases h2⟩
    | false =>
      have e : RS.uint ⟨rs, rp, 0⟩ = (0, ⟨rs, rp, 9⟩) := take_no (r := ⟨rs, rp, 0⟩) (y := ((((rdN rs rp).1 : Nat) : Int), (rdN rs rp).2)) rfl hy 0
      rw [e, rdN_no hy]
      exact ⟨rfl, rfl, fun h2 => by (rw [hy] at h2; cases h2), fun _ => by simp⟩
theorem text_rr (h : RR m r p) : r.text.1 = (stT m p).1 ∧ RR m r.text.2 (stT m p).2 := by
  obtain ⟨a, b⟩ := p
  cases b with
  | false =>
    have he := h.f rfl
    have e : r.text = ([], r) := take_bad he _ _
    rw [e]
    exact ⟨rfl, h⟩
  | true =>
    obtain ⟨rs, rp, re⟩ := r
    obtain rfl : rs = m := h.s
    obtain rfl : re = 0 := (h.t rfl).1
    obtain rfl : rp = a := (h.t rfl).2
    have e2 : stT rs (rp, true) = rdT rs rp := rfl
    rw [e2]
    cases hy : (rdT rs rp).2.2 with
    | true =>
      have e : RS.text ⟨rs, rp, 0⟩ = ((rdT rs rp).1, ⟨rs, (rdT rs rp).2.1, 0⟩) := take_yes (r := ⟨rs, rp, 0⟩) (y := rdT rs rp) rfl hy []
      rw [e]
      exact ⟨rfl, rfl, fun _ => ⟨rfl, rfl⟩, fun h2 => by rw [hy] at h2; cases h2⟩
    | false =>
      have e : RS.text ⟨rs, rp, 0⟩ = ([], ⟨rs, rp, 9⟩) := take_no (r := ⟨rs, rp, 0⟩) (y := rdT rs rp) rfl hy []
      rw [e, rdT_no hy]
      exact ⟨rfl, rfl, fun h2 => by (rw [hy] at h2; cases h2), fun _ => by simp⟩
/-- A count that is small enough is read as a number; a greater one is an error. -/
theorem count_rr (h : RR m r p) (most : Int) (h0 : 0 ≤ most) :
    ((((stU m p).1 : Nat) : Int) ≤ most ∧ (r.count most).1 = (((stU m p).1 : Nat) : Int) ∧ RR m (r.count most).2 (stU m p).2) ∨ (most < (((stU m p).1 : Nat) : Int) ∧ (r.count most).1 = 0 ∧ (r.count most).2.e ≠ 0) := by
  obtain ⟨a, b⟩ := p
  cases b with
  | false =>
    have he := h.f rfl
    have e : r.count most = (0, r) := take_bad he _ _
    rw [e]
    exact .inl ⟨h0, rfl, h⟩
  | true =>
    obtain ⟨rs, rp, re⟩ := r
    obtain rfl : rs = m := h.s
    obtain rfl : re = 0 := (h.t rfl).1
    obtain rfl : rp = a := (h.t rfl).2
    have e2 : stU rs (rp, true) = rdN rs rp := rfl
    rw [e2]
    by_cases hm : (((rdN rs rp).1 : Nat) : Int) ≤ most
    · refine .inl ⟨hm, ?_⟩
      cases hy : (rdN rs rp).2.2 with
      | true =>
        have hc : rdC rs rp most = rdN rs rp := by unfold rdC; rw [if_pos (by simp [hy, hm])]
        have e : RS.count ⟨rs, rp, 0⟩ most = ((((rdN rs rp).1 : Nat) : Int), ⟨rs, (rdN rs rp).2.1, 0⟩) := by
          unfold RS.count
          show RS.take _ ((((rdC rs rp most).1 : Nat) : Int), (rdC rs rp most).2) 0 = _
          rw [hc]; exact take_yes (r := ⟨rs, rp, 0⟩) (y := ((((rdN rs rp).1 : Nat) : Int), (rdN rs rp).2)) rfl hy 0
        rw [e]
        exact ⟨rfl, rfl, fun _ => ⟨rfl, rfl⟩, fun h2 => by rw [hy] at h2; cases h2⟩
      | false =>
        have hc : rdC rs rp most = (0, 0, false) := by unfold rdC; rw [if_neg (by simp [hy])]
        have e : RS.count ⟨rs, rp, 0⟩ most = (0, ⟨rs, rp, 9⟩) := by
          unfold RS.count
          show RS.take _ ((((rdC rs rp most).1 : Nat) : Int), (rdC rs rp most).2) 0 = _
          rw [hc]; exact take_no (r := ⟨rs, rp, 0⟩) (y := (((0 : Nat) : Int), 0, false)) rfl rfl 0
        rw [e, rdN_no hy]
        exact ⟨rfl, rfl, fun h2 => by (rw [hy] at h2; cases h2), fun _ => by simp⟩
    · refine .inr ⟨by omega, ?_⟩
      have hc : rdC rs rp most = (0, 0, false) := by unfold rdC; rw [if_neg (by simp [hm])]
      have e : RS.count ⟨rs, rp, 0⟩ most = (0, ⟨rs, rp, 9⟩) := by
        unfold RS.count
        show RS.take _ ((((rdC rs rp most).1 : Nat) : Int), (rdC rs rp most).2) 0 = _
        rw [hc]; exact take_no (r := ⟨rs, rp, 0⟩) (y := (((0 : Nat) : Int), 0, false)) rfl rfl 0
      rw [e]
      exact ⟨rfl, by simp⟩
theorem sp_rr (h : RR m r p) : ∀ k, (sI r k).1 = (spI m p k).1 ∧ RR m (sI r k).2 (spI m p k).2
  | 0 => ⟨rfl, h⟩
  | k + 1 => by
    obtain ⟨h1, h2⟩ := sp_rr h k
    cases hx : (spI m p k).2.2 with
    | true =>
      have he := (h2.t hx).1
      rw [sp_next hx, sI_next he]
      have h3 := uint_rr h2
      have e3 : stU m (spI m p k).2 = rdN m (spI m p k).2.1 := by unfold stU; rw [if_pos hx]
      rw [e3] at h3
      have h4 := uint_rr h3.2
      exact ⟨by dsimp only; rw [h1, h3.1, h4.1], h4.2⟩
    | false =>
      have he := h2.f hx
      rw [← sp_stop hx (Nat.le_succ k), ← sI_stop he (Nat.le_succ k)]
      exact ⟨h1, h2⟩
theorem bad_text (h : r.e ≠ 0) : r.text = ([], r) := take_bad h _ _
theorem bad_count (h : r.e ≠ 0) (n : Int) : r.count n = (0, r) := take_bad h _ _
theorem bad_q (h : r.e ≠ 0) (len : Int) : (rdc len r).2.e ≠ 0 ∧ (sI (rdc len r).2 (rdc len r).1.toNat).2.e ≠ 0 := by
  have e : rdc len r = (0, r) := by unfold rdc; rw [bad_text h, bad_count h]
  rw [e]; exact ⟨h, h⟩
theorem bad_qI (len : Int) : ∀ i, r.e ≠ 0 → (qI len r i).2.e ≠ 0
  | 0, h => h
  | i + 1, h => (bad_q (bad_qI len i h) len).2
theorem qs_rr (h : RR m r p) (hp : p.1 ≤ m.length) : ∀ i, ((qsI m p i).2.2 = true → (qI m.length r i).1 = (qsI m p i).1 ∧ RR m (qI m.length r i).2 (qsI m p i).2) ∧ ((qsI m p i).2.2 = false → (qI m.length r i).2.e ≠ 0)
  | 0 => ⟨fun _ => ⟨rfl, h⟩, fun hx => h.f hx⟩
  | i + 1 => by
    obtain ⟨h1, h2⟩ := qs_rr h hp i
    cases hx : (qsI m p i).2.2 with
    | false =>
      rw [← qs_stop hx (Nat.le_succ i)]
      exact ⟨fun hy => by (rw [hx] at hy; cases hy), fun _ => (bad_q (h2 hx) _).2⟩
    | true =>
      obtain ⟨hl, hr⟩ := h1 hx
      rw [qs_next hx]
      have ht := text_rr hr
      have e3 : stT m (qsI m p i).2 = rdT m (qsI m p i).2.1 := by unfold stT; rw [if_pos hx]
      rw [e3] at ht
      have hstep : qI m.length r (i + 1) = qstep m.length (qI m.length r i) := rfl
      rcases count_rr ht.2 (m.length : Int) (by omega) with ⟨ha, hb, hc⟩ | ⟨ha, hb, hc⟩
      · have hn : (rdc m.length (qI m.length r i).2).1.toNat = (cU m (qsI m p i).2.1).1 := by
          show ((qI m.length r i).2.text.2.count m.length).1.toNat = _
          rw [hb]; exact Int.toNat_natCast _
        have hs := sp_rr hc (cU m (qsI m p i).2.1).1
        have e1 : (qI m.length r (i + 1)).1 = (qsI m p i).1 ++ [⟨(rdT m (qsI m p i).2.1).1, (spI m (cU m (qsI m p i).2.1).2 (cU m (qsI m p i).2.1).1).1⟩] := by
          rw [hstep]; unfold qstep
          dsimp only
          rw [hn, hl, ht.1]
          have := hs.1
          unfold cU at this ⊢
          rw [← this]; rfl
        have e2 : (qI m.length r (i + 1)).2 = (sI ((qI m.length r i).2.text.2.count m.length).2 (cU m (qsI m p i).2.1).1).2 := by
          rw [hstep]; unfold qstep
          dsimp only
          rw [hn]; rfl
        refine ⟨fun _ => ⟨e1, by rw [e2]; exact hs.2⟩, fun hy => ?_⟩
        rw [e2]; exact hs.2.f hy
      · refine ⟨fun hy => ?_, fun _ => ?_⟩
        · exfalso
          have h5 := (sp_ge _ hy).1
          have h6 := sp_le (m := m) (p := (cU m (qsI m p i).2.1).2) (cU_le _) (cU m (qsI m p i).2.1).1
          have h7 : (m.length : Int) < (((cU m (qsI m p i).2.1).1 : Nat) : Int) := ha
          omega
        · rw [hstep]; unfold qstep rdc
          dsimp only
          rw [hb]
          exact hc
end
theorem done_iff {m : Bytes} {r : RS} (hs : r.s = m) (he : r.e = 0) (hp : r.pos ≤ m.length) : r.done ≠ 0 ↔ r.pos ≠ m.length := by
  unfold RS.done
  rw [hs]
  by_cases h : r.pos < m.length
  · rw [if_pos ⟨he, h⟩]; simp; omega
  · rw [if_neg (fun h2 => h h2.2), he]; simp; omega
theorem done_bad {r : RS} (he : r.e ≠ 0) : r.done ≠ 0 := by
  unfold RS.done; rw [if_neg (fun h => he h.1)]; exact he
theorem read_eq (m : Bytes) : readI m = refRd m := by
  have r0 : RR m ⟨m, 0, 0⟩ (0, true) := ⟨rfl, fun _ => ⟨rfl, rfl⟩, fun h => by cases h⟩
  have t1 := text_rr r0
  have e1 : (rd1 m).1 = (rr1 m).1 := t1.1
  have r1 : RR m (rd1 m).2 (rr1 m).2 := t1.2
  have t2 := uint_rr r1
  have e2 : (rd2 m).1 = ((rr2 m).1 : Nat) := t2.1
  have r2 : RR m (rd2 m).2 (rr2 m).2 := t2.2
  have t3 := uint_rr r2
  have e3 : (rd3 m).1 = ((rr3 m).1 : Nat) := t3.1
  have r3 : RR m (rd3 m).2 (rr3 m).2 := t3.2
  have bad : ∀ {r : RS}, r.e ≠ 0 → ∀ n, (qI m.length r n).2.done ≠ 0 := fun h n => done_bad (bad_qI _ n h)
  have both : readB m → refB m → readI m = refRd m := fun h k => by unfold readI refRd; rw [if_pos h, if_pos k]
  rcases count_rr r3 1 (by omega) with ⟨ha, hb, hc⟩ | ⟨ha, hb, hc⟩
  rotate_left
  · refine both (.inr (.inl ?_)) (.inr (.inl ha))
    have b4 : (rd4 m).2.e ≠ 0 := hc
    have b5 : (rd5 m).2.e ≠ 0 := by unfold rd5; rw [bad_text b4]; exact b4
    have b6 : (rd6 m).2.e ≠ 0 := by unfold rd6; rw [bad_text b5]; exact b5
    have b7 : (rd7 m).2.e ≠ 0 := by unfold rd7; rw [bad_text b6]; exact b6
    have b8 : (rd8 m).2.e ≠ 0 := by unfold rd8; rw [bad_count b7]; exact b7
    exact bad b8 _
  have e4 : (rd4 m).1 = ((rr4 m).1 : Nat) := hb
  have r4 : RR m (rd4 m).2 (rr4 m).2 := hc
  have hy1 : ¬ (((rr4 m).1 : Nat) : Int) > 1 := by have : (((rr4 m).1 : Nat) : Int) ≤ 1 := ha; omega
  have t5 := text_rr r4
  have e5 : (rd5 m).1 = (rr5 m).1 := t5.1
  have r5 : RR m (rd5 m).2 (rr5 m).2 := t5.2
  have t6 := text_rr r5
  have e6 : (rd6 m).1 = (rr6 m).1 := t6.1
  have r6 : RR m (rd6 m).2 (rr6 m).2 := t6.2
  have t7 := text_rr r6
  have e7 : (rd7 m).1 = (rr7 m).1 := t7.1
  have r7 : RR m (rd7 m).2 (rr7 m).2 := t7.2
  cases h7 : (rr7 m).2.2 with
  | false =>
    refine both (.inr (.inl ?_)) (.inl ?_)
    · have b7 := r7.f h7
      have b8 : (rd8 m).2.e ≠ 0 := by unfold rd8; rw [bad_count b7]; exact b7
      exact bad b8 _
    · unfold rr8; rw [if_neg (by simp [h7])]; exact h7
  | true =>
  have e8 : rr8 m = rqs m (rr7 m).2.1 := by unfold rr8; rw [if_pos h7]
  have es : stU m (rr7 m).2 = rdN m (rr7 m).2.1 := by unfold stU; rw [if_pos h7]
  have hle8 : (rdN m (rr7 m).2.1).2.1 ≤ m.length := rdN_le (le7 m)
  rcases count_rr r7 16 (by omega) with ⟨ha, hb, hc⟩ | ⟨ha, hb, hc⟩
  · rw [es] at ha hb hc
    have hn : (rd8 m).1.toNat = (rdN m (rr7 m).2.1).1 := by
      have : (rd8 m).1 = (((rdN m (rr7 m).2.1).1 : Nat) : Int) := hb
      rw [this]; exact Int.toNat_natCast _
    have hq := qs_rr (r := (rd8 m).2) hc hle8 (rdN m (rr7 m).2.1).1
    have e9 : rd9 m = qI m.length (rd8 m).2 (rdN m (rr7 m).2.1).1 := by unfold rd9; rw [hn]
    cases h8 : (rr8 m).2.2 with
    | false =>
      refine both (.inr (.inl ?_)) (.inl h8)
      rw [e9]
      exact done_bad (hq.2 (by rw [e8] at h8; exact h8))
    | true =>
      obtain ⟨k1, k2⟩ := hq.1 (by rw [e8] at h8; exact h8)
      have hout : outI m = outR m := by
        unfold outI outR
        rw [e1, e2, e3, e4, e5, e6, e7, e9, k1, e8]; rfl
      have hkt := k2.t (by rw [e8] at h8; exact h8)
      have hpos : (rd9 m).2.pos = (rr8 m).2.1 := by rw [e9, e8]; exact hkt.2
      have hle : (rd9 m).2.pos ≤ m.length := (in9 m).p
      have hd : (rd9 m).2.done ≠ 0 ↔ (rr8 m).2.1 ≠ m.length := by
        rw [← hpos]; exact done_iff (in9 m).s (by rw [e9]; exact hkt.1) hle
      have hiff : readB m ↔ refB m := by
        unfold readB refB
        rw [hd, checkI_one, hout]
        constructor
        · rintro (h | h | h)
          · refine .inr (.inr (.inr ?_))
            rw [e1] at h
            rw [relE_1 (r := outR m) h]; decide
          · exact .inr (.inr (.inl h))
          · exact .inr (.inr (.inr h))
        · rintro (h | h | h | h)
          · rw [h8] at h; cases h
          · exact absurd h hy1
          · exact .inr (.inl h)
          · exact .inr (.inr h)
      unfold readI refRd
      by_cases hB : refB m
      · rw [if_pos (hiff.2 hB), if_pos hB]
      · rw [if_neg (fun h => hB (hiff.1 h)), if_neg hB, hout]
  · rw [es] at ha
    refine both (.inr (.inl ?_)) ?_
    · have b8 : (rd8 m).2.e ≠ 0 := hc
      exact bad b8 _
    · cases h8 : (rr8 m).2.2 with
      | false => exact .inl h8
      | true =>
        refine .inr (.inr (.inr fun h0 => ?_))
        have h1 := relE_reqs h0
        have h1 : (rr8 m).1.length ≤ 16 := h1
        rw [e8] at h1 h8
        have := (qs_ge _ h8).2.2
        have h2 : (rqs m (rr7 m).2.1).1.length = (rdN m (rr7 m).2.1).1 := this
        omega
end Go.Pm

namespace Go.Pm
open Go.Proofs
theorem readI_sm {m : Bytes} (hm : m.length ≤ 100000) {x : Rls} {e : Int} (h : readI m = (x, e)) : x.Sm := by
  unfold readI at h
  split at h
  · simp at h; rw [← h.1]; exact zeroR_sm
  · simp only [Prod.mk.injEq] at h; rw [← h.1]; exact out_sm m hm
theorem c17r (r : Rls) (hr : r.Sm) : Fn PR 17 [.d r.d] [] [.d (.str (if relE r = 0 then manT r else [])), .d (I (relE r))] [] := by
  have h := c17 r hr
  rw [checkI_one] at h; exact h
theorem c19g (m : Bytes) (hm : m.length ≤ 100000) (x : Rls) (e : Int) (h : readI m = (x, e)) : Fn PR 19 [.d (.str m)] [] [.d x.d, .d (I e)] [] := by
  have k := c19 m hm
  rw [h] at k; exact k
theorem c20g (m : Bytes) (hm : m.length ≤ 100000) (x : Rls) (e : Int) (h : readI m = (x, e)) : Fn PR 20 [.d (.str m)] [] [.d x.d, .d (I e)] [] := by
  have k := c20 m hm
  rw [← read_eq, h] at k; exact k
end Go.Pm

namespace Go.Pm
open Go.Proofs

set_option maxRecDepth 10000 in
set_option maxHeartbeats 4000000 in
theorem c4 (r : Rls) (hrl : r.reqs.length < 4611686018427387904) (s : Bytes) (hsl : s.length < 4611686018427387904) : Fn PR 4 [.d r.d, .d (.str s)] [] [.d (.bool true)] [] := by
 refine fn_of_awp Tryz.func4 rfl (N := 62) rfl ?_
 obtain ⟨x, e, hxe⟩ : ∃ x e, readI s = (x, e) := ⟨_, _, rfl⟩
 refine xsr ?_
 refine xlz (op_box rfl rfl (by decide) rfl rfl) ?_
 refine las rfl rfl rfl rfl rfl ?_
 refine lendF ?_
 refine awp_seq ?_
 refine xsr ?_
 refine xlz (o_call (c9) rfl rfl rfl ca9 rfl rfl) ?_
 refine xlz (op_not rfl rfl rfl) ?_
 refine lendF ?_
 refine awp_cond rfl rfl (fun hc1 => ?_) (fun hc1 => ?_)
 ·
  exact absurd hc1 (by decide)
 ·
  refine awp_skip ?_
  refine awp_seq ?_
  refine xsr ?_
  refine xlz (o_ldA rfl rfl rfl rfl ty40 rfl (xlb rfl) rfl) ?_
  refine xlz (o_bsD rfl rfl rfl rfl rfl ty22 ty40 rfl rfl) ?_
  refine xlz (o_call (c10 [r] 1 (by simp) (by simpa using hrl)) rfl rfl rfl ca10 rfl rfl) ?_
  refine xlz (op_not rfl rfl rfl) ?_
  refine lmv rfl rfl rfl rfl rfl ?_
  refine lsplit rfl (fun hg2 => ?_) (fun hg2 => ?_)
  ·
   have hf : fewRlss [r] 1 = true := by (have h := (g01 hg2)); simpa using h
   have hr : r.Sm := (fewRlss_ok hf).1 r (by simp)
   refine gmv hg2 rfl rfl rfl rfl rfl ?_
   refine lg (op_lenS rfl rfl rfl ty9) rfl hg2 rfl rfl ?_
   refine lg (op_binI rfl rfl rfl rfl rfl (.inl rfl) rfl) rfl hg2 rfl rfl ?_
   refine xlz (o_pF rfl rfl (g01 hg2) rfl rfl) ?_
   refine lendF ?_
   refine awp_cond rfl rfl (fun hc3 => ?_) (fun hc3 => ?_)
   ·
    refine xsr ?_
    refine las rfl rfl rfl rfl rfl ?_
    refine lendF ?_
    refine awp_ret ?_
    refine ⟨[_], ⟨rfl, trivial⟩, ?_⟩
    first | exact ent_d1 rfl rfl | exact ent_d1 rfl (by simp)
   ·
    have h3 : s.length ≤ 3000 := by (have h := hc3); simp at h; omega
    refine awp_skip ?_
    refine xsr ?_
    refine xlz (o_ldA rfl rfl rfl rfl ty40 rfl (xlb rfl) rfl) ?_
    refine xlz (o_call (c17r r hr) rfl rfl rfl ca17 rfl rfl) ?_
    refine lmv rfl rfl rfl rfl rfl ?_
    refine xlz (op_extract rfl rfl rfl rfl) ?_
    refine xlz (op_extract rfl rfl rfl rfl) ?_
    iterate 2 refine las rfl rfl rfl rfl rfl ?_
    refine lendF ?_
    refine xsr ?_
    refine xlz (o_ldA rfl rfl rfl rfl ty40 rfl (xlb rfl) rfl) ?_
    refine xlz (o_call (c18 r hr) rfl rfl rfl ca18 rfl rfl) ?_
    refine lmv rfl rfl rfl rfl rfl ?_
    refine xlz (op_extract rfl rfl rfl rfl) ?_
    refine xlz (op_extract rfl rfl rfl rfl) ?_
    iterate 2 refine las rfl rfl rfl rfl rfl ?_
    refine lendF ?_
    refine xsr ?_
    refine lmv rfl rfl rfl rfl rfl ?_
    refine xlz (o_call (c19g s (by omega) x e hxe) rfl rfl rfl ca19 rfl rfl) ?_
    refine lmv rfl rfl rfl rfl rfl ?_
    refine xlz (op_extract rfl rfl rfl rfl) ?_
    refine xlz (op_extract rfl rfl rfl rfl) ?_
    refine xlz (op_alloc rfl rfl (by decide) ty40 zk40 rfl) ?_
    refine xlz (op_store rfl rfl rfl rfl rfl rfl ty40 rfl (xlb rfl)) ?_
    refine las rfl rfl rfl rfl rfl ?_
    refine lendF ?_
    refine xsr ?_
    refine lmv rfl rfl rfl rfl rfl ?_
    refine xlz (o_call (c20g s (by omega) x e hxe) rfl rfl rfl ca20 rfl rfl) ?_
    refine lmv rfl rfl rfl rfl rfl ?_
    refine xlz (op_extract rfl rfl rfl rfl) ?_
    refine xlz (op_extract rfl rfl rfl rfl) ?_
    refine xlz (op_alloc rfl rfl (by decide) ty40 zk40 rfl) ?_
    refine xlz (op_store rfl rfl rfl rfl rfl rfl ty40 rfl (xlb rfl)) ?_
    refine las rfl rfl rfl rfl rfl ?_
    refine lendF ?_
    refine xsr ?_
    iterate 2 refine lmv rfl rfl rfl rfl rfl ?_
    refine xlz (op_binS rfl rfl rfl rfl rfl (fun h => by first | cases h | (simp; omega)) rfl) ?_
    refine lmv rfl rfl rfl rfl rfl ?_
    refine lsplit rfl (fun hg4 => ?_) (fun hg4 => ?_)
    ·
     iterate 2 refine gmv hg4 rfl rfl rfl rfl rfl ?_
     refine lg (op_binI rfl rfl rfl rfl rfl (.inl rfl) rfl) rfl hg4 rfl rfl ?_
     refine xlz (o_pT rfl rfl (g11 hg4) rfl rfl) ?_
     refine lmv rfl rfl rfl rfl rfl ?_
     refine lsplit rfl (fun hg5 => ?_) (fun hg5 => ?_)
     ·
      refine lg (o_ldA rfl rfl rfl rfl ty40 rfl (xlb rfl) rfl) rfl hg5 rfl rfl ?_
      refine lg (o_ldA rfl rfl rfl rfl ty40 rfl (xlb rfl) rfl) rfl hg5 rfl rfl ?_
      refine lg (o_call (c21 x x (by have := (readI_sm (by omega) hxe).len; exact this) (fun q hq => by have := ((readI_sm (by omega) hxe).reqs q hq).set; omega)) rfl rfl rfl ca21 rfl rfl) rfl hg5 rfl rfl ?_
      refine xlz (o_pT rfl rfl (g11 hg5) rfl rfl) ?_
      refine lmv rfl rfl rfl rfl rfl ?_
      refine lsplit rfl (fun hg6 => ?_) (fun hg6 => ?_)
      ·
       iterate 2 refine gmv hg6 rfl rfl rfl rfl rfl ?_
       refine lg (op_binI rfl rfl rfl rfl rfl (.inl rfl) rfl) rfl hg6 rfl rfl ?_
       refine xlz (o_pT rfl rfl (g11 hg6) rfl rfl) ?_
       refine las rfl rfl rfl rfl rfl ?_
       refine lendF ?_
       refine awp_ret ?_
       refine ⟨[_], ⟨rfl, trivial⟩, ?_⟩
       first | exact ent_d1 rfl rfl | exact ent_d1 rfl (by simp)
      ·
       exact absurd (g10 hg6) (by simp)
     ·
      exact absurd (g10 hg5) (by simp)
    ·
     exact absurd (g10 hg4) (by simp)
  ·
   iterate 3 refine lskip rfl hg2 rfl ?_
   refine xlz (o_pT rfl rfl (g00 hg2) rfl rfl) ?_
   refine lendF ?_
   refine awp_condT rfl rfl rfl ?_
   refine xsr ?_
   refine las rfl rfl rfl rfl rfl ?_
   refine lendF ?_
   refine awp_ret ?_
   refine ⟨[_], ⟨rfl, trivial⟩, ?_⟩
   first | exact ent_d1 rfl rfl | exact ent_d1 rfl (by simp)

end Go.Pm
