/- Part 5 of a proof about the index of a registry: plain functions, and walks through the program that show that it computes them (W19 .. W33). Own work. -/
import Derived.Test.YtffkffapcffhcaaGreatDoorKd
set_option autoImplicit false
set_option linter.unusedVariables false
set_option linter.unusedSimpArgs false
namespace Go.Pm
open Go.Proofs

set_option maxRecDepth 10000 in
theorem c123 (s : Bytes) (hs : s.length ≤ 100000) : Fn PR 123 [.d (.str s)] [] [.d (I (verF s).1), .d (.bool (verF s).2)] [] := by
 refine fn_of_awp Tryz.func123 rfl (N := 53) rfl ?_
 have hTv := majF_v (s := s)
 have hTn := majF_nv (s := s)
 have hTl : (cutP s [118]).2 = true → (cutP s [118]).1.length + 1 = s.length := fun h => by have := congrArg List.length (cutP_v h); simp at this; omega
 refine xsr ?_
 iterate 2 refine las rfl rfl rfl rfl rfl ?_
 refine lendF ?_
 refine xsr ?_
 refine lmv rfl rfl rfl rfl rfl ?_
 refine xlz (o_call (c150 s [118] hs (by decide)) rfl rfl rfl ca150 rfl rfl) ?_
 refine lmv rfl rfl rfl rfl rfl ?_
 refine xlz (op_extract rfl rfl rfl rfl) ?_
 refine xlz (op_extract rfl rfl rfl rfl) ?_
 iterate 2 refine las rfl rfl rfl rfl rfl ?_
 refine lendF ?_
 refine awp_seq ?_
 refine xsr ?_
 refine lmv rfl rfl rfl rfl rfl ?_
 refine xlz (op_not rfl rfl rfl) ?_
 refine lmv rfl rfl rfl rfl rfl ?_
 refine lsplit rfl (fun hg1 => ?_) (fun hg1 => ?_)
 ·
  have hok : (cutP s [118]).2 = true := by (have h := (g01 hg1)); simpa using h
  have hM := hTv hok
  have hl := hTl hok
  refine gmv hg1 rfl rfl rfl rfl rfl ?_
  refine lg (op_binS rfl rfl rfl rfl rfl (fun h => by first | cases h | (simp; omega)) rfl) rfl hg1 rfl rfl ?_
  refine xlz (o_pF rfl rfl (g01 hg1) rfl rfl) ?_
  refine lmv rfl rfl rfl rfl rfl ?_
  refine lsplit rfl (fun hg2 => ?_) (fun hg2 => ?_)
  ·
   have hT0 : 0 < (cutP s [118]).1.length := by (have h := (g01 hg2)); simp at h; exact List.length_pos_iff.2 h
   refine gmv hg2 rfl rfl rfl rfl rfl ?_
   refine lg (op_lenS rfl rfl rfl ty9) rfl hg2 rfl rfl ?_
   refine lg (op_binI rfl rfl rfl rfl rfl (.inl rfl) rfl) rfl hg2 rfl rfl ?_
   refine xlz (o_pF rfl rfl (g01 hg2) rfl rfl) ?_
   refine lmv rfl rfl rfl rfl rfl ?_
   refine lsplit rfl (fun hg3 => ?_) (fun hg3 => ?_)
   ·
    have hT3 : (cutP s [118]).1.length ≤ 3 := by (have h := (g01 hg3)); simp at h; omega
    have hH1 : ¬ ((cutP s [118]).1.length < 1 ∨ (cutP s [118]).1.length > 3) := by omega
    refine gmv hg3 rfl rfl rfl rfl rfl ?_
    refine lg (op_lenS rfl rfl rfl ty9) rfl hg3 rfl rfl ?_
    refine lg (op_binI rfl rfl rfl rfl rfl (.inl rfl) rfl) rfl hg3 rfl rfl ?_
    refine gmv hg3 rfl rfl rfl rfl rfl ?_
    refine lsplit rfl (fun hg4 => ?_) (fun hg4 => ?_)
    ·
     have hT1 : (cutP s [118]).1.length > 1 := by (have h := (g11 hg4)); simp at h; omega
     obtain ⟨c, hc0⟩ : ∃ c, (cutP s [118]).1[0]? = some c := ⟨_, List.getElem?_eq_getElem (by omega)⟩
     have hgc : (cutP s [118]).1.getD 0 0 = c := getD_get hc0
     refine gmv hg4 rfl rfl rfl rfl rfl ?_
     refine lg (o_idxS (0) rfl rfl rfl rfl ty9 (by first | rfl | omega | (simp; done) | (simp; omega)) hc0) rfl hg4 rfl rfl ?_
     refine lg (op_binI rfl rfl rfl rfl rfl (.inl rfl) rfl) rfl hg4 rfl rfl ?_
     refine lg (o_pT rfl rfl (g11 hg4) rfl rfl) rfl hg3 rfl rfl ?_
     refine xlz (o_pF rfl rfl (g01 hg3) rfl rfl) ?_
     refine lmv rfl rfl rfl rfl rfl ?_
     refine lsplit rfl (fun hg5 => ?_) (fun hg5 => ?_)
     ·
      have hH2 : ¬ ((cutP s [118]).1.getD 0 0 = 48 ∧ (cutP s [118]).1.length > 1) := by rw [hgc]; (have h := (g01 hg5)); rw [show (48 : Int) = ((48 : UInt8).toNat : Int) from rfl, eqB] at h; simp at h; exact fun e => h e.1
      refine gmv hg5 rfl rfl rfl rfl rfl ?_
      refine lg (o_call (c125 128 digitB ca128 c128 (cutP s [118]).1 (by omega)) rfl rfl rfl ca125 rfl rfl) rfl hg5 rfl rfl ?_
      refine lg (op_not rfl rfl rfl) rfl hg5 rfl rfl ?_
      refine xlz (o_pF rfl rfl (g01 hg5) rfl rfl) ?_
      refine lendF ?_
      refine awp_cond rfl rfl (fun hc6 => ?_) (fun hc6 => ?_)
      ·
       have hv : verF s = (0, false) := verF_no (by rw [hM, if_neg hH1, if_neg hH2, digs_no _ _ (by (have h := hc6); simpa using h)]; rfl)
       refine xsr ?_
       iterate 2 refine las rfl rfl rfl rfl rfl ?_
       refine lendF ?_
       refine awp_ret ?_
       refine ⟨[_, _], ⟨rfl, rfl, trivial⟩, ?_⟩
       rw [hv]
       first | exact ent_d2 rfl rfl rfl rfl | exact ent_d2 rfl (by rw [hie, List.drop_length, hdv] at hI; simp [digs] at hI; rw [hI]) rfl rfl
      ·
       have hall : (cutP s [118]).1.all digitB = true := by (have h := hc6); simpa using h
       obtain ⟨v, hdv⟩ := digs_all (cutP s [118]).1 0 hall
       have hv0 := digs_ge _ _ _ (Int.le_refl 0) hdv
       have hv : verF s = (v, true) := verF_yes (by rw [hM, if_neg hH1, if_neg hH2, hdv]; rfl) hv0
       refine awp_skip ?_
       refine xsr ?_
       refine las rfl rfl rfl rfl rfl ?_
       refine lendF ?_
       refine awp_seq ?_
       refine xsr ?_
       refine lmv rfl rfl rfl rfl rfl ?_
       refine xlz (op_lenS rfl rfl rfl ty9) ?_
       refine lmv rfl rfl rfl rfl rfl ?_
       refine lendF ?_
       refine awp_block ?_
       refine awp_loop (fun x => ⟨53, [(5, .d (I x.2)), (40, .d (I (x.1 : Nat))), (0, .d (.str (cutP s [118]).1)), (39, .d (I (cutP s [118]).1.length))], []⟩) (fun x => (cutP s [118]).1.length - x.1) (fun x => x.1 ≤ (cutP s [118]).1.length ∧ 0 ≤ x.2 ∧ x.2 < (10 : Int) ^ x.1 ∧ digs ((cutP s [118]).1.drop x.1) x.2 = digs (cutP s [118]).1 0) (0, 0) ?_ ?_ ?_
       ·
        exact ent_k [] rfl rfl ((by repeat (first | exact .nil | refine xkc ?_))) obs_nil rfl
       ·
        exact ⟨Nat.zero_le _, Int.le_refl _, by decide, rfl⟩
       ·
        rintro ⟨i, n⟩ ⟨hi, h2, h3, hI⟩
        dsimp only at hi h2 h3 hI ⊢
        refine xsr ?_
        refine xlz (op_binI rfl rfl rfl rfl rfl (.inl rfl) rfl) ?_
        refine lendF ?_
        refine awp_seq ?_
        refine awp_cond rfl rfl (fun hc7 => ?_) (fun hc7 => ?_)
        ·
         obtain ⟨x, hn⟩ := rng_lt (l := (cutP s [118]).1) hc7
         have hlt := rng_le hn
         have hp10 : (10 : Int) ^ i ≤ 100 := by (have : i = 0 ∨ i = 1 ∨ i = 2 := by omega); rcases this with rfl | rfl | rfl <;> decide
         have hdx : digitB x = true := List.all_eq_true.1 hall x (List.mem_of_getElem? hn)
         have hdr : 48 ≤ (x.toNat : Int) ∧ (x.toNat : Int) ≤ 57 := by simpa [digitB] using hdx
         refine awp_skip ?_
         refine awp_seq ?_
         refine awp_block ?_
         refine xsr ?_
         refine lmv rfl rfl rfl rfl rfl ?_
         refine las rfl rfl rfl rfl rfl ?_
         refine lendF ?_
         refine awp_region mixed ?_
         refine lmv rfl rfl rfl rfl rfl ?_
         refine xlz (o_mul rfl rfl rfl rfl (by first | omega | (simp; omega) | (simp at *; omega))) ?_
         iterate 2 refine lmv rfl rfl rfl rfl rfl ?_
         refine xlz (o_idxS (i) rfl rfl rfl rfl ty9 (by first | rfl | omega | (simp; done) | (simp; omega)) hn) ?_
         refine xlz (o_eqI (op_binI rfl rfl rfl rfl rfl (.inl rfl) rfl) (wrapU8 (by omega) (by omega))) ?_
         refine xlz (o_eqI (op_convI rfl rfl rfl ty5 ty3) (wrap64 (by omega) (by omega))) ?_
         refine xlz (o_add rfl rfl rfl rfl (by first | omega | (simp; omega) | (simp at *; omega))) ?_
         refine las rfl rfl rfl rfl rfl ?_
         refine lendF ?_
         refine awp_region mixed ?_
         refine xlz (o_add rfl rfl rfl rfl (by first | omega | (simp; omega) | (simp at *; omega))) ?_
         refine lmv rfl rfl rfl rfl rfl ?_
         refine lendF ?_
         refine ⟨(i + 1, 10 * n + ((x.toNat : Int) - 48)), ?_, ?_, ?_⟩
         ·
          exact ⟨rng_le hn, by show 0 ≤ 10 * n + ((x.toNat : Int) - 48); omega, by show 10 * n + ((x.toNat : Int) - 48) < (10 : Int) ^ (i + 1); rw [Int.pow_succ]; omega, by show digs (List.drop (i + 1) _) _ = _; rw [← hI, drop_cons hn, digs, if_pos hdx]⟩
         ·
          exact ent_k [] rfl rfl ((by repeat (first | exact .nil | refine xkc ?_))) obs_nil rfl
         ·
          show (cutP s [118]).1.length - (i + 1) < (cutP s [118]).1.length - i; omega
        ·
         have hie := rng_ge (l := (cutP s [118]).1) hc7 hi
         refine awp_exit ?_
         refine xsr ?_
         refine lmv rfl rfl rfl rfl rfl ?_
         iterate 2 refine las rfl rfl rfl rfl rfl ?_
         refine lendF ?_
         refine awp_ret ?_
         refine ⟨[_, _], ⟨rfl, rfl, trivial⟩, ?_⟩
         rw [hv]
         first | exact ent_d2 rfl rfl rfl rfl | exact ent_d2 rfl (by rw [hie, List.drop_length, hdv] at hI; simp [digs] at hI; rw [hI]) rfl rfl
     ·
      have hv : verF s = (0, false) := verF_no (by rw [hM, if_neg hH1, if_pos ⟨by rw [hgc]; (have h := (g00 hg5)); rw [show (48 : Int) = ((48 : UInt8).toNat : Int) from rfl, eqB] at h; simpa using h, hT1⟩])
      iterate 3 refine lskip rfl hg5 rfl ?_
      refine xlz (o_pT rfl rfl (g00 hg5) rfl rfl) ?_
      refine lendF ?_
      refine awp_condT rfl rfl rfl ?_
      refine xsr ?_
      iterate 2 refine las rfl rfl rfl rfl rfl ?_
      refine lendF ?_
      refine awp_ret ?_
      refine ⟨[_, _], ⟨rfl, rfl, trivial⟩, ?_⟩
      rw [hv]
      first | exact ent_d2 rfl rfl rfl rfl | exact ent_d2 rfl (by rw [hie, List.drop_length, hdv] at hI; simp [digs] at hI; rw [hI]) rfl rfl
    ·
     have hH2 : ¬ ((cutP s [118]).1.getD 0 0 = 48 ∧ (cutP s [118]).1.length > 1) := by (have h := (g10 hg4)); simp at h; omega
     iterate 3 refine lskip rfl hg4 rfl ?_
     refine lg (o_pF rfl rfl (g10 hg4) rfl rfl) rfl hg3 rfl rfl ?_
     refine xlz (o_pF rfl rfl (g01 hg3) rfl rfl) ?_
     refine lmv rfl rfl rfl rfl rfl ?_
     refine gmv rfl rfl rfl rfl rfl rfl ?_
     refine lg (o_call (c125 128 digitB ca128 c128 (cutP s [118]).1 (by omega)) rfl rfl rfl ca125 rfl rfl) rfl rfl rfl rfl ?_
     refine lg (op_not rfl rfl rfl) rfl rfl rfl rfl ?_
     refine xlz (o_pF rfl rfl rfl rfl rfl) ?_
     refine lendF ?_
     refine awp_cond rfl rfl (fun hc9 => ?_) (fun hc9 => ?_)
     ·
      have hv : verF s = (0, false) := verF_no (by rw [hM, if_neg hH1, if_neg hH2, digs_no _ _ (by (have h := hc9); simpa using h)]; rfl)
      refine xsr ?_
      iterate 2 refine las rfl rfl rfl rfl rfl ?_
      refine lendF ?_
      refine awp_ret ?_
      refine ⟨[_, _], ⟨rfl, rfl, trivial⟩, ?_⟩
      rw [hv]
      first | exact ent_d2 rfl rfl rfl rfl | exact ent_d2 rfl (by rw [hie, List.drop_length, hdv] at hI; simp [digs] at hI; rw [hI]) rfl rfl
     ·
      have hall : (cutP s [118]).1.all digitB = true := by (have h := hc9); simpa using h
      obtain ⟨v, hdv⟩ := digs_all (cutP s [118]).1 0 hall
      have hv0 := digs_ge _ _ _ (Int.le_refl 0) hdv
      have hv : verF s = (v, true) := verF_yes (by rw [hM, if_neg hH1, if_neg hH2, hdv]; rfl) hv0
      refine awp_skip ?_
      refine xsr ?_
      refine las rfl rfl rfl rfl rfl ?_
      refine lendF ?_
      refine awp_seq ?_
      refine xsr ?_
      refine lmv rfl rfl rfl rfl rfl ?_
      refine xlz (op_lenS rfl rfl rfl ty9) ?_
      refine lmv rfl rfl rfl rfl rfl ?_
      refine lendF ?_
      refine awp_block ?_
      refine awp_loop (fun x => ⟨53, [(5, .d (I x.2)), (40, .d (I (x.1 : Nat))), (0, .d (.str (cutP s [118]).1)), (39, .d (I (cutP s [118]).1.length))], []⟩) (fun x => (cutP s [118]).1.length - x.1) (fun x => x.1 ≤ (cutP s [118]).1.length ∧ 0 ≤ x.2 ∧ x.2 < (10 : Int) ^ x.1 ∧ digs ((cutP s [118]).1.drop x.1) x.2 = digs (cutP s [118]).1 0) (0, 0) ?_ ?_ ?_
      ·
       exact ent_k [] rfl rfl ((by repeat (first | exact .nil | refine xkc ?_))) obs_nil rfl
      ·
       exact ⟨Nat.zero_le _, Int.le_refl _, by decide, rfl⟩
      ·
       rintro ⟨i, n⟩ ⟨hi, h2, h3, hI⟩
       dsimp only at hi h2 h3 hI ⊢
       refine xsr ?_
       refine xlz (op_binI rfl rfl rfl rfl rfl (.inl rfl) rfl) ?_
       refine lendF ?_
       refine awp_seq ?_
       refine awp_cond rfl rfl (fun hc10 => ?_) (fun hc10 => ?_)
       ·
        obtain ⟨x, hn⟩ := rng_lt (l := (cutP s [118]).1) hc10
        have hlt := rng_le hn
        have hp10 : (10 : Int) ^ i ≤ 100 := by (have : i = 0 ∨ i = 1 ∨ i = 2 := by omega); rcases this with rfl | rfl | rfl <;> decide
        have hdx : digitB x = true := List.all_eq_true.1 hall x (List.mem_of_getElem? hn)
        have hdr : 48 ≤ (x.toNat : Int) ∧ (x.toNat : Int) ≤ 57 := by simpa [digitB] using hdx
        refine awp_skip ?_
        refine awp_seq ?_
        refine awp_block ?_
        refine xsr ?_
        refine lmv rfl rfl rfl rfl rfl ?_
        refine las rfl rfl rfl rfl rfl ?_
        refine lendF ?_
        refine awp_region mixed ?_
        refine lmv rfl rfl rfl rfl rfl ?_
        refine xlz (o_mul rfl rfl rfl rfl (by first | omega | (simp; omega) | (simp at *; omega))) ?_
        iterate 2 refine lmv rfl rfl rfl rfl rfl ?_
        refine xlz (o_idxS (i) rfl rfl rfl rfl ty9 (by first | rfl | omega | (simp; done) | (simp; omega)) hn) ?_
        refine xlz (o_eqI (op_binI rfl rfl rfl rfl rfl (.inl rfl) rfl) (wrapU8 (by omega) (by omega))) ?_
        refine xlz (o_eqI (op_convI rfl rfl rfl ty5 ty3) (wrap64 (by omega) (by omega))) ?_
        refine xlz (o_add rfl rfl rfl rfl (by first | omega | (simp; omega) | (simp at *; omega))) ?_
        refine las rfl rfl rfl rfl rfl ?_
        refine lendF ?_
        refine awp_region mixed ?_
        refine xlz (o_add rfl rfl rfl rfl (by first | omega | (simp; omega) | (simp at *; omega))) ?_
        refine lmv rfl rfl rfl rfl rfl ?_
        refine lendF ?_
        refine ⟨(i + 1, 10 * n + ((x.toNat : Int) - 48)), ?_, ?_, ?_⟩
        ·
         exact ⟨rng_le hn, by show 0 ≤ 10 * n + ((x.toNat : Int) - 48); omega, by show 10 * n + ((x.toNat : Int) - 48) < (10 : Int) ^ (i + 1); rw [Int.pow_succ]; omega, by show digs (List.drop (i + 1) _) _ = _; rw [← hI, drop_cons hn, digs, if_pos hdx]⟩
        ·
         exact ent_k [] rfl rfl ((by repeat (first | exact .nil | refine xkc ?_))) obs_nil rfl
        ·
         show (cutP s [118]).1.length - (i + 1) < (cutP s [118]).1.length - i; omega
       ·
        have hie := rng_ge (l := (cutP s [118]).1) hc10 hi
        refine awp_exit ?_
        refine xsr ?_
        refine lmv rfl rfl rfl rfl rfl ?_
        iterate 2 refine las rfl rfl rfl rfl rfl ?_
        refine lendF ?_
        refine awp_ret ?_
        refine ⟨[_, _], ⟨rfl, rfl, trivial⟩, ?_⟩
        rw [hv]
        first | exact ent_d2 rfl rfl rfl rfl | exact ent_d2 rfl (by rw [hie, List.drop_length, hdv] at hI; simp [digs] at hI; rw [hI]) rfl rfl
   ·
    have hv : verF s = (0, false) := verF_no (by rw [hM, if_pos (.inr (by (have h := (g00 hg3)); simp at h; omega))])
    iterate 4 refine lskip rfl hg3 rfl ?_
    iterate 3 refine lskip rfl rfl rfl ?_
    refine lskip rfl hg3 rfl ?_
    refine xlz (o_pT rfl rfl (g00 hg3) rfl rfl) ?_
    refine lmv rfl rfl rfl rfl rfl ?_
    iterate 3 refine lskip rfl rfl rfl ?_
    refine xlz (o_pT rfl rfl rfl rfl rfl) ?_
    refine lendF ?_
    refine awp_condT rfl rfl rfl ?_
    refine xsr ?_
    iterate 2 refine las rfl rfl rfl rfl rfl ?_
    refine lendF ?_
    refine awp_ret ?_
    refine ⟨[_, _], ⟨rfl, rfl, trivial⟩, ?_⟩
    rw [hv]
    first | exact ent_d2 rfl rfl rfl rfl | exact ent_d2 rfl (by rw [hie, List.drop_length, hdv] at hI; simp [digs] at hI; rw [hI]) rfl rfl
  ·
   have hv : verF s = (0, false) := verF_no (by rw [hM, if_pos (.inl (by (have h := (g00 hg2)); simp at h; simp [h]))])
   iterate 3 refine lskip rfl hg2 rfl ?_
   refine xlz (o_pT rfl rfl (g00 hg2) rfl rfl) ?_
   refine lmv rfl rfl rfl rfl rfl ?_
   iterate 8 refine lskip rfl rfl rfl ?_
   refine xlz (o_pT rfl rfl rfl rfl rfl) ?_
   refine lmv rfl rfl rfl rfl rfl ?_
   iterate 3 refine lskip rfl rfl rfl ?_
   refine xlz (o_pT rfl rfl rfl rfl rfl) ?_
   refine lendF ?_
   refine awp_condT rfl rfl rfl ?_
   refine xsr ?_
   iterate 2 refine las rfl rfl rfl rfl rfl ?_
   refine lendF ?_
   refine awp_ret ?_
   refine ⟨[_, _], ⟨rfl, rfl, trivial⟩, ?_⟩
   rw [hv]
   first | exact ent_d2 rfl rfl rfl rfl | exact ent_d2 rfl (by rw [hie, List.drop_length, hdv] at hI; simp [digs] at hI; rw [hI]) rfl rfl
 ·
  have hv : verF s = (0, false) := by unfold verF; rw [if_pos (hTn (by (have h := (g00 hg1)); simpa using h))]
  iterate 2 refine lskip rfl hg1 rfl ?_
  refine xlz (o_pT rfl rfl (g00 hg1) rfl rfl) ?_
  refine lmv rfl rfl rfl rfl rfl ?_
  iterate 3 refine lskip rfl rfl rfl ?_
  refine xlz (o_pT rfl rfl rfl rfl rfl) ?_
  refine lmv rfl rfl rfl rfl rfl ?_
  iterate 8 refine lskip rfl rfl rfl ?_
  refine xlz (o_pT rfl rfl rfl rfl rfl) ?_
  refine lmv rfl rfl rfl rfl rfl ?_
  iterate 3 refine lskip rfl rfl rfl ?_
  refine xlz (o_pT rfl rfl rfl rfl rfl) ?_
  refine lendF ?_
  refine awp_condT rfl rfl rfl ?_
  refine xsr ?_
  iterate 2 refine las rfl rfl rfl rfl rfl ?_
  refine lendF ?_
  refine awp_ret ?_
  refine ⟨[_, _], ⟨rfl, rfl, trivial⟩, ?_⟩
  rw [hv]
  first | exact ent_d2 rfl rfl rfl rfl | exact ent_d2 rfl (by rw [hie, List.drop_length, hdv] at hI; simp [digs] at hI; rw [hI]) rfl rfl

set_option maxRecDepth 10000 in
theorem c101 (p : Bytes) (hs : p.length ≤ 100000) : Fn PR 101 [.d (.str p)] [] [.d (I (majorF p).1), .d (I (majorF p).2)] [] := by
 refine fn_of_awp Tryz.func101 rfl (N := 49) rfl ?_
 have hsl := segsF_len p
 have hsp := segsF_pos p
 obtain ⟨z, hz⟩ := last_get hsp
 have hgz := getD_get (d := []) hz
 refine xsr ?_
 iterate 2 refine las rfl rfl rfl rfl rfl ?_
 refine lendF ?_
 refine xsr ?_
 refine lmv rfl rfl rfl rfl rfl ?_
 refine xlz (o_call (c122 p hs) rfl rfl rfl ca122 rfl rfl) ?_
 refine las rfl rfl rfl rfl rfl ?_
 refine lendF ?_
 refine xsr ?_
 iterate 2 refine lmv rfl rfl rfl rfl rfl ?_
 refine xlz (o_lenE (n := (segsF p).length) rfl rfl rfl ty71 (by simp)) ?_
 refine xlz (o_sub rfl rfl rfl rfl (by first | omega | (simp; omega) | (simp at *; omega))) ?_
 refine xlz (o_ixN (((segsF p).length - 1)) rfl rfl rfl rfl ty71 (by first | rfl | omega | (simp; done) | (simp; omega)) hz ty9) ?_
 refine xlz (op_loadC1 rfl rfl rfl ty9 rfl rfl) ?_
 refine xlz (o_call (c123 z (by have := segsF_mem p z (List.mem_of_getElem? hz); omega)) rfl rfl rfl ca123 rfl rfl) ?_
 refine lmv rfl rfl rfl rfl rfl ?_
 refine xlz (op_extract rfl rfl rfl rfl) ?_
 refine xlz (op_extract rfl rfl rfl rfl) ?_
 iterate 2 refine las rfl rfl rfl rfl rfl ?_
 refine lendF ?_
 refine awp_seq ?_
 refine xsr ?_
 refine lmv rfl rfl rfl rfl rfl ?_
 refine xlz (op_not rfl rfl rfl) ?_
 refine lmv rfl rfl rfl rfl rfl ?_
 refine lsplit rfl (fun hg1 => ?_) (fun hg1 => ?_)
 ·
  have hok : ¬ majF z < 0 := by (have h := (g01 hg1)); unfold verF at h; split at h; (simp at h); (assumption)
  refine gmv hg1 rfl rfl rfl rfl rfl ?_
  refine lg (op_lenS rfl rfl rfl ty9) rfl hg1 rfl rfl ?_
  refine lg (op_binI rfl rfl rfl rfl rfl (.inl rfl) rfl) rfl hg1 rfl rfl ?_
  refine xlz (o_pF rfl rfl (g01 hg1) rfl rfl) ?_
  refine lmv rfl rfl rfl rfl rfl ?_
  refine lsplit rfl (fun hg2 => ?_) (fun hg2 => ?_)
  ·
   have h64 : ¬ p.length > 64 := by (have h := (g01 hg2)); simp at h; omega
   refine gmv hg2 rfl rfl rfl rfl rfl ?_
   refine lg (o_lenE (n := (segsF p).length) rfl rfl rfl ty71 (by simp)) rfl hg2 rfl rfl ?_
   refine lg (op_binI rfl rfl rfl rfl rfl (.inl rfl) rfl) rfl hg2 rfl rfl ?_
   refine xlz (o_pF rfl rfl (g01 hg2) rfl rfl) ?_
   refine lendF ?_
   refine awp_cond rfl rfl (fun hc3 => ?_) (fun hc3 => ?_)
   ·
    have hv : majorF p = (0, 4) := majorF_short (by (have h := hc3); simp at h; omega)
    refine xsr ?_
    iterate 2 refine las rfl rfl rfl rfl rfl ?_
    refine lendF ?_
    refine awp_ret ?_
    refine ⟨[_, _], ⟨rfl, rfl, trivial⟩, ?_⟩
    first | (rw [hv]; exact ent_d2 rfl rfl rfl rfl) | (rw [majorF_seg (by rw [← hI, drop_cons hn]; simp_all)]; exact ent_d2 rfl rfl rfl rfl) | (have hall : (segsF p).all segOK = true := by rw [← hI, List.drop_length]; rfl); (rw [majorF_yes h64 hall h2 (by rw [hgz]; exact hok), hgz]; exact ent_d2 rfl (by unfold verF; rw [if_neg hok]) rfl rfl)
   ·
    have h2 : ¬ (segsF p).length < 2 := by (have h := hc3); simp at h; omega
    refine awp_skip ?_
    refine awp_seq ?_
    refine xsr ?_
    refine lmv rfl rfl rfl rfl rfl ?_
    refine xlz (o_lenE (n := (segsF p).length) rfl rfl rfl ty71 (by simp)) ?_
    refine lmv rfl rfl rfl rfl rfl ?_
    refine lendF ?_
    refine awp_block ?_
    refine awp_loop (fun i => ⟨49, [(35, .d (I (i : Nat))), (5, .d (I (verF z).1)), (33, .d (.list ((segsF p).map .str))), (34, .d (I (segsF p).length))], []⟩) (fun i => (segsF p).length - i) (fun i => i ≤ (segsF p).length ∧ ((segsF p).drop i).all segOK = (segsF p).all segOK) 0 ?_ ?_ ?_
    ·
     exact ent_k [] rfl rfl ((by repeat (first | exact .nil | refine xkc ?_))) obs_nil rfl
    ·
     exact ⟨Nat.zero_le _, rfl⟩
    ·
     rintro i ⟨hi, hI⟩
     refine xsr ?_
     refine xlz (op_binI rfl rfl rfl rfl rfl (.inl rfl) rfl) ?_
     refine lendF ?_
     refine awp_seq ?_
     refine awp_cond rfl rfl (fun hc4 => ?_) (fun hc4 => ?_)
     ·
      obtain ⟨x, hn⟩ := rng_lt (l := (segsF p)) (by simpa using hc4)
      have hlt := rng_le hn
      have hmem := List.mem_of_getElem? hn
      refine awp_skip ?_
      refine awp_seq ?_
      refine awp_block ?_
      refine xsr ?_
      refine xlz (o_ixN (i) rfl rfl rfl rfl ty71 (by first | rfl | omega | (simp; done) | (simp; omega)) hn ty9) ?_
      refine xlz (op_loadC1 rfl rfl rfl ty9 rfl rfl) ?_
      refine las rfl rfl rfl rfl rfl ?_
      refine lendF ?_
      refine awp_joinX (fun _ : Unit => ⟨49, [(46, .d (.bool (!segOK x))), (5, .d (I (verF z).1)), (8, .d (.str x)), (33, .d (.list ((segsF p).map .str))), (34, .d (I (segsF p).length)), (35, .d (I (i : Nat))), (38, .d (.str x))], []⟩) (fun _ : Unit => True) ?_ ?_
      ·
       refine awp_region mixed ?_
       refine lmv rfl rfl rfl rfl rfl ?_
       refine xlz (o_call (c124 x (by have := segsF_mem p x hmem; omega)) rfl rfl rfl ca124 rfl rfl) ?_
       refine xlz (op_not rfl rfl rfl) ?_
       refine lmv rfl rfl rfl rfl rfl ?_
       refine lsplit rfl (fun hg5 => ?_) (fun hg5 => ?_)
       ·
        refine gmv hg5 rfl rfl rfl rfl rfl ?_
        refine lg (o_call (c125 126 (fun c => smallB c || digitB c) ca126 c126 x (by have := segsF_mem p x hmem; omega)) rfl rfl rfl ca125 rfl rfl) rfl hg5 rfl rfl ?_
        refine lg (op_not rfl rfl rfl) rfl hg5 rfl rfl ?_
        refine xlz (o_pF rfl rfl (g01 hg5) rfl rfl) ?_
        refine lendF ?_
        refine ⟨(), ?_, ?_⟩
        ·
         exact True.intro
        ·
         exact ent_k [] rfl rfl (.cons rfl (k_b (by simp_all [segOK])) <| (by repeat (first | exact .nil | refine xkc ?_))) obs_nil rfl
       ·
        iterate 3 refine lskip rfl hg5 rfl ?_
        refine xlz (o_pT rfl rfl (g00 hg5) rfl rfl) ?_
        refine lendF ?_
        refine ⟨(), ?_, ?_⟩
        ·
         exact True.intro
        ·
         exact ent_k [] rfl rfl (.cons rfl (k_b (by simp_all [segOK])) <| (by repeat (first | exact .nil | refine xkc ?_))) obs_nil rfl
      ·
       rintro _ _
       refine awp_cond rfl rfl (fun hc6 => ?_) (fun hc6 => ?_)
       ·
        refine xsr ?_
        iterate 2 refine las rfl rfl rfl rfl rfl ?_
        refine lendF ?_
        refine awp_ret ?_
        refine ⟨[_, _], ⟨rfl, rfl, trivial⟩, ?_⟩
        first | (rw [hv]; exact ent_d2 rfl rfl rfl rfl) | (rw [majorF_seg (by rw [← hI, drop_cons hn]; simp_all)]; exact ent_d2 rfl rfl rfl rfl) | (have hall : (segsF p).all segOK = true := by rw [← hI, List.drop_length]; rfl); (rw [majorF_yes h64 hall h2 (by rw [hgz]; exact hok), hgz]; exact ent_d2 rfl (by unfold verF; rw [if_neg hok]) rfl rfl)
       ·
        refine awp_skip ?_
        refine awp_region mixed ?_
        refine xlz (o_add rfl rfl rfl rfl (by first | omega | (simp; omega) | (simp at *; omega))) ?_
        refine lmv rfl rfl rfl rfl rfl ?_
        refine lendF ?_
        refine ⟨i + 1, ?_, ?_, ?_⟩
        ·
         exact ⟨rng_le hn, by rw [← hI, drop_cons hn]; simp_all⟩
        ·
         exact ent_k [] rfl rfl ((by repeat (first | exact .nil | refine xkc ?_))) obs_nil rfl
        ·
         omega
     ·
      obtain rfl := rng_ge (l := (segsF p)) (by simpa using hc4) hi
      refine awp_exit ?_
      refine xsr ?_
      refine lmv rfl rfl rfl rfl rfl ?_
      iterate 2 refine las rfl rfl rfl rfl rfl ?_
      refine lendF ?_
      refine awp_ret ?_
      refine ⟨[_, _], ⟨rfl, rfl, trivial⟩, ?_⟩
      first | (rw [hv]; exact ent_d2 rfl rfl rfl rfl) | (rw [majorF_seg (by rw [← hI, drop_cons hn]; simp_all)]; exact ent_d2 rfl rfl rfl rfl) | (have hall : (segsF p).all segOK = true := by rw [← hI, List.drop_length]; rfl); (rw [majorF_yes h64 hall h2 (by rw [hgz]; exact hok), hgz]; exact ent_d2 rfl (by unfold verF; rw [if_neg hok]) rfl rfl)
  ·
   have hv : majorF p = (0, 4) := majorF_long (by (have h := (g00 hg2)); simp at h; omega)
   iterate 3 refine lskip rfl hg2 rfl ?_
   refine xlz (o_pT rfl rfl (g00 hg2) rfl rfl) ?_
   refine lendF ?_
   refine awp_condT rfl rfl rfl ?_
   refine xsr ?_
   iterate 2 refine las rfl rfl rfl rfl rfl ?_
   refine lendF ?_
   refine awp_ret ?_
   refine ⟨[_, _], ⟨rfl, rfl, trivial⟩, ?_⟩
   first | (rw [hv]; exact ent_d2 rfl rfl rfl rfl) | (rw [majorF_seg (by rw [← hI, drop_cons hn]; simp_all)]; exact ent_d2 rfl rfl rfl rfl) | (have hall : (segsF p).all segOK = true := by rw [← hI, List.drop_length]; rfl); (rw [majorF_yes h64 hall h2 (by rw [hgz]; exact hok), hgz]; exact ent_d2 rfl (by unfold verF; rw [if_neg hok]) rfl rfl)
 ·
  have hv : majorF p = (0, 4) := majorF_neg (by rw [hgz]; (have h := (g00 hg1)); unfold verF at h; split at h; (assumption); (simp at h))
  iterate 3 refine lskip rfl hg1 rfl ?_
  refine xlz (o_pT rfl rfl (g00 hg1) rfl rfl) ?_
  refine lmv rfl rfl rfl rfl rfl ?_
  iterate 3 refine lskip rfl rfl rfl ?_
  refine xlz (o_pT rfl rfl rfl rfl rfl) ?_
  refine lendF ?_
  refine awp_condT rfl rfl rfl ?_
  refine xsr ?_
  iterate 2 refine las rfl rfl rfl rfl rfl ?_
  refine lendF ?_
  refine awp_ret ?_
  refine ⟨[_, _], ⟨rfl, rfl, trivial⟩, ?_⟩
  first | (rw [hv]; exact ent_d2 rfl rfl rfl rfl) | (rw [majorF_seg (by rw [← hI, drop_cons hn]; simp_all)]; exact ent_d2 rfl rfl rfl rfl) | (have hall : (segsF p).all segOK = true := by rw [← hI, List.drop_length]; rfl); (rw [majorF_yes h64 hall h2 (by rw [hgz]; exact hok), hgz]; exact ent_d2 rfl (by unfold verF; rw [if_neg hok]) rfl rfl)

set_option maxRecDepth 10000 in
theorem c102 (p : Bytes) (hs : p.length ≤ 100000) : Fn PR 102 [.d (.str p)] [] [.d (.bool (isPath p))] [] := by
 refine fn_of_awp Tryz.func102 rfl (N := 12) rfl ?_
 refine xsr ?_
 refine las rfl rfl rfl rfl rfl ?_
 refine lendF ?_
 refine xsr ?_
 refine lmv rfl rfl rfl rfl rfl ?_
 refine xlz (o_call (c101 p hs) rfl rfl rfl ca101 rfl rfl) ?_
 refine lmv rfl rfl rfl rfl rfl ?_
 refine xlz (op_extract rfl rfl rfl rfl) ?_
 refine xlz (op_extract rfl rfl rfl rfl) ?_
 iterate 2 refine las rfl rfl rfl rfl rfl ?_
 refine lendF ?_
 refine xsr ?_
 refine lmv rfl rfl rfl rfl rfl ?_
 refine xlz (op_binI rfl rfl rfl rfl rfl (.inl rfl) rfl) ?_
 refine las rfl rfl rfl rfl rfl ?_
 refine lendF ?_
 refine awp_ret ?_
 refine ⟨[_], ⟨rfl, trivial⟩, ?_⟩
 exact ent_b rfl (by unfold isPath; rw [Bool.eq_iff_iff]; simp)

set_option maxRecDepth 10000 in
theorem c65 (p : Bytes) (hs : p.length ≤ 100000) : Fn PR 65 [.d (.str p)] [] [.undef, .d (I (if isPath p then (majorF p).1 else 0)), .d (I (if isPath p then 0 else 4))] [] := by
 refine fn_of_awp Tryz.func65 rfl (N := 24) rfl ?_
 refine xsr ?_
 iterate 3 refine las rfl rfl rfl rfl rfl ?_
 refine lendF ?_
 refine xsr ?_
 refine lmv rfl rfl rfl rfl rfl ?_
 refine xlz (o_call (c101 p hs) rfl rfl rfl ca101 rfl rfl) ?_
 refine lmv rfl rfl rfl rfl rfl ?_
 refine xlz (op_extract rfl rfl rfl rfl) ?_
 refine xlz (op_extract rfl rfl rfl rfl) ?_
 iterate 2 refine las rfl rfl rfl rfl rfl ?_
 refine lendF ?_
 refine awp_seq ?_
 refine xsr ?_
 refine lmv rfl rfl rfl rfl rfl ?_
 refine xlz (o_call (c102 p hs) rfl rfl rfl ca102 rfl rfl) ?_
 refine xlz (op_not rfl rfl rfl) ?_
 refine lmv rfl rfl rfl rfl rfl ?_
 refine lsplit rfl (fun hg1 => ?_) (fun hg1 => ?_)
 ·
  have hp : isPath p = true := by (have h := (g01 hg1)); simpa using h
  have h0 := isPath_ok hp
  obtain ⟨j, hj⟩ := isPath_slash hp
  have hl1 := lastIx_ge hj p.length (rng_le hj)
  have hl2 := lastIx_lt p 47 p.length
  obtain ⟨q, hq⟩ := Int.eq_ofNat_of_zero_le hl1
  refine gmv hg1 rfl rfl rfl rfl rfl ?_
  refine lg (op_binI rfl rfl rfl rfl rfl (.inl rfl) rfl) rfl hg1 rfl rfl ?_
  refine xlz (o_pF rfl rfl (g01 hg1) rfl rfl) ?_
  refine lendF ?_
  refine awp_cond rfl rfl (fun hc2 => ?_) (fun hc2 => ?_)
  ·
   exact absurd hc2 (by simp [h0])
  ·
   refine awp_skip ?_
   refine xsr ?_
   iterate 2 refine lmv rfl rfl rfl rfl rfl ?_
   refine xlz (o_call (c103 p 47 hs) rfl rfl rfl ca103 rfl rfl) ?_
   refine xlz (o_slS rfl rfl rfl ty9 .none (.some rfl rfl (n := q) (by first | rfl | omega | (simp; done) | (simp; omega))) (Nat.zero_le _) (by omega)) ?_
   refine lmv rfl rfl rfl rfl rfl ?_
   iterate 3 refine las rfl rfl rfl rfl rfl ?_
   refine lendF ?_
   refine awp_ret ?_
   refine ⟨[_, _, _], ⟨rfl, rfl, rfl, trivial⟩, ?_⟩
   exact ent_id rfl (.cons rfl (.undef _) (.cons rfl (k_i (by simp [hp])) (.cons rfl (k_i (by simp [hp])) .nil))) obs_nil rfl
 ·
  have hp : isPath p = false := by (have h := (g00 hg1)); simpa using h
  iterate 2 refine lskip rfl hg1 rfl ?_
  refine xlz (o_pT rfl rfl (g00 hg1) rfl rfl) ?_
  refine lendF ?_
  refine awp_condT rfl rfl rfl ?_
  refine xsr ?_
  iterate 3 refine las rfl rfl rfl rfl rfl ?_
  refine lendF ?_
  refine awp_ret ?_
  refine ⟨[_, _, _], ⟨rfl, rfl, rfl, trivial⟩, ?_⟩
  exact ent_id rfl (.cons rfl (.undef _) (.cons rfl (k_i (by simp [hp])) (.cons rfl (k_i (by simp [hp])) .nil))) obs_nil rfl

end Go.Pm

namespace Go.Pm
open Go.Proofs

set_option maxRecDepth 10000 in
theorem c23n  : Fn PR 23 [.nils] [] [.d (.list [])] [] := by
 refine fn_of_awp Tryz.func23 rfl (N := 8) rfl ?_
 refine xsr ?_
 refine las rfl rfl rfl rfl rfl ?_
 refine lendF ?_
 refine awp_seq ?_
 refine xsr ?_
 refine lmv rfl rfl rfl rfl rfl ?_
 refine xlz (op_nilS rfl (.inl rfl) rfl rfl rfl rfl ty26 rfl) ?_
 refine lendF ?_
 refine awp_condT rfl rfl rfl ?_
 refine xsr ?_
 refine las rfl rfl rfl rfl rfl ?_
 refine lendF ?_
 refine awp_ret ?_
 refine ⟨[_], ⟨rfl, trivial⟩, ?_⟩
 exact ent_d1 rfl (by first | rfl | simp_all)

set_option maxRecDepth 10000 in
theorem c23f (s : List Req) (hs : s.length ≤ 1000000) : Fn PR 23 [.nn (s.map Req.d)] [] [.d (reqsD s)] [] := by
 refine fn_of_awp Tryz.func23 rfl (N := 8) rfl ?_
 refine xsr ?_
 refine las rfl rfl rfl rfl rfl ?_
 refine lendF ?_
 refine awp_seq ?_
 refine xsr ?_
 refine lmv rfl rfl rfl rfl rfl ?_
 refine xlz (op_nilS rfl (.inl rfl) rfl rfl rfl rfl ty26 rfl) ?_
 refine lendF ?_
 refine awp_condF rfl rfl rfl ?_
 refine awp_skip ?_
 refine xsr ?_
 refine xlz (o_bs rfl rfl rfl rfl rfl ty26 ty51 rfl rfl) ?_
 refine lmv rfl rfl rfl rfl rfl ?_
 refine xlz (o_app rfl rfl (by decide) rfl rfl rfl ty26 ty51 rfl (by decide) rfl (by simp) (by intro d hd; obtain ⟨x, _, rfl⟩ := List.mem_map.1 hd; rfl) (by simp; omega) (by decide) rfl) ?_
 refine las rfl rfl rfl rfl rfl ?_
 refine lendF ?_
 refine awp_ret ?_
 refine ⟨[_], ⟨rfl, trivial⟩, ?_⟩
 exact ent_d1 rfl (by first | rfl | simp_all)
theorem c23 (s : List Req) (hs : s.length ≤ 1000000) : Fn PR 23 [.d (reqsD s)] [] [.d (reqsD s)] [] := fn_nil (fun h => by have : s = [] := List.map_eq_nil_iff.1 h; subst this; exact c23n) (c23f s hs)

set_option maxRecDepth 10000 in
theorem c113n  : Fn PR 113 [.nils] [] [.d (.list [])] [] := by
 refine fn_of_awp Tryz.func113 rfl (N := 8) rfl ?_
 refine xsr ?_
 refine las rfl rfl rfl rfl rfl ?_
 refine lendF ?_
 refine awp_seq ?_
 refine xsr ?_
 refine lmv rfl rfl rfl rfl rfl ?_
 refine xlz (op_nilS rfl (.inl rfl) rfl rfl rfl rfl ty49 rfl) ?_
 refine lendF ?_
 refine awp_condT rfl rfl rfl ?_
 refine xsr ?_
 refine las rfl rfl rfl rfl rfl ?_
 refine lendF ?_
 refine awp_ret ?_
 refine ⟨[_], ⟨rfl, trivial⟩, ?_⟩
 exact ent_d1 rfl (by first | rfl | simp_all)

set_option maxRecDepth 10000 in
theorem c113f (s : List Span) (hs : s.length ≤ 1000000) : Fn PR 113 [.nn (s.map Span.d)] [] [.d (setD s)] [] := by
 refine fn_of_awp Tryz.func113 rfl (N := 8) rfl ?_
 refine xsr ?_
 refine las rfl rfl rfl rfl rfl ?_
 refine lendF ?_
 refine awp_seq ?_
 refine xsr ?_
 refine lmv rfl rfl rfl rfl rfl ?_
 refine xlz (op_nilS rfl (.inl rfl) rfl rfl rfl rfl ty49 rfl) ?_
 refine lendF ?_
 refine awp_condF rfl rfl rfl ?_
 refine awp_skip ?_
 refine xsr ?_
 refine xlz (o_bs rfl rfl rfl rfl rfl ty49 ty78 rfl rfl) ?_
 refine lmv rfl rfl rfl rfl rfl ?_
 refine xlz (o_app rfl rfl (by decide) rfl rfl rfl ty49 ty78 rfl (by decide) rfl (by simp) (by intro d hd; obtain ⟨x, _, rfl⟩ := List.mem_map.1 hd; rfl) (by simp; omega) (by decide) rfl) ?_
 refine las rfl rfl rfl rfl rfl ?_
 refine lendF ?_
 refine awp_ret ?_
 refine ⟨[_], ⟨rfl, trivial⟩, ?_⟩
 exact ent_d1 rfl (by first | rfl | simp_all)
theorem c113 (s : List Span) (hs : s.length ≤ 1000000) : Fn PR 113 [.d (setD s)] [] [.d (setD s)] [] := fn_nil (fun h => by have : s = [] := List.map_eq_nil_iff.1 h; subst this; exact c113n) (c113f s hs)

set_option maxRecDepth 10000 in
theorem c157 (a b : List Span) (ha : a.length ≤ 1000000) (hb : b.length ≤ 1000000) : Fn PR 157 [.d (setD a), .d (setD b)] [] [.d (.bool (eqSet a b))] [] := by
 refine fn_of_awp Tryz.func157 rfl (N := 26) rfl ?_
 refine xsr ?_
 refine las rfl rfl rfl rfl rfl ?_
 refine lendF ?_
 refine awp_seq ?_
 refine xsr ?_
 refine lmv rfl rfl rfl rfl rfl ?_
 refine xlz (o_lenE (n := a.length) rfl rfl rfl ty49 (by simp)) ?_
 refine lmv rfl rfl rfl rfl rfl ?_
 refine xlz (o_lenE (n := b.length) rfl rfl rfl ty49 (by simp)) ?_
 refine xlz (op_binI rfl rfl rfl rfl rfl (.inl rfl) rfl) ?_
 refine lendF ?_
 refine awp_cond rfl rfl (fun hc1 => ?_) (fun hc1 => ?_)
 ·
  have hl : ¬ a.length = b.length := by have := hc1; simp at this; omega
  refine xsr ?_
  refine las rfl rfl rfl rfl rfl ?_
  refine lendF ?_
  refine awp_ret ?_
  refine ⟨[_], ⟨rfl, trivial⟩, ?_⟩
  exact ent_b rfl (by rw [eqSet_len hl])
 ·
  have hl : a.length = b.length := by have := hc1; simp at this; omega
  refine awp_skip ?_
  refine awp_seq ?_
  refine xsr ?_
  refine lmv rfl rfl rfl rfl rfl ?_
  refine xlz (o_lenE (n := a.length) rfl rfl rfl ty49 (by simp)) ?_
  refine lmv rfl rfl rfl rfl rfl ?_
  refine lendF ?_
  refine awp_block ?_
  refine awp_loop (fun i => ⟨26, [(13, .d (I (i : Nat))), (0, .d (setD a)), (1, .d (setD b)), (12, .d (I a.length))], []⟩) (fun i => a.length - i) (fun i => i ≤ a.length ∧ eqSet (a.drop i) (b.drop i) = eqSet a b) 0 ?_ ?_ ?_
  ·
   exact ent_k [] rfl rfl ((by repeat (first | exact .nil | refine xkc ?_))) obs_nil rfl
  ·
   exact ⟨Nat.zero_le _, rfl⟩
  ·
   rintro i ⟨hi, hI⟩
   refine xsr ?_
   refine xlz (op_binI rfl rfl rfl rfl rfl (.inl rfl) rfl) ?_
   refine lendF ?_
   refine awp_seq ?_
   refine awp_cond rfl rfl (fun hc2 => ?_) (fun hc2 => ?_)
   ·
    obtain ⟨x, hn⟩ := rng_lt (l := a) (by simpa using hc2)
    have hlt := rng_le hn
    obtain ⟨y, hy⟩ : ∃ y, b[i]? = some y := ⟨_, List.getElem?_eq_getElem (by omega)⟩
    refine awp_skip ?_
    refine awp_seq ?_
    refine awp_block ?_
    refine xsr ?_
    refine lmv rfl rfl rfl rfl rfl ?_
    refine las rfl rfl rfl rfl rfl ?_
    refine lendF ?_
    refine xsr ?_
    iterate 2 refine lmv rfl rfl rfl rfl rfl ?_
    refine xlz (o_ixN (i) rfl rfl rfl rfl ty49 (by first | rfl | omega | (simp; done) | (simp; omega)) hn ty78) ?_
    refine xlz (op_loadCA rfl rfl rfl ty78 rfl (xlb rfl)) ?_
    iterate 2 refine lmv rfl rfl rfl rfl rfl ?_
    refine xlz (o_ixN (i) rfl rfl rfl rfl ty49 (by first | rfl | omega | (simp; done) | (simp; omega)) hy ty78) ?_
    refine xlz (op_loadCA rfl rfl rfl ty78 rfl (xlb rfl)) ?_
    refine xlz (op_eqlA rfl (.inr rfl) rfl rfl rfl rfl ty78 es78 rfl rfl eg78) ?_
    refine lend (fun _ => by kernel_rfl) ?_
    refine awp_cond rfl rfl (fun hc3 => ?_) (fun hc3 => ?_)
    ·
     have hne : ¬ x = y := by have := hc3; rw [eqT_span] at this; simpa using this
     refine xsr ?_
     refine las rfl rfl rfl rfl rfl ?_
     refine lendF ?_
     refine awp_ret ?_
     refine ⟨[_], ⟨rfl, trivial⟩, ?_⟩
     exact ent_b rfl (by rw [← hI, drop_cons hn, drop_cons hy, eqSet_no hne])
    ·
     have hxy : x = y := by have := hc3; rw [eqT_span] at this; simpa using this
     refine awp_skip ?_
     refine awp_region mixed ?_
     refine xlz (o_add rfl rfl rfl rfl (by first | omega | (simp; omega) | (simp at *; omega))) ?_
     refine lmv rfl rfl rfl rfl rfl ?_
     refine lendF ?_
     refine ⟨i + 1, ?_, ?_, ?_⟩
     ·
      exact ⟨rng_le hn, by rw [← hI, drop_cons hn, drop_cons hy]; exact (eqSet_yes hxy).symm⟩
     ·
      exact ent_k [] rfl rfl ((by repeat (first | exact .nil | refine xkc ?_))) obs_nil rfl
     ·
      omega
   ·
    obtain rfl := rng_ge (l := a) (by simpa using hc2) hi
    refine awp_exit ?_
    refine xsr ?_
    refine las rfl rfl rfl rfl rfl ?_
    refine lendF ?_
    refine awp_ret ?_
    refine ⟨[_], ⟨rfl, trivial⟩, ?_⟩
    exact ent_b rfl (by rw [← hI, List.drop_length, List.drop_of_length_le (by omega)]; simp [eqSet])

set_option maxRecDepth 10000 in
theorem c118 (l : List SpB) (h : l.length ≤ 1000000) : Fn PR 118 [.arr 1000000 2 0 (l.map SpB.d).length, .fn (.func 119) [] []] [(1000000, .arr 2 (l.map SpB.d))] [] [(1000000, .arr 2 ((pdB l).map SpB.d))] := by
 refine fn_of_awp Tryz.func118 rfl (N := 14) rfl ?_
 refine xsr ?_
 refine lmv rfl rfl rfl rfl rfl ?_
 refine xlz (o_eqI (op_lenR rfl rfl rfl ty49) (m' := l.length) (by simp)) ?_
 refine las rfl rfl rfl rfl rfl ?_
 refine lendF ?_
 refine awp_region mixed ?_
 iterate 3 refine lmv rfl rfl rfl rfl rfl ?_
 refine xlz (o_eqI (op_convI rfl rfl rfl ty3 ty156) (m' := (l.length : Nat)) (wrapU64 (by omega) (by omega))) ?_
 refine xlz (o_call (c117 l.length (by omega)) rfl rfl rfl ca117 rfl rfl) ?_
 refine lmv rfl rfl rfl rfl rfl ?_
 refine xlz (o_callW [1000000] 13 (c148 l (by omega)) rfl rfl rfl ca148 rfl (by decide) (handOK_cons (by decide) (by decide) rfl rfl handOK_nil) rfl rfl rfl rfl) ?_
 refine lendF ?_
 refine ⟨[], trivial, ?_⟩
 exact ent_k [] rfl rfl .nil (obs_cons rfl (o_eq rfl) obs_nil) rfl

end Go.Pm

namespace Go.Pm
open Go.Proofs

set_option maxRecDepth 100000 in
theorem c86 (s : List Span) (hs : s.length ≤ 1000000) : Fn PR 86 [.d (setD s)] [] [.d (setD (canonS s))] [] := by
 refine fn_of_awp Tryz.func86 rfl (N := 79) rfl ?_
 refine xsr ?_
 refine las rfl rfl rfl rfl rfl ?_
 refine lendF ?_
 refine xsr ?_
 refine las rfl rfl rfl rfl rfl ?_
 refine lendF ?_
 refine awp_seq ?_
 refine xsr ?_
 refine lmv rfl rfl rfl rfl rfl ?_
 refine xlz (o_lenE (n := s.length) rfl rfl rfl ty49 (by simp)) ?_
 refine lmv rfl rfl rfl rfl rfl ?_
 refine lendF ?_
 refine awp_block ?_
 refine awp_ent (ent_arr0 3 500030 2 rfl rfl (by decide)) ?_
 refine awp_loop (fun x => ⟨79, [(3, .arr 500030 2 0 (x.2.map SpB.d).length), (11, .d (I (x.1 : Nat))), (9, .d (setD s)), (10, .d (I s.length))], [(500030, .arr 2 (x.2.map SpB.d))]⟩) (fun x => s.length - x.1) (fun x => x.1 ≤ s.length ∧ x.2.length ≤ x.1 ∧ x.2 ++ selB (s.drop x.1) = selB s) (0, []) ?_ ?_ ?_
 ·
  exact ent_k [] rfl rfl ((by repeat (first | exact .nil | refine xkc ?_))) (obs_cons rfl (o_eq rfl) obs_nil) rfl
 ·
  exact ⟨Nat.zero_le _, Nat.le_refl _, rfl⟩
 ·
  rintro ⟨i, acc⟩ ⟨hi, hl, hI⟩
  dsimp only at hi hl hI ⊢
  refine xsr ?_
  refine xlz (op_binI rfl rfl rfl rfl rfl (.inl rfl) rfl) ?_
  refine lendF ?_
  refine awp_seq ?_
  refine awp_cond rfl rfl (fun hc1 => ?_) (fun hc1 => ?_)
  ·
   obtain ⟨x, hn⟩ := rng_lt (l := s) (by simpa using hc1)
   have hlt := rng_le hn
   have hmem := List.mem_of_getElem? hn
   refine awp_skip ?_
   refine awp_seq ?_
   refine awp_block ?_
   refine xsr ?_
   refine xlz (o_ixN (i) rfl rfl rfl rfl ty49 (by first | rfl | omega | (simp; done) | (simp; omega)) hn ty78) ?_
   refine xlz (op_loadCA rfl rfl rfl ty78 rfl (xlb rfl)) ?_
   refine xlz (op_alloc rfl rfl (by decide) ty78 zk78 rfl) ?_
   refine xlz (op_store rfl rfl rfl rfl rfl rfl ty78 rfl (xlb rfl)) ?_
   refine lendF ?_
   refine xsr ?_
   refine xlz (op_fieldP rfl rfl rfl fl78_0) ?_
   refine xlz (op_load1 rfl rfl rfl rfl ty3 rfl rfl) ?_
   refine xlz (o_eqI (op_max rfl rfl rfl rfl rfl) (m' := (clampS x).lo) (by unfold clampS; dsimp only; split <;> split <;> omega)) ?_
   refine xlz (op_fieldP rfl rfl rfl fl78_1) ?_
   refine xlz (op_load1 rfl rfl rfl rfl ty3 rfl rfl) ?_
   refine xlz (o_eqI (op_min rfl rfl rfl rfl rfl) (m' := (clampS x).hi) (by unfold clampS; dsimp only; split <;> split <;> omega)) ?_
   refine xlz (o_bld rfl rfl rfl bl78 ty78 zk78 rfl rfl rfl) ?_
   refine xlz (op_store rfl rfl rfl rfl rfl rfl ty78 rfl (xlb rfl)) ?_
   refine lendF ?_
   refine xsr ?_
   refine xlz (op_fieldP rfl rfl rfl fl78_0) ?_
   refine xlz (op_load1 rfl rfl rfl rfl ty3 rfl rfl) ?_
   refine xlz (op_fieldP rfl rfl rfl fl78_1) ?_
   refine xlz (op_load1 rfl rfl rfl rfl ty3 rfl rfl) ?_
   refine xlz (op_binI rfl rfl rfl rfl rfl (.inl rfl) rfl) ?_
   refine lendF ?_
   refine awp_cond rfl rfl (fun hc2 => ?_) (fun hc2 => ?_)
   ·
    have hlt : (clampS x).lo < (clampS x).hi := by simpa using hc2
    refine awp_region mixed ?_
    refine lmv rfl rfl rfl rfl rfl ?_
    refine xlz (o_ldA rfl rfl rfl rfl ty78 rfl (xlb rfl) rfl) ?_
    refine xlz (o_bs rfl rfl rfl rfl rfl ty49 ty78 rfl rfl) ?_
    refine xlz (op_appendR rfl rfl (by decide) (.inr ⟨_, rfl, rfl, rfl⟩) rfl rfl rfl ty49 ty78 rfl (by decide) (by simp [D.cells]) (by simp) (by simp; omega) (by simp; omega)) ?_
    refine las rfl rfl rfl rfl rfl ?_
    refine lendF ?_
    refine awp_region mixed ?_
    refine xlz (o_add rfl rfl rfl rfl (by first | omega | (simp; omega) | (simp at *; omega))) ?_
    refine lmv rfl rfl rfl rfl rfl ?_
    refine lendF ?_
    refine ⟨(i + 1, acc ++ [⟨(clampS x).lo, (clampS x).hi, clamp_lo x, by have := clamp_hi x; omega⟩]), ?_, ?_, ?_⟩
    ·
     exact ⟨rng_le hn, by simp; omega, by rw [← hI, drop_cons hn, selB_yes hlt]; simp⟩
    ·
     exact ent_k [(500030, 30)] rfl rfl (.cons rfl (k_arr rfl (by simp)) <| .cons rfl (k_i (by simp)) <| by repeat (first | exact .nil | refine .cons rfl (by first | exact k_eq rfl | exact .data rfl) ?_)) (obs_cons rfl (ko_arr (by simp; rfl)) obs_nil) rfl
    ·
     show s.length - (i + 1) < s.length - i; have := rng_le hn; omega
   ·
    have hlt : ¬ (clampS x).lo < (clampS x).hi := by simpa using hc2
    refine awp_skip ?_
    refine awp_region mixed ?_
    refine xlz (o_add rfl rfl rfl rfl (by first | omega | (simp; omega) | (simp at *; omega))) ?_
    refine lmv rfl rfl rfl rfl rfl ?_
    refine lendF ?_
    refine ⟨(i + 1, acc), ?_, ?_, ?_⟩
    ·
     exact ⟨rng_le hn, by show acc.length ≤ i + 1; omega, by show acc ++ selB (s.drop (i + 1)) = _; rw [← hI, drop_cons hn, selB_no hlt]⟩
    ·
     exact ent_k [] rfl rfl (.cons rfl (k_eq rfl) <| .cons rfl (k_i (by simp)) <| by repeat (first | exact .nil | refine .cons rfl (by first | exact k_eq rfl | exact .data rfl) ?_)) (obs_cons rfl (o_eq rfl) obs_nil) rfl
    ·
     show s.length - (i + 1) < s.length - i; have := rng_le hn; omega
  ·
   obtain rfl := rng_ge (l := s) (by simpa using hc1) hi
   refine awp_exit ?_
   refine awp_seq ?_
   have hsel : acc = selB s := by rw [← hI, List.drop_length]; simp [selB]
   refine awp_region mixed ?_
   refine lmv rfl rfl rfl rfl rfl ?_
   refine xlz (o_callW [500030] 33 (c118 acc (by omega)) rfl rfl rfl ca118 rfl (by decide) (handOK_cons (by decide) (by decide) rfl rfl handOK_nil) rfl rfl rfl rfl) ?_
   refine lendF ?_
   refine xsr ?_
   refine las rfl rfl rfl rfl rfl ?_
   refine lendF ?_
   refine awp_seq ?_
   refine xsr ?_
   refine lmv rfl rfl rfl rfl rfl ?_
   refine xlz (o_eqI (op_lenR rfl rfl rfl ty49) (m' := acc.length) (by simp)) ?_
   refine lmv rfl rfl rfl rfl rfl ?_
   refine lendF ?_
   refine awp_block ?_
   refine awp_loop (fun x => ⟨79, [(6, .d (I (x.2.length : Nat))), (36, .d (I (x.1 : Nat))), (3, .arr 500030 2 0 (acc.map SpB.d).length), (34, .arr 500030 2 0 (acc.map SpB.d).length), (35, .d (I acc.length))], [(500030, .arr 2 (x.2.map Span.d ++ ((pdB acc).drop x.2.length).map SpB.d))]⟩) (fun x => acc.length - x.1) (fun x => x.1 ≤ acc.length ∧ x.2.length ≤ x.1 ∧ (0 < x.1 → 0 < x.2.length) ∧ (((pdB acc).drop x.1).map spB).foldl mstep x.2 = canonS s) (0, []) ?_ ?_ ?_
   ·
    exact ent_k [] rfl rfl ((by repeat (first | exact .nil | refine xkc ?_))) (obs_cons rfl (o_eq rfl) obs_nil) rfl
   ·
    exact ⟨Nat.zero_le _, Nat.le_refl _, fun h => absurd h (Nat.lt_irrefl _), by rw [← canonP_eq, ← hsel]; rfl⟩
   ·
    rintro ⟨j, out⟩ ⟨hj, ho, hp, hJ⟩
    dsimp only at hj ho hp hJ ⊢
    refine xsr ?_
    refine xlz (op_binI rfl rfl rfl rfl rfl (.inl rfl) rfl) ?_
    refine lendF ?_
    refine awp_seq ?_
    refine awp_cond rfl rfl (fun hc3 => ?_) (fun hc3 => ?_)
    ·
     have hlt : j < acc.length := by simpa using hc3
     obtain ⟨x, hn⟩ : ∃ x, (pdB acc)[j]? = some x := ⟨_, List.getElem?_eq_getElem (by rw [pdB_len]; exact hlt)⟩
     have hel := arr_get ho hn
     obtain ⟨u, hk⟩ : ∃ u, (pdB acc)[out.length]? = some u := ⟨_, List.getElem?_eq_getElem (by rw [pdB_len]; omega)⟩
     have hkm := arr_get (Nat.le_refl _) hk
     refine awp_skip ?_
     refine awp_seq ?_
     refine awp_block ?_
     refine xsr ?_
     refine lmv rfl rfl rfl rfl rfl ?_
     refine xlz (o_ixR' (j) rfl rfl rfl rfl ty49 ty78 (by first | rfl | omega | (simp; done) | (simp; omega)) (by simpa using hlt) (Nat.zero_add _).symm) ?_
     refine xlz (op_loadEA rfl rfl rfl rfl hel ty78 rfl rfl) ?_
     refine xlz (op_alloc rfl rfl (by decide) ty78 zk78 rfl) ?_
     refine las rfl rfl rfl rfl rfl ?_
     refine xlz (op_store rfl rfl rfl rfl rfl rfl ty78 rfl (xlb rfl)) ?_
     refine lendF ?_
     refine awp_seq ?_
     refine xsr ?_
     refine lmv rfl rfl rfl rfl rfl ?_
     refine xlz (op_binI rfl rfl rfl rfl rfl (.inl rfl) rfl) ?_
     refine lmv rfl rfl rfl rfl rfl ?_
     refine lsplit rfl (fun hg4 => ?_) (fun hg4 => ?_)
     ·
      have ho0 : 0 < out.length := hp (by have := (g11 hg4); simp at this; omega)
      obtain ⟨z, hz⟩ := last_get (l := out) ho0
      have hzm := arr_last (q := pdB acc) hz
      refine lg (op_fieldP rfl rfl rfl fl78_0) rfl hg4 rfl rfl ?_
      refine lg (op_load1 rfl rfl rfl rfl ty3 rfl rfl) rfl hg4 rfl rfl ?_
      iterate 2 refine gmv hg4 rfl rfl rfl rfl rfl ?_
      refine lg (o_sub rfl rfl rfl rfl (by first | omega | (simp; omega) | (simp at *; omega))) rfl hg4 rfl rfl ?_
      refine lg (o_ixR' ((out.length - 1)) rfl rfl rfl rfl ty49 ty78 (by first | rfl | omega | (simp; done) | (simp; omega)) (by simp; omega) (Nat.zero_add _).symm) rfl hg4 rfl rfl ?_
      refine lg (op_fieldE rfl rfl rfl fl78_1) rfl hg4 rfl rfl ?_
      refine lg (op_loadE1 rfl rfl rfl rfl hzm ty3 rfl rfl) rfl hg4 rfl rfl ?_
      refine lg (op_binI rfl rfl rfl rfl rfl (.inl rfl) rfl) rfl hg4 rfl rfl ?_
      refine xlz (o_pT rfl rfl (g11 hg4) rfl rfl) ?_
      refine lend (fun _ => by kernel_rfl) ?_
      refine awp_cond rfl rfl (fun hc5 => ?_) (fun hc5 => ?_)
      ·
       have hle : (spB x).lo ≤ z.hi := by simpa [spB] using hc5
       refine xsr ?_
       iterate 2 refine lmv rfl rfl rfl rfl rfl ?_
       refine xlz (o_sub rfl rfl rfl rfl (by first | omega | (simp; omega) | (simp at *; omega))) ?_
       iterate 2 refine lmv rfl rfl rfl rfl rfl ?_
       refine xlz (o_sub rfl rfl rfl rfl (by first | omega | (simp; omega) | (simp at *; omega))) ?_
       refine xlz (o_ixR' ((out.length - 1)) rfl rfl rfl rfl ty49 ty78 (by first | rfl | omega | (simp; done) | (simp; omega)) (by simp; omega) (Nat.zero_add _).symm) ?_
       refine xlz (op_fieldE rfl rfl rfl fl78_1) ?_
       refine xlz (op_loadE1 rfl rfl rfl rfl hzm ty3 rfl rfl) ?_
       refine xlz (op_fieldP rfl rfl rfl fl78_1) ?_
       refine xlz (op_load1 rfl rfl rfl rfl ty3 rfl rfl) ?_
       refine xlz (op_max rfl rfl rfl rfl rfl) ?_
       refine xlz (o_ixR' ((out.length - 1)) rfl rfl rfl rfl ty49 ty78 (by first | rfl | omega | (simp; done) | (simp; omega)) (by simp; omega) (Nat.zero_add _).symm) ?_
       refine xlz (op_fieldE rfl rfl rfl fl78_1) ?_
       refine xlz (op_storeE rfl rfl rfl rfl hzm rfl rfl rfl ty3 rfl rfl rfl) ?_
       refine lend (fun _ => by kernel_rfl) ?_
       refine awp_exit ?_
       refine awp_region mixed ?_
       refine xlz (o_add rfl rfl rfl rfl (by first | omega | (simp; omega) | (simp at *; omega))) ?_
       refine lmv rfl rfl rfl rfl rfl ?_
       refine lendF ?_
       refine ⟨(j + 1, out.set (out.length - 1) ⟨z.lo, if x.hi > z.hi then x.hi else z.hi⟩), ?_, ?_, ?_⟩
       ·
        exact ⟨hlt, by show (out.set (out.length - 1) _).length ≤ j + 1; simp; omega, fun _ => by simpa using ho0, by show (((pdB acc).drop (j + 1)).map spB).foldl mstep (out.set (out.length - 1) ⟨z.lo, _⟩) = _; rw [← hJ, drop_cons hn, List.map_cons, List.foldl_cons, mstep_in hz hle]; rfl⟩
       ·
        exact ent_k [] rfl rfl (.cons rfl (k_i (by simp)) <| .cons rfl (k_i (by simp)) <| (by repeat (first | exact .nil | refine xkc ?_))) (obs_cons rfl (ko_arr (arr_in hz _)) obs_nil) rfl
       ·
        show acc.length - (j + 1) < acc.length - j; omega
      ·
       have hout : mstep out (spB x) = out ++ [spB x] := mstep_out hz (by simpa [spB] using hc5)
       refine awp_skip ?_
       refine xsr ?_
       iterate 2 refine lmv rfl rfl rfl rfl rfl ?_
       refine xlz (o_ldA rfl rfl rfl rfl ty78 rfl (xlb rfl) rfl) ?_
       refine xlz (o_ixR' (out.length) rfl rfl rfl rfl ty49 ty78 (by first | rfl | omega | (simp; done) | (simp; omega)) (by simp; omega) (Nat.zero_add _).symm) ?_
       refine xlz (op_storeE rfl rfl rfl rfl hkm rfl rfl rfl ty78 rfl rfl rfl) ?_
       refine lendF ?_
       refine awp_region mixed ?_
       refine lmv rfl rfl rfl rfl rfl ?_
       refine xlz (o_add rfl rfl rfl rfl (by first | omega | (simp; omega) | (simp at *; omega))) ?_
       refine las rfl rfl rfl rfl rfl ?_
       refine lendF ?_
       refine awp_region mixed ?_
       refine xlz (o_add rfl rfl rfl rfl (by first | omega | (simp; omega) | (simp at *; omega))) ?_
       refine lmv rfl rfl rfl rfl rfl ?_
       refine lendF ?_
       refine ⟨(j + 1, out ++ [spB x]), ?_, ?_, ?_⟩
       ·
        exact ⟨hlt, by show (out ++ [spB x]).length ≤ j + 1; simp; omega, fun _ => by simp, by show (((pdB acc).drop (j + 1)).map spB).foldl mstep (out ++ [spB x]) = _; rw [← hJ, drop_cons hn, List.map_cons, List.foldl_cons, hout]⟩
       ·
        exact ent_k [] rfl rfl (.cons rfl (k_i (by simp)) <| .cons rfl (k_i (by simp)) <| (by repeat (first | exact .nil | refine xkc ?_))) (obs_cons rfl (ko_arr (arr_out hk x)) obs_nil) rfl
       ·
        show acc.length - (j + 1) < acc.length - j; omega
     ·
      have hout : mstep out (spB x) = out ++ [spB x] := mstep_nil (by have := (g10 hg4); simp at this; omega)
      iterate 9 refine lskip rfl hg4 rfl ?_
      refine xlz (o_pF rfl rfl (g10 hg4) rfl rfl) ?_
      refine lend (fun _ => by kernel_rfl) ?_
      refine awp_condF rfl rfl rfl ?_
      refine awp_skip ?_
      refine xsr ?_
      iterate 2 refine lmv rfl rfl rfl rfl rfl ?_
      refine xlz (o_ldA rfl rfl rfl rfl ty78 rfl (xlb rfl) rfl) ?_
      refine xlz (o_ixR' (out.length) rfl rfl rfl rfl ty49 ty78 (by first | rfl | omega | (simp; done) | (simp; omega)) (by simp; omega) (Nat.zero_add _).symm) ?_
      refine xlz (op_storeE rfl rfl rfl rfl hkm rfl rfl rfl ty78 rfl rfl rfl) ?_
      refine lendF ?_
      refine awp_region mixed ?_
      refine lmv rfl rfl rfl rfl rfl ?_
      refine xlz (o_add rfl rfl rfl rfl (by first | omega | (simp; omega) | (simp at *; omega))) ?_
      refine las rfl rfl rfl rfl rfl ?_
      refine lendF ?_
      refine awp_region mixed ?_
      refine xlz (o_add rfl rfl rfl rfl (by first | omega | (simp; omega) | (simp at *; omega))) ?_
      refine lmv rfl rfl rfl rfl rfl ?_
      refine lendF ?_
      refine ⟨(j + 1, out ++ [spB x]), ?_, ?_, ?_⟩
      ·
       exact ⟨hlt, by show (out ++ [spB x]).length ≤ j + 1; simp; omega, fun _ => by simp, by show (((pdB acc).drop (j + 1)).map spB).foldl mstep (out ++ [spB x]) = _; rw [← hJ, drop_cons hn, List.map_cons, List.foldl_cons, hout]⟩
      ·
       exact ent_k [] rfl rfl (.cons rfl (k_i (by simp)) <| .cons rfl (k_i (by simp)) <| (by repeat (first | exact .nil | refine xkc ?_))) (obs_cons rfl (ko_arr (arr_out hk x)) obs_nil) rfl
      ·
       show acc.length - (j + 1) < acc.length - j; omega
    ·
     have hje : j = acc.length := by have := hc3; simp at this; omega
     rw [List.drop_of_length_le (by rw [pdB_len]; omega)] at hJ
     have hJ2 : out = canonS s := hJ
     refine awp_exit ?_
     refine xsr ?_
     iterate 3 refine lmv rfl rfl rfl rfl rfl ?_
     refine xlz (o_sl3R rfl rfl rfl ty49 ty78 .none (.some rfl rfl (n := out.length) (by first | rfl | omega | (simp; done) | (simp; omega))) (.some rfl rfl (n := out.length) (by first | rfl | omega | (simp; done) | (simp; omega))) (.inr rfl) (by simp; omega)) ?_
     refine las rfl rfl rfl rfl rfl ?_
     refine lendF ?_
     refine awp_ret ?_
     refine ⟨[_], ⟨rfl, trivial⟩, ?_⟩
     exact ent_fz1 (ds := (out.map Span.d ++ ((pdB acc).drop out.length).map SpB.d)) rfl (by simp) (by rw [← hJ2]; rw [show 0 + 0 = 0 from rfl, List.drop_zero, Nat.sub_zero, List.take_left' (by simp)])

end Go.Pm

namespace Go.Pm
open Go.Proofs

set_option maxRecDepth 10000 in
theorem c134n (q : Req) (hq : q.Sm) : Fn PR 134 [.d q.d, .d .nilp] [] [.d (I (reqE q none))] [] := by
 refine fn_of_awp Tryz.func134 rfl (N := 43) rfl ?_
 refine xsr ?_
 refine xlz (op_box rfl rfl (by decide) rfl rfl) ?_
 refine las rfl rfl rfl rfl rfl ?_
 refine lendF ?_
 refine awp_seq ?_
 refine xsr ?_
 refine xlz (op_fieldP rfl rfl rfl fl51_0) ?_
 refine xlz (op_load1 rfl rfl rfl rfl ty9 rfl rfl) ?_
 refine xlz (o_call (c65 q.path hq.path) rfl rfl rfl ca65 rfl rfl) ?_
 refine lmv rfl rfl rfl rfl rfl ?_
 refine xlz (op_extract rfl rfl rfl rfl) ?_
 refine xlz (op_extract rfl rfl rfl rfl) ?_
 refine xlz (op_extract rfl rfl rfl rfl) ?_
 iterate 3 refine las rfl rfl rfl rfl rfl ?_
 refine lendF ?_
 refine xsr ?_
 refine lmv rfl rfl rfl rfl rfl ?_
 refine xlz (op_binI rfl rfl rfl rfl rfl (.inl rfl) rfl) ?_
 refine lendF ?_
 refine awp_cond rfl rfl (fun hc1 => ?_) (fun hc1 => ?_)
 ·
  have hp : isPath q.path = false := by (have h := hc1); split at h; (simp at h); (rename_i h2; simpa using h2)
  have hmj := majN_no hp
  refine xsr ?_
  refine las rfl rfl rfl rfl rfl ?_
  refine lendF ?_
  refine awp_ret ?_
  refine ⟨[_], ⟨rfl, trivial⟩, ?_⟩
  first | exact ent_i rfl (reqE_1 hmj).symm | exact ent_i rfl (reqE_2 hmj hcs).symm | exact ent_i rfl (reqE_3 hmj hcs hod).symm | exact ent_i rfl (reqE_0 hmj hcs (by first | exact hod | rfl)).symm
 ·
  have hp : isPath q.path = true := by (have h := hc1); split at h; (assumption); (simp at h)
  have hmj := majN_yes hp
  have hme := majN_eq hp
  refine awp_skip ?_
  refine awp_seq ?_
  refine xsr ?_
  refine xlz (op_fieldP rfl rfl rfl fl51_1) ?_
  refine xlz (op_load1 rfl rfl rfl rfl ty49 rfl rfl) ?_
  refine xlz (o_lenE (n := q.set.length) rfl rfl rfl ty49 (by simp)) ?_
  refine xlz (op_binI rfl rfl rfl rfl rfl (.inl rfl) rfl) ?_
  refine lmv rfl rfl rfl rfl rfl ?_
  refine lsplit rfl (fun hg2 => ?_) (fun hg2 => ?_)
  ·
   have hs0 : ¬ q.set.length = 0 := by have := (g01 hg2); simp at this; simp [this]
   refine lg (op_fieldP rfl rfl rfl fl51_1) rfl hg2 rfl rfl ?_
   refine lg (op_load1 rfl rfl rfl rfl ty49 rfl rfl) rfl hg2 rfl rfl ?_
   refine lg (op_fieldP rfl rfl rfl fl51_1) rfl hg2 rfl rfl ?_
   refine lg (op_load1 rfl rfl rfl rfl ty49 rfl rfl) rfl hg2 rfl rfl ?_
   refine lg (o_call (c86 q.set hq.set) rfl rfl rfl ca86 rfl rfl) rfl hg2 rfl rfl ?_
   refine lg (o_call (c157 q.set (canonS q.set) hq.set (by have := canonS_len q.set; have := hq.set; omega)) rfl rfl rfl ca157 rfl rfl) rfl hg2 rfl rfl ?_
   refine lg (op_not rfl rfl rfl) rfl hg2 rfl rfl ?_
   refine xlz (o_pF rfl rfl (g01 hg2) rfl rfl) ?_
   refine lmv rfl rfl rfl rfl rfl ?_
   refine lsplit rfl (fun hg3 => ?_) (fun hg3 => ?_)
   ·
    have hcs : ¬ (q.set.length = 0 ∨ q.set ≠ canonS q.set) := by (have h := (g01 hg3)); simp [eqSet] at h; rintro (h1 | h1); (exact hs0 h1); (exact h1 h)
    refine gmv hg3 rfl rfl rfl rfl rfl ?_
    refine lg (op_nilP rfl (.inr rfl) rfl rfl rfl rfl ty168 rfl) rfl hg3 rfl rfl ?_
    refine gmv hg3 rfl rfl rfl rfl rfl ?_
    iterate 7 refine lskip rfl rfl rfl ?_
    refine lg (o_pF rfl rfl rfl rfl rfl) rfl hg3 rfl rfl ?_
    refine xlz (o_pF rfl rfl (g01 hg3) rfl rfl) ?_
    refine lend (fun _ => by kernel_rfl) ?_
    refine awp_condF rfl rfl rfl ?_
    refine awp_skip ?_
    refine xsr ?_
    refine las rfl rfl rfl rfl rfl ?_
    refine lendF ?_
    refine awp_ret ?_
    refine ⟨[_], ⟨rfl, trivial⟩, ?_⟩
    first | exact ent_i rfl (reqE_1 hmj).symm | exact ent_i rfl (reqE_2 hmj hcs).symm | exact ent_i rfl (reqE_3 hmj hcs hod).symm | exact ent_i rfl (reqE_0 hmj hcs (by first | exact hod | rfl)).symm
   ·
    have hcs : q.set.length = 0 ∨ q.set ≠ canonS q.set := .inr (by (have h := (g00 hg3)); simpa [eqSet] using h)
    iterate 3 refine lskip rfl hg3 rfl ?_
    iterate 7 refine lskip rfl rfl rfl ?_
    refine lskip rfl hg3 rfl ?_
    refine xlz (o_pT rfl rfl (g00 hg3) rfl rfl) ?_
    refine lend (fun _ => by kernel_rfl) ?_
    refine awp_condT rfl rfl rfl ?_
    refine xsr ?_
    refine las rfl rfl rfl rfl rfl ?_
    refine lendF ?_
    refine awp_ret ?_
    refine ⟨[_], ⟨rfl, trivial⟩, ?_⟩
    first | exact ent_i rfl (reqE_1 hmj).symm | exact ent_i rfl (reqE_2 hmj hcs).symm | exact ent_i rfl (reqE_3 hmj hcs hod).symm | exact ent_i rfl (reqE_0 hmj hcs (by first | exact hod | rfl)).symm
  ·
   have hcs : q.set.length = 0 ∨ q.set ≠ canonS q.set := .inl (by have := (g00 hg2); simp at this; simp [this])
   iterate 7 refine lskip rfl hg2 rfl ?_
   refine xlz (o_pT rfl rfl (g00 hg2) rfl rfl) ?_
   refine lmv rfl rfl rfl rfl rfl ?_
   iterate 11 refine lskip rfl rfl rfl ?_
   refine xlz (o_pT rfl rfl rfl rfl rfl) ?_
   refine lend (fun _ => by kernel_rfl) ?_
   refine awp_condT rfl rfl rfl ?_
   refine xsr ?_
   refine las rfl rfl rfl rfl rfl ?_
   refine lendF ?_
   refine awp_ret ?_
   refine ⟨[_], ⟨rfl, trivial⟩, ?_⟩
   first | exact ent_i rfl (reqE_1 hmj).symm | exact ent_i rfl (reqE_2 hmj hcs).symm | exact ent_i rfl (reqE_3 hmj hcs hod).symm | exact ent_i rfl (reqE_0 hmj hcs (by first | exact hod | rfl)).symm

set_option maxRecDepth 10000 in
theorem c134p (q y : Req) (hq : q.Sm) : Fn PR 134 [.d q.d, .cptr y.d.cells] [] [.d (I (reqE q (some y)))] [] := by
 refine fn_of_awp Tryz.func134 rfl (N := 43) rfl ?_
 refine xsr ?_
 refine xlz (op_box rfl rfl (by decide) rfl rfl) ?_
 refine las rfl rfl rfl rfl rfl ?_
 refine lendF ?_
 refine awp_seq ?_
 refine xsr ?_
 refine xlz (op_fieldP rfl rfl rfl fl51_0) ?_
 refine xlz (op_load1 rfl rfl rfl rfl ty9 rfl rfl) ?_
 refine xlz (o_call (c65 q.path hq.path) rfl rfl rfl ca65 rfl rfl) ?_
 refine lmv rfl rfl rfl rfl rfl ?_
 refine xlz (op_extract rfl rfl rfl rfl) ?_
 refine xlz (op_extract rfl rfl rfl rfl) ?_
 refine xlz (op_extract rfl rfl rfl rfl) ?_
 iterate 3 refine las rfl rfl rfl rfl rfl ?_
 refine lendF ?_
 refine xsr ?_
 refine lmv rfl rfl rfl rfl rfl ?_
 refine xlz (op_binI rfl rfl rfl rfl rfl (.inl rfl) rfl) ?_
 refine lendF ?_
 refine awp_cond rfl rfl (fun hc1 => ?_) (fun hc1 => ?_)
 ·
  have hp : isPath q.path = false := by (have h := hc1); split at h; (simp at h); (rename_i h2; simpa using h2)
  have hmj := majN_no hp
  refine xsr ?_
  refine las rfl rfl rfl rfl rfl ?_
  refine lendF ?_
  refine awp_ret ?_
  refine ⟨[_], ⟨rfl, trivial⟩, ?_⟩
  first | exact ent_i rfl (reqE_1 hmj).symm | exact ent_i rfl (reqE_2 hmj hcs).symm | exact ent_i rfl (reqE_3 hmj hcs hod).symm | exact ent_i rfl (reqE_0 hmj hcs (by first | exact hod | rfl)).symm
 ·
  have hp : isPath q.path = true := by (have h := hc1); split at h; (assumption); (simp at h)
  have hmj := majN_yes hp
  have hme := majN_eq hp
  refine awp_skip ?_
  refine awp_seq ?_
  refine xsr ?_
  refine xlz (op_fieldP rfl rfl rfl fl51_1) ?_
  refine xlz (op_load1 rfl rfl rfl rfl ty49 rfl rfl) ?_
  refine xlz (o_lenE (n := q.set.length) rfl rfl rfl ty49 (by simp)) ?_
  refine xlz (op_binI rfl rfl rfl rfl rfl (.inl rfl) rfl) ?_
  refine lmv rfl rfl rfl rfl rfl ?_
  refine lsplit rfl (fun hg2 => ?_) (fun hg2 => ?_)
  ·
   have hs0 : ¬ q.set.length = 0 := by have := (g01 hg2); simp at this; simp [this]
   refine lg (op_fieldP rfl rfl rfl fl51_1) rfl hg2 rfl rfl ?_
   refine lg (op_load1 rfl rfl rfl rfl ty49 rfl rfl) rfl hg2 rfl rfl ?_
   refine lg (op_fieldP rfl rfl rfl fl51_1) rfl hg2 rfl rfl ?_
   refine lg (op_load1 rfl rfl rfl rfl ty49 rfl rfl) rfl hg2 rfl rfl ?_
   refine lg (o_call (c86 q.set hq.set) rfl rfl rfl ca86 rfl rfl) rfl hg2 rfl rfl ?_
   refine lg (o_call (c157 q.set (canonS q.set) hq.set (by have := canonS_len q.set; have := hq.set; omega)) rfl rfl rfl ca157 rfl rfl) rfl hg2 rfl rfl ?_
   refine lg (op_not rfl rfl rfl) rfl hg2 rfl rfl ?_
   refine xlz (o_pF rfl rfl (g01 hg2) rfl rfl) ?_
   refine lmv rfl rfl rfl rfl rfl ?_
   refine lsplit rfl (fun hg3 => ?_) (fun hg3 => ?_)
   ·
    have hcs : ¬ (q.set.length = 0 ∨ q.set ≠ canonS q.set) := by (have h := (g01 hg3)); simp [eqSet] at h; rintro (h1 | h1); (exact hs0 h1); (exact h1 h)
    refine gmv hg3 rfl rfl rfl rfl rfl ?_
    refine lg (op_nilP rfl (.inr rfl) rfl rfl rfl rfl ty168 rfl) rfl hg3 rfl rfl ?_
    refine gmv hg3 rfl rfl rfl rfl rfl ?_
    refine lg (op_fieldP rfl rfl rfl fl51_0) rfl rfl rfl rfl ?_
    refine lg (op_load1 rfl rfl rfl rfl ty9 rfl rfl) rfl rfl rfl rfl ?_
    refine gmv rfl rfl rfl rfl rfl rfl ?_
    refine lg (op_nilCheckP rfl rfl rfl rfl) rfl rfl rfl rfl ?_
    refine lg (op_fieldC rfl rfl rfl fl51_0) rfl rfl rfl rfl ?_
    refine lg (op_loadC1 rfl rfl rfl ty9 rfl rfl) rfl rfl rfl rfl ?_
    refine lg (op_binS rfl rfl rfl rfl rfl (fun h => by first | cases h | (simp; omega)) rfl) rfl rfl rfl rfl ?_
    refine lg (o_pT rfl rfl rfl rfl rfl) rfl hg3 rfl rfl ?_
    refine xlz (o_pF rfl rfl (g01 hg3) rfl rfl) ?_
    refine lend (fun _ => by kernel_rfl) ?_
    refine awp_cond rfl rfl (fun hc4 => ?_) (fun hc4 => ?_)
    ·
     have hod : ordE q (some y) = true := by (have h := hc4); rw [bytesLe_not] at h; simpa [ordE] using h
     refine xsr ?_
     refine las rfl rfl rfl rfl rfl ?_
     refine lendF ?_
     refine awp_ret ?_
     refine ⟨[_], ⟨rfl, trivial⟩, ?_⟩
     first | exact ent_i rfl (reqE_1 hmj).symm | exact ent_i rfl (reqE_2 hmj hcs).symm | exact ent_i rfl (reqE_3 hmj hcs hod).symm | exact ent_i rfl (reqE_0 hmj hcs (by first | exact hod | rfl)).symm
    ·
     have hod : ordE q (some y) = false := by (have h := hc4); rw [bytesLe_not] at h; simpa [ordE] using h
     refine awp_skip ?_
     refine xsr ?_
     refine las rfl rfl rfl rfl rfl ?_
     refine lendF ?_
     refine awp_ret ?_
     refine ⟨[_], ⟨rfl, trivial⟩, ?_⟩
     first | exact ent_i rfl (reqE_1 hmj).symm | exact ent_i rfl (reqE_2 hmj hcs).symm | exact ent_i rfl (reqE_3 hmj hcs hod).symm | exact ent_i rfl (reqE_0 hmj hcs (by first | exact hod | rfl)).symm
   ·
    have hcs : q.set.length = 0 ∨ q.set ≠ canonS q.set := .inr (by (have h := (g00 hg3)); simpa [eqSet] using h)
    iterate 3 refine lskip rfl hg3 rfl ?_
    iterate 7 refine lskip rfl rfl rfl ?_
    refine lskip rfl hg3 rfl ?_
    refine xlz (o_pT rfl rfl (g00 hg3) rfl rfl) ?_
    refine lend (fun _ => by kernel_rfl) ?_
    refine awp_condT rfl rfl rfl ?_
    refine xsr ?_
    refine las rfl rfl rfl rfl rfl ?_
    refine lendF ?_
    refine awp_ret ?_
    refine ⟨[_], ⟨rfl, trivial⟩, ?_⟩
    first | exact ent_i rfl (reqE_1 hmj).symm | exact ent_i rfl (reqE_2 hmj hcs).symm | exact ent_i rfl (reqE_3 hmj hcs hod).symm | exact ent_i rfl (reqE_0 hmj hcs (by first | exact hod | rfl)).symm
  ·
   have hcs : q.set.length = 0 ∨ q.set ≠ canonS q.set := .inl (by have := (g00 hg2); simp at this; simp [this])
   iterate 7 refine lskip rfl hg2 rfl ?_
   refine xlz (o_pT rfl rfl (g00 hg2) rfl rfl) ?_
   refine lmv rfl rfl rfl rfl rfl ?_
   iterate 11 refine lskip rfl rfl rfl ?_
   refine xlz (o_pT rfl rfl rfl rfl rfl) ?_
   refine lend (fun _ => by kernel_rfl) ?_
   refine awp_condT rfl rfl rfl ?_
   refine xsr ?_
   refine las rfl rfl rfl rfl rfl ?_
   refine lendF ?_
   refine awp_ret ?_
   refine ⟨[_], ⟨rfl, trivial⟩, ?_⟩
   first | exact ent_i rfl (reqE_1 hmj).symm | exact ent_i rfl (reqE_2 hmj hcs).symm | exact ent_i rfl (reqE_3 hmj hcs hod).symm | exact ent_i rfl (reqE_0 hmj hcs (by first | exact hod | rfl)).symm
theorem c134 (q : Req) (p : Option Req) (hq : q.Sm) : Fn PR 134 [.d q.d, befQ p] [] [.d (I (reqE q p))] [] := by cases p with | none => exact c134n q hq | some y => exact c134p q y hq

set_option maxRecDepth 10000 in
theorem c109 (l : List Req) (hl : l.length < 4611686018427387904) (hq : ∀ q ∈ l, q.Sm) : Fn PR 109 [.d (reqsD l)] [] [.d (I (checkReqs l))] [] := by
 refine fn_of_awp Tryz.func109 rfl (N := 27) rfl ?_
 refine xsr ?_
 refine las rfl rfl rfl rfl rfl ?_
 refine lendF ?_
 refine awp_seq ?_
 refine xsr ?_
 refine lmv rfl rfl rfl rfl rfl ?_
 refine xlz (o_lenE (n := l.length) rfl rfl rfl ty26 (by simp)) ?_
 refine xlz (op_binI rfl rfl rfl rfl rfl (.inl rfl) rfl) ?_
 refine lendF ?_
 refine awp_cond rfl rfl (fun hc1 => ?_) (fun hc1 => ?_)
 ·
  have h16 : l.length > 16 := by have := hc1; simp at this; omega
  refine xsr ?_
  refine las rfl rfl rfl rfl rfl ?_
  refine lendF ?_
  refine awp_ret ?_
  refine ⟨[_], ⟨rfl, trivial⟩, ?_⟩
  exact ent_i rfl (by rw [checkReqs, if_pos h16])
 ·
  have h16 : ¬ l.length > 16 := by have := hc1; simp at this; omega
  refine awp_skip ?_
  refine xsr ?_
  refine las rfl rfl rfl rfl rfl ?_
  refine lendF ?_
  refine awp_seq ?_
  refine xsr ?_
  refine lmv rfl rfl rfl rfl rfl ?_
  refine xlz (o_lenE (n := l.length) rfl rfl rfl ty26 (by simp)) ?_
  refine lmv rfl rfl rfl rfl rfl ?_
  refine lendF ?_
  refine awp_block ?_
  refine awp_loop (fun i => ⟨27, [(3, befQ (prevQ l i)), (12, .d (I (i : Nat))), (0, .d (reqsD l)), (10, .d (reqsD l)), (11, .d (I l.length))], []⟩) (fun i => l.length - i) (fun i => i ≤ l.length ∧ reqsE (prevQ l i) (l.drop i) = reqsE none l) 0 ?_ ?_ ?_
  ·
   exact ent_k [] rfl rfl (.cons rfl (k_eq rfl) <| (by repeat (first | exact .nil | refine xkc ?_))) obs_nil rfl
  ·
   exact ⟨Nat.zero_le _, rfl⟩
  ·
   rintro i ⟨hi, hI⟩
   refine xsr ?_
   refine xlz (op_binI rfl rfl rfl rfl rfl (.inl rfl) rfl) ?_
   refine lendF ?_
   refine awp_seq ?_
   refine awp_cond rfl rfl (fun hc2 => ?_) (fun hc2 => ?_)
   ·
    obtain ⟨x, hn⟩ := rng_lt (l := l) (by simpa using hc2)
    have hlt := rng_le hn
    have hmem := List.mem_of_getElem? hn
    refine awp_skip ?_
    refine awp_seq ?_
    refine awp_block ?_
    refine xsr ?_
    refine lmv rfl rfl rfl rfl rfl ?_
    refine xlz (o_ixN (i) rfl rfl rfl rfl ty26 (by first | rfl | omega | (simp; done) | (simp; omega)) hn ty51) ?_
    refine xlz (op_loadCA rfl rfl rfl ty51 rfl (xlb rfl)) ?_
    refine lx (op_alloc rfl rfl (by decide) ty51 zk51 rfl) rfl rfl (by cases prevQ l i <;> rfl) ?_
    refine las rfl rfl rfl rfl rfl ?_
    refine xlz (op_store rfl rfl rfl rfl rfl rfl ty51 rfl (xlb rfl)) ?_
    refine lendF ?_
    refine awp_seq ?_
    refine xsr ?_
    refine xlz (o_ldA rfl rfl rfl rfl ty51 rfl (xlb rfl) rfl) ?_
    refine lmv rfl rfl rfl rfl rfl ?_
    refine xlz (o_call (c134 x (prevQ l i) (hq x hmem)) rfl rfl rfl ca134 (by cases prevQ l i <;> rfl) rfl) ?_
    refine las rfl rfl rfl rfl rfl ?_
    refine lendF ?_
    refine xsr ?_
    refine lmv rfl rfl rfl rfl rfl ?_
    refine xlz (op_binI rfl rfl rfl rfl rfl (.inl rfl) rfl) ?_
    refine lendF ?_
    refine awp_cond rfl rfl (fun hc3 => ?_) (fun hc3 => ?_)
    ·
     have h0 : reqE x (prevQ l i) ≠ 0 := by simpa using hc3
     refine xsr ?_
     refine lmv rfl rfl rfl rfl rfl ?_
     refine las rfl rfl rfl rfl rfl ?_
     refine lendF ?_
     refine awp_ret ?_
     refine ⟨[_], ⟨rfl, trivial⟩, ?_⟩
     first | exact ent_i rfl (reqsE_stop hI h16 hn rfl h0) | exact ent_i rfl (reqsE_end hI h16)
    ·
     have h0 : reqE x (prevQ l i) = 0 := by simpa using hc3
     refine awp_skip ?_
     refine awp_region mixed ?_
     iterate 2 refine lmv rfl rfl rfl rfl rfl ?_
     refine xlz (o_ixN (i) rfl rfl rfl rfl ty26 (by first | rfl | omega | (simp; done) | (simp; omega)) hn ty51) ?_
     refine las rfl rfl rfl rfl rfl ?_
     refine lendF ?_
     refine awp_region mixed ?_
     refine xlz (o_add rfl rfl rfl rfl (by first | omega | (simp; omega) | (simp at *; omega))) ?_
     refine lmv rfl rfl rfl rfl rfl ?_
     refine lendF ?_
     refine ⟨i + 1, ?_, ?_, ?_⟩
     ·
      exact ⟨rng_le hn, reqsE_next hI hn h0⟩
     ·
      exact ent_k [] rfl rfl (.cons rfl (k_eq ((befQ_next hn).trans (befQ_ren _ _).symm)) <| (by repeat (first | exact .nil | refine xkc ?_))) obs_nil rfl
     ·
      omega
   ·
    obtain rfl := rng_ge (l := l) (by simpa using hc2) hi
    refine awp_exit ?_
    refine xsr ?_
    refine las rfl rfl rfl rfl rfl ?_
    refine lendF ?_
    refine awp_ret ?_
    refine ⟨[_], ⟨rfl, trivial⟩, ?_⟩
    first | exact ent_i rfl (reqsE_stop hI h16 hn rfl h0) | exact ent_i rfl (reqsE_end hI h16)

set_option maxRecDepth 10000 in
theorem c75 (r : Rls) (hr : r.Sm) : Fn PR 75 [.d r.d] [] [.d (I (relE r))] [] := by
 refine fn_of_awp Tryz.func75 rfl (N := 56) rfl ?_
 refine xsr ?_
 refine xlz (op_box rfl rfl (by decide) rfl rfl) ?_
 refine las rfl rfl rfl rfl rfl ?_
 refine lendF ?_
 refine xsr ?_
 refine xlz (op_fieldP rfl rfl rfl fl40_0) ?_
 refine xlz (op_load1 rfl rfl rfl rfl ty9 rfl rfl) ?_
 refine xlz (o_call (c65 r.path hr.path) rfl rfl rfl ca65 rfl rfl) ?_
 refine lmv rfl rfl rfl rfl rfl ?_
 refine xlz (op_extract rfl rfl rfl rfl) ?_
 refine xlz (op_extract rfl rfl rfl rfl) ?_
 refine xlz (op_extract rfl rfl rfl rfl) ?_
 iterate 3 refine las rfl rfl rfl rfl rfl ?_
 refine lendF ?_
 refine awp_seq ?_
 refine xsr ?_
 refine lmv rfl rfl rfl rfl rfl ?_
 refine xlz (op_binI rfl rfl rfl rfl rfl (.inl rfl) rfl) ?_
 refine lendF ?_
 refine awp_cond rfl rfl (fun hc1 => ?_) (fun hc1 => ?_)
 ·
  have hp : isPath r.path = false := by (have h := hc1); split at h; (simp at h); (rename_i h2; simpa using h2)
  have hmj := majN_no hp
  refine xsr ?_
  refine las rfl rfl rfl rfl rfl ?_
  refine lendF ?_
  refine awp_ret ?_
  refine ⟨[_], ⟨rfl, trivial⟩, ?_⟩
  first | exact ent_i rfl (relE_1 hmj).symm | exact ent_i rfl (relE_2 hmj hv).symm | exact ent_i rfl (relE_3 hmj hv hrq).symm | exact ent_i rfl (relE_4 hmj hv hrq (c := false) (dig3 (by rw [← hI, drop_cons hn, List.all_cons, hx]; rfl))).symm | exact ent_i rfl (relE_4 hmj hv hrq (c := true) (dig3 (by rw [← hI]; rfl))).symm
 ·
  have hp : isPath r.path = true := by (have h := hc1); split at h; (assumption); (simp at h)
  have hmj := majN_yes hp
  have hme := majN_eq hp
  refine awp_skip ?_
  refine awp_seq ?_
  refine xsr ?_
  refine xlz (op_fieldP rfl rfl rfl fl40_1) ?_
  refine xlz (o_ldA rfl rfl rfl rfl ty38 rfl (xlb rfl) rfl) ?_
  refine xlz (o_call (c78 r.ver) rfl rfl rfl ca78 rfl rfl) ?_
  refine xlz (op_not rfl rfl rfl) ?_
  refine lmv rfl rfl rfl rfl rfl ?_
  refine lsplit rfl (fun hg2 => ?_) (fun hg2 => ?_)
  ·
   have hok : r.ver.ok = true := by have := (g01 hg2); simpa using this
   refine lg (op_fieldP rfl rfl rfl fl40_1) rfl hg2 rfl rfl ?_
   refine lg (op_fieldP rfl rfl rfl fl38_0) rfl hg2 rfl rfl ?_
   refine lg (op_load1 rfl rfl rfl rfl ty3 rfl rfl) rfl hg2 rfl rfl ?_
   refine gmv hg2 rfl rfl rfl rfl rfl ?_
   refine lg (op_binI rfl rfl rfl rfl rfl (.inl rfl) rfl) rfl hg2 rfl rfl ?_
   refine xlz (o_pF rfl rfl (g01 hg2) rfl rfl) ?_
   refine lendF ?_
   refine awp_cond rfl rfl (fun hc3 => ?_) (fun hc3 => ?_)
   ·
    have hv : r.ver.ok = false ∨ r.ver.maj ≠ majN r.path := .inr (by (have h := hc3); rw [hme]; simpa [hp] using h)
    refine xsr ?_
    refine las rfl rfl rfl rfl rfl ?_
    refine lendF ?_
    refine awp_ret ?_
    refine ⟨[_], ⟨rfl, trivial⟩, ?_⟩
    first | exact ent_i rfl (relE_1 hmj).symm | exact ent_i rfl (relE_2 hmj hv).symm | exact ent_i rfl (relE_3 hmj hv hrq).symm | exact ent_i rfl (relE_4 hmj hv hrq (c := false) (dig3 (by rw [← hI, drop_cons hn, List.all_cons, hx]; rfl))).symm | exact ent_i rfl (relE_4 hmj hv hrq (c := true) (dig3 (by rw [← hI]; rfl))).symm
   ·
    have hv : ¬ (r.ver.ok = false ∨ r.ver.maj ≠ majN r.path) := by (have h := hc3); rw [hme]; simp [hp] at h; simp [hok, h]
    refine awp_skip ?_
    refine awp_seq ?_
    refine xsr ?_
    refine xlz (op_fieldP rfl rfl rfl fl40_2) ?_
    refine xlz (op_load1 rfl rfl rfl rfl ty26 rfl rfl) ?_
    refine xlz (o_call (c109 r.reqs hr.len hr.reqs) rfl rfl rfl ca109 rfl rfl) ?_
    refine las rfl rfl rfl rfl rfl ?_
    refine lendF ?_
    refine xsr ?_
    refine lmv rfl rfl rfl rfl rfl ?_
    refine xlz (op_binI rfl rfl rfl rfl rfl (.inl rfl) rfl) ?_
    refine lendF ?_
    refine awp_cond rfl rfl (fun hc4 => ?_) (fun hc4 => ?_)
    ·
     have hrq : checkReqs r.reqs ≠ 0 := by simpa using hc4
     refine xsr ?_
     refine lmv rfl rfl rfl rfl rfl ?_
     refine las rfl rfl rfl rfl rfl ?_
     refine lendF ?_
     refine awp_ret ?_
     refine ⟨[_], ⟨rfl, trivial⟩, ?_⟩
     first | exact ent_i rfl (relE_1 hmj).symm | exact ent_i rfl (relE_2 hmj hv).symm | exact ent_i rfl (relE_3 hmj hv hrq).symm | exact ent_i rfl (relE_4 hmj hv hrq (c := false) (dig3 (by rw [← hI, drop_cons hn, List.all_cons, hx]; rfl))).symm | exact ent_i rfl (relE_4 hmj hv hrq (c := true) (dig3 (by rw [← hI]; rfl))).symm
    ·
     have hrq : checkReqs r.reqs = 0 := by simpa using hc4
     refine awp_skip ?_
     refine awp_seq ?_
     refine xsr ?_
     refine xlz (op_fieldP rfl rfl rfl fl40_3) ?_
     refine xlz (op_load1 rfl rfl rfl rfl ty9 rfl rfl) ?_
     refine xlz (op_fieldP rfl rfl rfl fl40_4) ?_
     refine xlz (op_load1 rfl rfl rfl rfl ty9 rfl rfl) ?_
     refine xlz (op_fieldP rfl rfl rfl fl40_5) ?_
     refine xlz (op_load1 rfl rfl rfl rfl ty9 rfl rfl) ?_
     refine xlz (o_bs rfl rfl rfl rfl rfl ty71 ty9 rfl rfl) ?_
     refine xlz (o_eqI (op_len rfl rfl rfl ty71) (m' := 3) (by simp)) ?_
     refine lmv rfl rfl rfl rfl rfl ?_
     refine lendF ?_
     refine awp_block ?_
     refine awp_loop (fun i => ⟨56, [(43, .d (I (i : Nat))), (41, .tl [.str r.arch, .str r.iface, .str r.cert] none), (42, .d (I 3))], []⟩) (fun i => 3 - i) (fun i => i ≤ 3 ∧ ([r.arch, r.iface, r.cert].drop i).all isDig = [r.arch, r.iface, r.cert].all isDig) 0 ?_ ?_ ?_
     ·
      exact ent_k [] rfl rfl ((by repeat (first | exact .nil | refine xkc ?_))) obs_nil rfl
     ·
      exact ⟨Nat.zero_le _, rfl⟩
     ·
      rintro i ⟨hi, hI⟩
      refine xsr ?_
      refine xlz (op_binI rfl rfl rfl rfl rfl (.inl rfl) rfl) ?_
      refine lendF ?_
      refine awp_seq ?_
      refine awp_cond rfl rfl (fun hc5 => ?_) (fun hc5 => ?_)
      ·
       obtain ⟨x, hn⟩ := rng_lt (l := [r.arch, r.iface, r.cert]) hc5
       have hlt := rng_le hn
       refine awp_skip ?_
       refine awp_seq ?_
       refine awp_block ?_
       refine xsr ?_
       refine xlz (o_ixN (i) rfl rfl rfl rfl ty71 (by first | rfl | omega | (simp; done) | (simp; omega)) hn ty9) ?_
       refine xlz (op_loadC1 rfl rfl rfl ty9 rfl rfl) ?_
       refine las rfl rfl rfl rfl rfl ?_
       refine lendF ?_
       refine xsr ?_
       refine lmv rfl rfl rfl rfl rfl ?_
       refine xlz (op_lenS rfl rfl rfl ty9) ?_
       refine xlz (op_binI rfl rfl rfl rfl rfl (.inl rfl) rfl) ?_
       refine lmv rfl rfl rfl rfl rfl ?_
       refine lsplit rfl (fun hg6 => ?_) (fun hg6 => ?_)
       ·
        have hx0 : ¬ x.length = 0 := by (have h := (g11 hg6)); simp at h; simp [h]
        refine gmv hg6 rfl rfl rfl rfl rfl ?_
        refine lg (op_lenS rfl rfl rfl ty9) rfl hg6 rfl rfl ?_
        refine lg (op_binI rfl rfl rfl rfl rfl (.inl rfl) rfl) rfl hg6 rfl rfl ?_
        refine xlz (o_pT rfl rfl (g11 hg6) rfl rfl) ?_
        refine lendF ?_
        refine awp_cond rfl rfl (fun hc7 => ?_) (fun hc7 => ?_)
        ·
         have hx : isDig x = false := by (have h := hc7); simp only [isDig, Bool.or_eq_false_iff, decide_eq_false_iff_not]; refine ⟨hx0, ?_⟩; simp at h; omega
         refine xsr ?_
         refine las rfl rfl rfl rfl rfl ?_
         refine lendF ?_
         refine awp_ret ?_
         refine ⟨[_], ⟨rfl, trivial⟩, ?_⟩
         first | exact ent_i rfl (relE_1 hmj).symm | exact ent_i rfl (relE_2 hmj hv).symm | exact ent_i rfl (relE_3 hmj hv hrq).symm | exact ent_i rfl (relE_4 hmj hv hrq (c := false) (dig3 (by rw [← hI, drop_cons hn, List.all_cons, hx]; rfl))).symm | exact ent_i rfl (relE_4 hmj hv hrq (c := true) (dig3 (by rw [← hI]; rfl))).symm
        ·
         have hx : isDig x = true := by (have h := hc7); simp [isDig] at h ⊢; omega
         refine awp_skip ?_
         refine awp_region mixed ?_
         refine xlz (o_add rfl rfl rfl rfl (by first | omega | (simp; omega) | (simp at *; omega))) ?_
         refine lmv rfl rfl rfl rfl rfl ?_
         refine lendF ?_
         refine ⟨i + 1, ?_, ?_, ?_⟩
         ·
          exact ⟨hlt, by rw [← hI, drop_cons hn, List.all_cons, hx]; rfl⟩
         ·
          exact ent_k [] rfl rfl ((by repeat (first | exact .nil | refine xkc ?_))) obs_nil rfl
         ·
          have : i < 3 := hlt; omega
       ·
        have hx : isDig x = true := by (have h := (g10 hg6)); simp at h; simp [isDig, h]
        iterate 3 refine lskip rfl hg6 rfl ?_
        refine xlz (o_pF rfl rfl (g10 hg6) rfl rfl) ?_
        refine lendF ?_
        refine awp_condF rfl rfl rfl ?_
        refine awp_skip ?_
        refine awp_region mixed ?_
        refine xlz (o_add rfl rfl rfl rfl (by first | omega | (simp; omega) | (simp at *; omega))) ?_
        refine lmv rfl rfl rfl rfl rfl ?_
        refine lendF ?_
        refine ⟨i + 1, ?_, ?_, ?_⟩
        ·
         exact ⟨hlt, by rw [← hI, drop_cons hn, List.all_cons, hx]; rfl⟩
        ·
         exact ent_k [] rfl rfl ((by repeat (first | exact .nil | refine xkc ?_))) obs_nil rfl
        ·
         have : i < 3 := hlt; omega
      ·
       obtain rfl := rng_ge (l := [r.arch, r.iface, r.cert]) hc5 hi
       refine awp_exit ?_
       refine xsr ?_
       refine las rfl rfl rfl rfl rfl ?_
       refine lendF ?_
       refine awp_ret ?_
       refine ⟨[_], ⟨rfl, trivial⟩, ?_⟩
       first | exact ent_i rfl (relE_1 hmj).symm | exact ent_i rfl (relE_2 hmj hv).symm | exact ent_i rfl (relE_3 hmj hv hrq).symm | exact ent_i rfl (relE_4 hmj hv hrq (c := false) (dig3 (by rw [← hI, drop_cons hn, List.all_cons, hx]; rfl))).symm | exact ent_i rfl (relE_4 hmj hv hrq (c := true) (dig3 (by rw [← hI]; rfl))).symm
  ·
   have hv : r.ver.ok = false ∨ r.ver.maj ≠ majN r.path := .inl (by have := (g00 hg2); simpa using this)
   iterate 5 refine lskip rfl hg2 rfl ?_
   refine xlz (o_pT rfl rfl (g00 hg2) rfl rfl) ?_
   refine lendF ?_
   refine awp_condT rfl rfl rfl ?_
   refine xsr ?_
   refine las rfl rfl rfl rfl rfl ?_
   refine lendF ?_
   refine awp_ret ?_
   refine ⟨[_], ⟨rfl, trivial⟩, ?_⟩
   first | exact ent_i rfl (relE_1 hmj).symm | exact ent_i rfl (relE_2 hmj hv).symm | exact ent_i rfl (relE_3 hmj hv hrq).symm | exact ent_i rfl (relE_4 hmj hv hrq (c := false) (dig3 (by rw [← hI, drop_cons hn, List.all_cons, hx]; rfl))).symm | exact ent_i rfl (relE_4 hmj hv hrq (c := true) (dig3 (by rw [← hI]; rfl))).symm

set_option maxRecDepth 10000 in
theorem c22 (x : Idx) (hl : x.rels.length < 4611686018427387904) (hr : ∀ r ∈ x.rels, r.Sm) : Fn PR 22 [.d x.d] [] [.d (I (checkI x.rels))] [] := by
 refine fn_of_awp Tryz.func22 rfl (N := 42) rfl ?_
 refine xsr ?_
 refine xlz (op_box rfl rfl (by decide) rfl rfl) ?_
 refine las rfl rfl rfl rfl rfl ?_
 refine lendF ?_
 refine awp_seq ?_
 refine xsr ?_
 refine xlz (op_fieldP rfl rfl rfl fl25_0) ?_
 refine xlz (op_load1 rfl rfl rfl rfl ty22 rfl rfl) ?_
 refine xlz (o_lenE (n := x.rels.length) rfl rfl rfl ty22 (by simp)) ?_
 refine xlz (op_binI rfl rfl rfl rfl rfl (.inl rfl) rfl) ?_
 refine lendF ?_
 refine awp_cond rfl rfl (fun hc1 => ?_) (fun hc1 => ?_)
 ·
  have h16 : x.rels.length > 256 := by have := hc1; simp at this; omega
  refine xsr ?_
  refine las rfl rfl rfl rfl rfl ?_
  refine lendF ?_
  refine awp_ret ?_
  refine ⟨[_], ⟨rfl, trivial⟩, ?_⟩
  exact ent_i rfl (by rw [checkI, if_pos h16])
 ·
  have h16 : ¬ x.rels.length > 256 := by have := hc1; simp at this; omega
  refine awp_skip ?_
  refine awp_seq ?_
  refine xsr ?_
  refine xlz (op_fieldP rfl rfl rfl fl25_0) ?_
  refine xlz (op_load1 rfl rfl rfl rfl ty22 rfl rfl) ?_
  refine xlz (o_lenE (n := x.rels.length) rfl rfl rfl ty22 (by simp)) ?_
  refine lmv rfl rfl rfl rfl rfl ?_
  refine lendF ?_
  refine awp_block ?_
  refine awp_loop (fun i => ⟨42, [(14, .d (I (i : Nat))), (1, .ptr 1 0), (12, .d (relsD x.rels)), (13, .d (I x.rels.length))], [(1, .cells [.d (relsD x.rels), .d (.list x.ifs)])]⟩) (fun i => x.rels.length - i) (fun i => i ≤ x.rels.length ∧ relsE (prevQ x.rels i) (x.rels.drop i) = relsE none x.rels) 0 ?_ ?_ ?_
  ·
   exact ent_k [] rfl rfl ((by repeat (first | exact .nil | refine xkc ?_))) (obs_cons rfl (o_eq rfl) obs_nil) rfl
  ·
   exact ⟨Nat.zero_le _, rfl⟩
  ·
   rintro i ⟨hi, hI⟩
   refine xsr ?_
   refine xlz (op_binI rfl rfl rfl rfl rfl (.inl rfl) rfl) ?_
   refine lendF ?_
   refine awp_seq ?_
   refine awp_cond rfl rfl (fun hc2 => ?_) (fun hc2 => ?_)
   ·
    obtain ⟨z, hn⟩ := rng_lt (l := x.rels) (by simpa using hc2)
    have hlt := rng_le hn
    have hmem := List.mem_of_getElem? hn
    refine awp_skip ?_
    refine awp_seq ?_
    refine awp_block ?_
    refine xsr ?_
    refine lmv rfl rfl rfl rfl rfl ?_
    refine xlz (o_ixN (i) rfl rfl rfl rfl ty22 (by first | rfl | omega | (simp; done) | (simp; omega)) hn ty40) ?_
    refine xlz (op_loadCA rfl rfl rfl ty40 rfl (xlb rfl)) ?_
    refine xlz (op_alloc rfl rfl (by decide) ty40 zk40 rfl) ?_
    refine las rfl rfl rfl rfl rfl ?_
    refine xlz (op_store rfl rfl rfl rfl rfl rfl ty40 rfl (xlb rfl)) ?_
    refine lendF ?_
    refine awp_seq ?_
    refine xsr ?_
    refine xlz (o_ldA rfl rfl rfl rfl ty40 rfl (xlb rfl) rfl) ?_
    refine xlz (o_call (c75 z (hr z hmem)) rfl rfl rfl ca75 rfl rfl) ?_
    refine las rfl rfl rfl rfl rfl ?_
    refine lendF ?_
    refine xsr ?_
    refine lmv rfl rfl rfl rfl rfl ?_
    refine xlz (op_binI rfl rfl rfl rfl rfl (.inl rfl) rfl) ?_
    refine lendF ?_
    refine awp_cond rfl rfl (fun hc3 => ?_) (fun hc3 => ?_)
    ·
     have hz0 : relE z ≠ 0 := by simpa using hc3
     refine xsr ?_
     refine lmv rfl rfl rfl rfl rfl ?_
     refine las rfl rfl rfl rfl rfl ?_
     refine lendF ?_
     refine awp_ret ?_
     refine ⟨[_], ⟨rfl, trivial⟩, ?_⟩
     first | exact ent_i rfl (relsE_stop hI h16 hn rfl hz0) | exact ent_i rfl (relsE_stop2 hI h16 hn hz0 hst (by decide)) | exact ent_i rfl (relsE_end hI h16)
    ·
     have hz0 : relE z = 0 := by simpa using hc3
     refine awp_skip ?_
     refine awp_seq ?_
     refine xsr ?_
     refine lmv rfl rfl rfl rfl rfl ?_
     refine xlz (op_binI rfl rfl rfl rfl rfl (.inl rfl) rfl) ?_
     refine lendF ?_
     refine awp_cond rfl rfl (fun hc4 => ?_) (fun hc4 => ?_)
     ·
      have hi0 : i = 0 := by have := hc4; simp at this; omega
      have hst := stepE_z (r := z) (l := x.rels) hi0
      refine awp_exit ?_
      refine awp_region mixed ?_
      refine xlz (o_add rfl rfl rfl rfl (by first | omega | (simp; omega) | (simp at *; omega))) ?_
      refine lmv rfl rfl rfl rfl rfl ?_
      refine lendF ?_
      refine ⟨i + 1, ?_, ?_, ?_⟩
      ·
       exact ⟨rng_le hn, relsE_next hI hn hz0 hst⟩
      ·
       exact ent_k [] rfl rfl ((by repeat (first | exact .nil | refine xkc ?_))) (obs_cons rfl (o_eq rfl) obs_nil) rfl
      ·
       omega
     ·
      have hi0 : 0 < i := by have := hc4; simp at this; omega
      obtain ⟨y, hy⟩ : ∃ y, x.rels[i - 1]? = some y := ⟨_, List.getElem?_eq_getElem (by omega)⟩
      have hpv := prevQ_pos hi0 hy
      refine awp_skip ?_
      refine xsr ?_
      refine xlz (op_fieldP rfl rfl rfl fl25_0) ?_
      refine xlz (op_load1 rfl rfl rfl rfl ty22 rfl rfl) ?_
      refine lmv rfl rfl rfl rfl rfl ?_
      refine xlz (o_sub rfl rfl rfl rfl (by first | omega | (simp; omega) | (simp at *; omega))) ?_
      refine xlz (o_ixN ((i - 1)) rfl rfl rfl rfl ty22 (by first | rfl | omega | (simp; done) | (simp; omega)) hy ty40) ?_
      refine xlz (op_loadCA rfl rfl rfl ty40 rfl (xlb rfl)) ?_
      refine xlz (op_alloc rfl rfl (by decide) ty40 zk40 rfl) ?_
      refine xlz (op_store rfl rfl rfl rfl rfl rfl ty40 rfl (xlb rfl)) ?_
      refine lendF ?_
      refine xsr ?_
      refine xlz (o_ldA rfl rfl rfl rfl ty40 rfl (xlb rfl) rfl) ?_
      refine xlz (o_call (c47 y) rfl rfl rfl ca47 rfl rfl) ?_
      refine xlz (o_ldA rfl rfl rfl rfl ty40 rfl (xlb rfl) rfl) ?_
      refine xlz (o_call (c47 z) rfl rfl rfl ca47 rfl rfl) ?_
      refine xlz (op_eqlA rfl (.inl rfl) rfl rfl rfl rfl ty54 es54 rfl rfl eg54) ?_
      refine lend (fun _ => by kernel_rfl) ?_
      refine awp_cond rfl rfl (fun hc5 => ?_) (fun hc5 => ?_)
      ·
       have hst := stepE_5 (r := z) hpv (cmpR_zero.2 (by (have h := hc5); first | (rw [eqT_sel] at h; simpa using h) | (rw [eqDs_sel] at h; simpa using h)))
       refine xsr ?_
       refine las rfl rfl rfl rfl rfl ?_
       refine lendF ?_
       refine awp_ret ?_
       refine ⟨[_], ⟨rfl, trivial⟩, ?_⟩
       first | exact ent_i rfl (relsE_stop hI h16 hn rfl hz0) | exact ent_i rfl (relsE_stop2 hI h16 hn hz0 hst (by decide)) | exact ent_i rfl (relsE_end hI h16)
      ·
       have hne : ¬ cmpR y z = 0 := fun e => by (have h := hc5); have e2 := cmpR_zero.1 e; first | (rw [eqT_sel] at h; simp at h; exact absurd e2 (by simpa using h)) | (rw [eqDs_sel] at h; simp at h; exact absurd e2 (by simpa using h))
       refine xsr ?_
       refine xlz (o_ldA rfl rfl rfl rfl ty40 rfl (xlb rfl) rfl) ?_
       refine xlz (o_ldA rfl rfl rfl rfl ty40 rfl (xlb rfl) rfl) ?_
       refine xlz (o_call (c76 y z) rfl rfl rfl ca76 rfl rfl) ?_
       refine xlz (op_binI rfl rfl rfl rfl rfl (.inl rfl) rfl) ?_
       refine lendF ?_
       refine awp_cond rfl rfl (fun hc6 => ?_) (fun hc6 => ?_)
       ·
        have hst := stepE_1 (r := z) hpv hne (by simpa using hc6)
        refine xsr ?_
        refine las rfl rfl rfl rfl rfl ?_
        refine lendF ?_
        refine awp_ret ?_
        refine ⟨[_], ⟨rfl, trivial⟩, ?_⟩
        first | exact ent_i rfl (relsE_stop hI h16 hn rfl hz0) | exact ent_i rfl (relsE_stop2 hI h16 hn hz0 hst (by decide)) | exact ent_i rfl (relsE_end hI h16)
       ·
        have hst := stepE_0 (r := z) hpv hne (by simpa using hc6)
        refine awp_skip ?_
        refine awp_region mixed ?_
        refine xlz (o_add rfl rfl rfl rfl (by first | omega | (simp; omega) | (simp at *; omega))) ?_
        refine lmv rfl rfl rfl rfl rfl ?_
        refine lendF ?_
        refine ⟨i + 1, ?_, ?_, ?_⟩
        ·
         exact ⟨rng_le hn, relsE_next hI hn hz0 hst⟩
        ·
         exact ent_k [] rfl rfl ((by repeat (first | exact .nil | refine xkc ?_))) (obs_cons rfl (o_eq rfl) obs_nil) rfl
        ·
         omega
   ·
    obtain rfl := rng_ge (l := x.rels) (by simpa using hc2) hi
    refine awp_exit ?_
    refine xsr ?_
    refine las rfl rfl rfl rfl rfl ?_
    refine lendF ?_
    refine awp_ret ?_
    refine ⟨[_], ⟨rfl, trivial⟩, ?_⟩
    first | exact ent_i rfl (relsE_stop hI h16 hn rfl hz0) | exact ent_i rfl (relsE_stop2 hI h16 hn hz0 hst (by decide)) | exact ent_i rfl (relsE_end hI h16)

end Go.Pm

namespace Go.Pm
open Go.Proofs

set_option maxRecDepth 10000 in
theorem c77 (r : Rls) (hr : r.Sm) (hl : r.reqs.length ≤ 1000000) : Fn PR 77 [.d r.d] [] [.d r.d] [] := by
 refine fn_of_awp Tryz.func77 rfl (N := 27) rfl ?_
 refine xsr ?_
 refine xlz (op_box rfl rfl (by decide) rfl rfl) ?_
 refine xlz (op_alloc rfl rfl (by decide) ty40 zk40 rfl) ?_
 refine lendF ?_
 refine xsr ?_
 refine xlz (op_fieldP rfl rfl rfl fl40_2) ?_
 refine xlz (op_load1 rfl rfl rfl rfl ty26 rfl rfl) ?_
 refine las rfl rfl rfl rfl rfl ?_
 refine lendF ?_
 refine xsr ?_
 refine xlz (op_fieldP rfl rfl rfl fl40_2) ?_
 refine xlz (op_store rfl rfl rfl rfl rfl rfl ty26 rfl (xlb rfl)) ?_
 refine lendF ?_
 refine awp_seq ?_
 refine xsr ?_
 refine lmv rfl rfl rfl rfl rfl ?_
 refine xlz (o_lenE (n := r.reqs.length) rfl rfl rfl ty26 (by simp)) ?_
 refine lmv rfl rfl rfl rfl rfl ?_
 refine lendF ?_
 refine awp_block ?_
 refine awp_ent (ent_tailc 1 4 500023 2 rfl rfl rfl (by decide) rfl) ?_
 refine awp_loop (fun i => ⟨27, [(11, .d (I (i : Nat))), (1, .ptr 1 0), (2, .ptr 2 0), (9, .d (reqsD r.reqs)), (10, .d (I r.reqs.length))], [(1, .cells [.d (.str r.path), .d (I r.ver.maj), .d (I r.ver.min), .d (I r.ver.pat), .tl ((r.reqs.take i).map Req.d) (some 500023), .d (.str r.arch), .d (.str r.iface), .d (.str r.cert), .d (.bool r.yank)]), (500023, .tail 2), (2, .cells [.d (.str []), .d (I 0), .d (I 0), .d (I 0), .nils, .d (.str []), .d (.str []), .d (.str []), .d (.bool false)])]⟩) (fun i => r.reqs.length - i) (fun i => i ≤ r.reqs.length) 0 ?_ ?_ ?_
 ·
  exact ent_k [] rfl rfl ((by repeat (first | exact .nil | refine xkc ?_))) (obs_cons rfl (.cells (by repeat (first | exact .nil | refine .cons (by first | exact k_eq rfl | exact .same _) ?_))) (obs_cons rfl (o_eq rfl) (obs_cons rfl (o_eq rfl) obs_nil))) rfl
 ·
  exact Nat.zero_le _
 ·
  rintro i hi
  refine xsr ?_
  refine xlz (op_binI rfl rfl rfl rfl rfl (.inl rfl) rfl) ?_
  refine lendF ?_
  refine awp_seq ?_
  refine awp_cond rfl rfl (fun hc1 => ?_) (fun hc1 => ?_)
  ·
   obtain ⟨x, hn⟩ := rng_lt (l := r.reqs) (by simpa using hc1)
   have hlt := rng_le hn
   have hmem := List.mem_of_getElem? hn
   refine awp_skip ?_
   refine awp_seq ?_
   refine awp_block ?_
   refine xsr ?_
   refine xlz (o_ixN (i) rfl rfl rfl rfl ty26 (by first | rfl | omega | (simp; done) | (simp; omega)) hn ty51) ?_
   refine xlz (op_loadCA rfl rfl rfl ty51 rfl (xlb rfl)) ?_
   refine xlz (op_alloc rfl rfl (by decide) ty51 zk51 rfl) ?_
   refine xlz (op_store rfl rfl rfl rfl rfl rfl ty51 rfl (xlb rfl)) ?_
   refine lendF ?_
   refine xsr ?_
   refine xlz (op_fieldP rfl rfl rfl fl51_1) ?_
   refine xlz (op_load1 rfl rfl rfl rfl ty49 rfl rfl) ?_
   refine xlz (o_call (c113 x.set (hr.reqs x hmem).set) rfl rfl rfl ca113 rfl rfl) ?_
   refine xlz (op_fieldP rfl rfl rfl fl51_1) ?_
   refine xlz (op_store rfl rfl rfl rfl rfl rfl ty49 rfl (xlb rfl)) ?_
   refine lendF ?_
   refine awp_region mixed ?_
   refine xlz (op_fieldP rfl rfl rfl fl40_2) ?_
   refine xlz (op_load1 rfl rfl rfl rfl ty26 rfl rfl) ?_
   refine xlz (o_ldA rfl rfl rfl rfl ty51 rfl (xlb rfl) rfl) ?_
   refine xlz (o_bs rfl rfl rfl rfl rfl ty26 ty51 rfl rfl) ?_
   refine xlz (o_app rfl rfl (by decide) rfl rfl rfl ty26 ty51 rfl (by decide) rfl (by intro d hd; obtain ⟨x, _, rfl⟩ := List.mem_map.1 hd; rfl) (by simp [D.cells]) (by simp; omega) (by decide) (show _ = (r.reqs.take (i + 1)).map Req.d from by rw [take_succ hn]; simp)) ?_
   refine xlz (op_fieldP rfl rfl rfl fl40_2) ?_
   refine xlz (op_store rfl rfl rfl rfl rfl rfl ty26 rfl (xlb rfl)) ?_
   refine lendF ?_
   refine awp_region mixed ?_
   refine xlz (o_add rfl rfl rfl rfl (by first | omega | (simp; omega) | (simp at *; omega))) ?_
   refine lmv rfl rfl rfl rfl rfl ?_
   refine lendF ?_
   refine ⟨i + 1, ?_, ?_, ?_⟩
   ·
    exact rng_le hn
   ·
    exact ent_k [(500023, 23)] rfl rfl ((by repeat (first | exact .nil | refine xkc ?_))) (obs_cons rfl (.cells (by repeat (first | exact .nil | refine .cons (by first | exact k_eq rfl | exact .same _) ?_))) (obs_cons rfl (o_eq rfl) (obs_cons rfl (o_eq rfl) obs_nil))) rfl
   ·
    omega
  ·
   obtain rfl := rng_ge (l := r.reqs) (by simpa using hc1) hi
   refine awp_exit ?_
   refine xsr ?_
   refine xlz (o_ldA rfl rfl rfl rfl ty40 rfl (xlb rfl) rfl) ?_
   refine xlz (op_store rfl rfl rfl rfl rfl rfl ty40 rfl (xlb rfl)) ?_
   refine lendF ?_
   refine awp_ret ?_
   refine ⟨[_], ⟨⟨_, _, _, _, _, _, _, rfl, rfl, ty40, (xlb rfl), rfl⟩, trivial⟩, ?_⟩
   exact ent_d1 rfl (by simp [List.take_length])

end Go.Pm

namespace Go.Pm
open Go.Proofs

set_option maxRecDepth 10000 in
theorem c46 (x : Idx) (hl : x.rels.length < 4611686018427387904) (hr : ∀ r ∈ x.rels, r.Sm) : Fn PR 46 [.d x.d] [] [.agg [.map 0, .map 1], .d (I (checkI x.rels))] [(0, .map (relM (okR x)) []), (1, .map (grpD (grpOf (okR x))) [])] := by
 refine fn_of_awp Tryz.func46 rfl (N := 43) rfl ?_
 refine xsr ?_
 refine xlz (op_box rfl rfl (by decide) rfl rfl) ?_
 refine xlz (op_alloc rfl rfl (by decide) ty82 zk82 rfl) ?_
 refine las rfl rfl rfl rfl rfl ?_
 refine lendF ?_
 refine xsr ?_
 refine xlz (op_makeMap rfl rfl (by decide)) ?_
 refine xlz (op_makeMap rfl rfl (by decide)) ?_
 refine xlz (o_bldP rfl rfl rfl bl82 ty82 zk82 rfl rfl) ?_
 refine xlz (op_alloc rfl rfl (by decide) ty82 zk82 rfl) ?_
 refine xlz (op_store rfl rfl rfl rfl rfl rfl ty82 rfl (xlb rfl)) ?_
 refine lendF ?_
 refine awp_seq ?_
 refine xsr ?_
 refine xlz (o_ldA rfl rfl rfl rfl ty25 rfl (xlb rfl) rfl) ?_
 refine xlz (o_call (c22 x hl hr) rfl rfl rfl ca22 rfl rfl) ?_
 refine las rfl rfl rfl rfl rfl ?_
 refine lendF ?_
 refine xsr ?_
 refine lmv rfl rfl rfl rfl rfl ?_
 refine xlz (op_binI rfl rfl rfl rfl rfl (.inl rfl) rfl) ?_
 refine lendF ?_
 refine awp_cond rfl rfl (fun hc1 => ?_) (fun hc1 => ?_)
 ·
  have hne : ¬ checkI x.rels = 0 := by simpa using hc1
  have hok : okR x = [] := by unfold okR; rw [if_neg hne]
  refine xsr ?_
  refine xlz (op_loadA rfl rfl rfl rfl ty82 rfl (xlb rfl)) ?_
  refine lmv rfl rfl rfl rfl rfl ?_
  refine xlz (op_store rfl rfl rfl rfl rfl rfl ty82 rfl (xlb rfl)) ?_
  refine las rfl rfl rfl rfl rfl ?_
  refine lendF ?_
  refine awp_ret ?_
  refine ⟨[_, _], ⟨⟨_, _, _, _, _, _, _, rfl, rfl, ty82, (xlb rfl), rfl⟩, rfl, trivial⟩, ?_⟩
  exact ent_k [(0, 8), (1, 9)] rfl rfl (.cons rfl (k_eq rfl) <| .cons rfl (k_eq rfl) .nil) (obs_cons rfl (by rw [hok]; exact o_eq rfl) (obs_cons rfl (by rw [hok]; exact ko_end0) obs_nil)) rfl
 ·
  have h0 : checkI x.rels = 0 := by simpa using hc1
  have hok : okR x = x.rels := by unfold okR; rw [if_pos h0]
  have hsrt := checkI_sorted h0
  have h256 : x.rels.length ≤ 256 := checkI_len h0
  refine awp_skip ?_
  refine awp_seq ?_
  refine xsr ?_
  refine xlz (op_fieldP rfl rfl rfl fl25_0) ?_
  refine xlz (op_load1 rfl rfl rfl rfl ty22 rfl rfl) ?_
  refine xlz (o_lenE (n := x.rels.length) rfl rfl rfl ty22 (by simp)) ?_
  refine lmv rfl rfl rfl rfl rfl ?_
  refine lendF ?_
  refine awp_block ?_
  refine awp_ent (ent_ghost 500040 9 rfl (by decide)) ?_
  refine awp_loop (fun v => ⟨43, [(20, .d (I (v.1 : Nat))), (2, .ptr 2 0), (4, .ptr 4 0), (18, .d (relsD x.rels)), (19, .d (I x.rels.length))], [(8, .map (relM (x.rels.take v.1)) []), (9, .map (grpD v.2.1) (lastE 500040 v.2.2)), (500040, .tail 9), (4, .cells [.map 8, .map 9]), (2, .cells [.d .nilm, .d .nilm])]⟩) (fun v => x.rels.length - v.1) (fun v => v.1 ≤ x.rels.length ∧ gfold (x.rels.take v.1) = (v.2.1, v.2.2) ∧ GOK (x.rels.take v.1) v.2.1 v.2.2) (0, [], none) ?_ ?_ ?_
  ·
   exact ent_k [] rfl rfl ((by repeat (first | exact .nil | refine xkc ?_))) (obs_cons rfl (o_eq rfl) (obs_cons rfl (o_eq rfl) (obs_cons rfl (o_eq rfl) (obs_cons rfl (o_eq rfl) (obs_cons rfl (o_eq rfl) obs_nil))))) rfl
  ·
   exact ⟨Nat.zero_le _, rfl, gok_nil⟩
  ·
   rintro ⟨i, G, cur⟩ ⟨hi, hG, hg⟩
   dsimp only at hi hG hg ⊢
   rcases cur with _ | ⟨p, g⟩
   ·
    obtain ⟨hl0, rfl⟩ := hg.non rfl
    refine xsr ?_
    refine xlz (op_binI rfl rfl rfl rfl rfl (.inl rfl) rfl) ?_
    refine lendF ?_
    refine awp_seq ?_
    refine awp_cond rfl rfl (fun hc2 => ?_) (fun hc2 => ?_)
    ·
     obtain ⟨z, hn⟩ := rng_lt (l := x.rels) (by simpa using hc2)
     have hlt := rng_le hn
     have hs := sorted_take hsrt hn
     refine awp_skip ?_
     refine awp_seq ?_
     refine awp_block ?_
     refine xsr ?_
     refine xlz (o_ixN (i) rfl rfl rfl rfl ty22 (by first | rfl | omega | (simp; done) | (simp; omega)) hn ty40) ?_
     refine xlz (op_loadCA rfl rfl rfl ty40 rfl (xlb rfl)) ?_
     refine xlz (op_alloc rfl rfl (by decide) ty40 zk40 rfl) ?_
     refine xlz (op_store rfl rfl rfl rfl rfl rfl ty40 rfl (xlb rfl)) ?_
     refine lendF ?_
     refine xsr ?_
     refine xlz (op_fieldP rfl rfl rfl fl82_0) ?_
     refine xlz (op_load1 rfl rfl rfl rfl ty79 rfl rfl) ?_
     refine xlz (o_ldA rfl rfl rfl rfl ty40 rfl (xlb rfl) rfl) ?_
     refine xlz (o_call (c47 z) rfl rfl rfl ca47 rfl rfl) ?_
     refine xlz (o_ldA rfl rfl rfl rfl ty40 rfl (xlb rfl) rfl) ?_
     refine xlz (op_mapUpdate rfl rfl rfl rfl rfl rfl rfl rfl ty79 ty54 es54 rfl (ks_rel _) (show _ = ments (relM (x.rels.take (i + 1))) [] from (putX_rel (sel_ne hs)).trans (by rw [take_succ hn]))) ?_
     refine lend (fun _ => by kernel_rfl) ?_
     refine awp_region mixed ?_
     refine xlz (op_fieldP rfl rfl rfl fl82_1) ?_
     refine xlz (op_load1 rfl rfl rfl rfl ty80 rfl rfl) ?_
     refine xlz (op_fieldP rfl rfl rfl fl40_0) ?_
     refine xlz (op_load1 rfl rfl rfl rfl ty9 rfl rfl) ?_
     refine xlz (op_fieldP rfl rfl rfl fl82_1) ?_
     refine xlz (op_load1 rfl rfl rfl rfl ty80 rfl rfl) ?_
     refine xlz (op_fieldP rfl rfl rfl fl40_0) ?_
     refine xlz (op_load1 rfl rfl rfl rfl ty9 rfl rfl) ?_
     refine xlz (op_lookup rfl rfl rfl rfl rfl rfl ty80 ty9 es9 ty22 rfl rfl (ks_grp _ _ (ks_last _ _)) rfl) ?_
     refine xlz (o_ldA rfl rfl rfl rfl ty40 rfl (xlb rfl) rfl) ?_
     refine xlz (o_bs rfl rfl rfl rfl rfl ty22 ty40 rfl rfl) ?_
     refine xlz (o_app rfl rfl (by decide) rfl rfl rfl ty22 ty40 rfl (by decide) rfl (by intro d hd; first | (simp at hd; done) | (obtain ⟨x, _, rfl⟩ := List.mem_map.1 hd; rfl)) (by simp [D.cells]) (by first | (simp; done) | (simp; omega)) (by decide) rfl) ?_
     refine xlz (op_mapUpdate rfl rfl rfl rfl rfl rfl rfl rfl ty80 ty9 es9 rfl (ks_grp _ _ (ks_last _ _)) (show _ = ments (grpD []) [(.str z.path, .tl [z.d] (some 40))] from rfl)) ?_
     refine lend (fun _ => by kernel_rfl) ?_
     refine awp_region mixed ?_
     refine xlz (o_add rfl rfl rfl rfl (by first | omega | (simp; omega) | (simp at *; omega))) ?_
     refine lmv rfl rfl rfl rfl rfl ?_
     refine lendF ?_
     refine ⟨(i + 1, [], some (z.path, [z])), ?_, ?_, ?_⟩
     ·
      rw [take_succ hn]
      exact ⟨hlt, by rw [gfold_snoc, hG]; rfl, gok_none hg z⟩
     ·
      exact ent_k [(500040, 40)] rfl rfl (.cons rfl (k_i (by simp)) <| by repeat (first | exact .nil | refine .cons rfl (by first | exact k_eq rfl | exact .data rfl) ?_)) (obs_cons rfl (ko_rel rfl) (obs_cons rfl (ko_none rfl) (obs_cons rfl (o_eq rfl) (by repeat (first | exact obs_nil | refine obs_cons rfl (o_eq rfl) ?_))))) rfl
     ·
      show x.rels.length - (i + 1) < x.rels.length - i; omega
    ·
     obtain rfl := rng_ge (l := x.rels) (by simpa using hc2) hi
     rw [List.take_length] at hG hg
     refine awp_exit ?_
     refine xsr ?_
     refine xlz (op_loadA rfl rfl rfl rfl ty82 rfl (xlb rfl)) ?_
     refine xlz (op_store rfl rfl rfl rfl rfl rfl ty82 rfl (xlb rfl)) ?_
     refine las rfl rfl rfl rfl rfl ?_
     refine lendF ?_
     refine awp_ret ?_
     refine ⟨[_, _], ⟨⟨_, _, _, _, _, _, _, rfl, rfl, ty82, (xlb rfl), rfl⟩, rfl, trivial⟩, ?_⟩
     exact ent_k [(0, 8), (1, 9)] rfl rfl (.cons rfl (k_eq rfl) <| .cons rfl (k_i h0.symm) .nil) (obs_cons rfl (ko_rel (by rw [List.take_length, hok])) (obs_cons rfl (by rw [hok, show x.rels = [] from by rw [← List.take_length (l := x.rels)]; exact hl0]; exact ko_end0) obs_nil)) rfl
   ·
    refine xsr ?_
    refine xlz (op_binI rfl rfl rfl rfl rfl (.inl rfl) rfl) ?_
    refine lendF ?_
    refine awp_seq ?_
    refine awp_cond rfl rfl (fun hc3 => ?_) (fun hc3 => ?_)
    ·
     obtain ⟨z, hn⟩ := rng_lt (l := x.rels) (by simpa using hc3)
     have hlt := rng_le hn
     have hs := sorted_take hsrt hn
     refine awp_skip ?_
     refine awp_seq ?_
     refine awp_block ?_
     refine xsr ?_
     refine xlz (o_ixN (i) rfl rfl rfl rfl ty22 (by first | rfl | omega | (simp; done) | (simp; omega)) hn ty40) ?_
     refine xlz (op_loadCA rfl rfl rfl ty40 rfl (xlb rfl)) ?_
     refine xlz (op_alloc rfl rfl (by decide) ty40 zk40 rfl) ?_
     refine xlz (op_store rfl rfl rfl rfl rfl rfl ty40 rfl (xlb rfl)) ?_
     refine lendF ?_
     refine xsr ?_
     refine xlz (op_fieldP rfl rfl rfl fl82_0) ?_
     refine xlz (op_load1 rfl rfl rfl rfl ty79 rfl rfl) ?_
     refine xlz (o_ldA rfl rfl rfl rfl ty40 rfl (xlb rfl) rfl) ?_
     refine xlz (o_call (c47 z) rfl rfl rfl ca47 rfl rfl) ?_
     refine xlz (o_ldA rfl rfl rfl rfl ty40 rfl (xlb rfl) rfl) ?_
     refine xlz (op_mapUpdate rfl rfl rfl rfl rfl rfl rfl rfl ty79 ty54 es54 rfl (ks_rel _) (show _ = ments (relM (x.rels.take (i + 1))) [] from (putX_rel (sel_ne hs)).trans (by rw [take_succ hn]))) ?_
     refine lend (fun _ => by kernel_rfl) ?_
     by_cases hp : p = z.path
     ·
      have hgl : g.length ≤ 256 := by have := gok_len hg; simp at this; omega
      refine awp_region mixed ?_
      refine xlz (op_fieldP rfl rfl rfl fl82_1) ?_
      refine xlz (op_load1 rfl rfl rfl rfl ty80 rfl rfl) ?_
      refine xlz (op_fieldP rfl rfl rfl fl40_0) ?_
      refine xlz (op_load1 rfl rfl rfl rfl ty9 rfl rfl) ?_
      refine xlz (op_fieldP rfl rfl rfl fl82_1) ?_
      refine xlz (op_load1 rfl rfl rfl rfl ty80 rfl rfl) ?_
      refine xlz (op_fieldP rfl rfl rfl fl40_0) ?_
      refine xlz (op_load1 rfl rfl rfl rfl ty9 rfl rfl) ?_
      refine xlz (op_lookup rfl rfl rfl rfl rfl rfl ty80 ty9 es9 ty22 rfl rfl (ks_grp _ _ (ks_last _ _)) (getX_same hg hp _ _)) ?_
      refine xlz (o_ldA rfl rfl rfl rfl ty40 rfl (xlb rfl) rfl) ?_
      refine xlz (o_bs rfl rfl rfl rfl rfl ty22 ty40 rfl rfl) ?_
      refine xlz (o_app rfl rfl (by decide) rfl rfl rfl ty22 ty40 rfl (by decide) rfl (by intro d hd; first | (simp at hd; done) | (obtain ⟨x, _, rfl⟩ := List.mem_map.1 hd; rfl)) (by simp [D.cells]) (by first | (simp; done) | (simp; omega)) (by decide) (show _ = (g ++ [z]).map Rls.d from by simp)) ?_
      refine xlz (op_mapUpdate rfl rfl rfl rfl rfl rfl rfl rfl ty80 ty9 es9 rfl (ks_grp _ _ (ks_last _ _)) (putX_same hg hp _ _)) ?_
      refine lend (fun _ => by kernel_rfl) ?_
      refine awp_region mixed ?_
      refine xlz (o_add rfl rfl rfl rfl (by first | omega | (simp; omega) | (simp at *; omega))) ?_
      refine lmv rfl rfl rfl rfl rfl ?_
      refine lendF ?_
      refine ⟨(i + 1, G, some (p, g ++ [z])), ?_, ?_, ?_⟩
      ·
       rw [take_succ hn]
       exact ⟨hlt, by rw [gfold_snoc, hG]; simp only [gstep]; rw [if_pos hp], gok_same hg hp⟩
      ·
       exact ent_k [(500040, 40)] rfl rfl (.cons rfl (k_i (by simp)) <| by repeat (first | exact .nil | refine .cons rfl (by first | exact k_eq rfl | exact .data rfl) ?_)) (obs_cons rfl (ko_rel rfl) (obs_cons rfl (ko_same rfl) (obs_cons rfl (o_eq rfl) (by repeat (first | exact obs_nil | refine obs_cons rfl (o_eq rfl) ?_))))) rfl
      ·
       show x.rels.length - (i + 1) < x.rels.length - i; omega
     ·
      have hbl := (gok_paths hg hs).resolve_left hp
      refine awp_region mixed ?_
      refine xlz (op_fieldP rfl rfl rfl fl82_1) ?_
      refine xlz (op_load1 rfl rfl rfl rfl ty80 rfl rfl) ?_
      refine xlz (op_fieldP rfl rfl rfl fl40_0) ?_
      refine xlz (op_load1 rfl rfl rfl rfl ty9 rfl rfl) ?_
      refine xlz (op_fieldP rfl rfl rfl fl82_1) ?_
      refine xlz (op_load1 rfl rfl rfl rfl ty80 rfl rfl) ?_
      refine xlz (op_fieldP rfl rfl rfl fl40_0) ?_
      refine xlz (op_load1 rfl rfl rfl rfl ty9 rfl rfl) ?_
      refine xlz (op_lookup rfl rfl rfl rfl rfl rfl ty80 ty9 es9 ty22 rfl rfl (ks_grp _ _ (ks_last _ _)) (getX_new hg hbl _ _)) ?_
      refine xlz (o_ldA rfl rfl rfl rfl ty40 rfl (xlb rfl) rfl) ?_
      refine xlz (o_bs rfl rfl rfl rfl rfl ty22 ty40 rfl rfl) ?_
      refine xlz (o_app rfl rfl (by decide) rfl rfl rfl ty22 ty40 rfl (by decide) rfl (by intro d hd; first | (simp at hd; done) | (obtain ⟨x, _, rfl⟩ := List.mem_map.1 hd; rfl)) (by simp [D.cells]) (by first | (simp; done) | (simp; omega)) (by decide) rfl) ?_
      refine xlz (op_mapUpdate rfl rfl rfl rfl rfl rfl rfl rfl ty80 ty9 es9 rfl (ks_grp _ _ (ks_last _ _)) (putX_new hg hbl _ _)) ?_
      refine lend (fun _ => by kernel_rfl) ?_
      refine awp_region mixed ?_
      refine xlz (o_add rfl rfl rfl rfl (by first | omega | (simp; omega) | (simp at *; omega))) ?_
      refine lmv rfl rfl rfl rfl rfl ?_
      refine lendF ?_
      refine ⟨(i + 1, G ++ [(p, g)], some (z.path, [z])), ?_, ?_, ?_⟩
      ·
       rw [take_succ hn]
       exact ⟨hlt, by rw [gfold_snoc, hG]; simp only [gstep]; rw [if_neg hp], gok_new hg hbl⟩
      ·
       exact ent_k [(500040, 40)] rfl rfl (.cons rfl (k_i (by simp)) <| by repeat (first | exact .nil | refine .cons rfl (by first | exact k_eq rfl | exact .data rfl) ?_)) (obs_cons rfl (ko_rel rfl) (obs_cons rfl (ko_new rfl) (obs_cons rfl (o_eq rfl) (by repeat (first | exact obs_nil | refine obs_cons rfl (o_eq rfl) ?_))))) rfl
      ·
       show x.rels.length - (i + 1) < x.rels.length - i; omega
    ·
     obtain rfl := rng_ge (l := x.rels) (by simpa using hc3) hi
     rw [List.take_length] at hG hg
     refine awp_exit ?_
     refine xsr ?_
     refine xlz (op_loadA rfl rfl rfl rfl ty82 rfl (xlb rfl)) ?_
     refine xlz (op_store rfl rfl rfl rfl rfl rfl ty82 rfl (xlb rfl)) ?_
     refine las rfl rfl rfl rfl rfl ?_
     refine lendF ?_
     refine awp_ret ?_
     refine ⟨[_, _], ⟨⟨_, _, _, _, _, _, _, rfl, rfl, ty82, (xlb rfl), rfl⟩, rfl, trivial⟩, ?_⟩
     exact ent_k [(0, 8), (1, 9)] rfl rfl (.cons rfl (k_eq rfl) <| .cons rfl (k_i h0.symm) .nil) (obs_cons rfl (ko_rel (by rw [List.take_length, hok])) (obs_cons rfl (by rw [hok]; exact ko_end hG) obs_nil)) rfl

end Go.Pm

namespace Go.Pm
open Go.Proofs

set_option maxRecDepth 10000 in
set_option maxHeartbeats 2000000 in
theorem c24 (x : Idx) (hl : x.rels.length < 4611686018427387904) (hr : ∀ r ∈ x.rels, r.Sm) (p : Bytes) (v : Ver) : Fn PR 24 [.d x.d, .d (.str p), .d v.d] [] [.d (getR x ⟨p, v⟩).d, .d (.bool (findR (okR x) ⟨p, v⟩).isSome)] [] := by
 refine fn_of_awp Tryz.func24 rfl (N := 29) rfl ?_
 obtain ⟨q, hq⟩ : ∃ q, q = getR x ⟨p, v⟩ := ⟨_, rfl⟩
 have hqs := getR_sm hr ⟨p, v⟩
 rw [← hq] at hqs
 refine xsr ?_
 refine xlz (op_box rfl rfl (by decide) rfl rfl) ?_
 refine xlz (op_box rfl rfl (by decide) rfl rfl) ?_
 refine xlz (op_alloc rfl rfl (by decide) ty40 zk40 rfl) ?_
 refine las rfl rfl rfl rfl rfl ?_
 refine lendF ?_
 refine xsr ?_
 refine xlz (o_ldA rfl rfl rfl rfl ty25 rfl (xlb rfl) rfl) ?_
 refine xlz (o_callX (p := .tup [.agg [.map 1014, .map 2014], .d (I (checkI x.rels))]) (news := [1014, 2014]) (upd := [(1014, some (.map (relM (okR x)) [])), (2014, some (.map (grpD (grpOf (okR x))) []))]) [] 14 (c46 x hl hr) rfl rfl rfl ca46 rfl (by decide) handOK_nil rfl rfl rfl rfl (by kernel_rfl) (by kernel_rfl) (by kernel_rfl)) ?_
 refine lmv rfl rfl rfl rfl rfl ?_
 refine xlz (op_extract rfl rfl rfl rfl) ?_
 refine xlz (op_extract rfl rfl rfl rfl) ?_
 refine xlz (op_alloc rfl rfl (by decide) ty82 zk82 rfl) ?_
 refine xlz (op_store rfl rfl rfl rfl rfl rfl ty82 rfl (xlb rfl)) ?_
 refine las rfl rfl rfl rfl rfl ?_
 refine lendF ?_
 refine xsr ?_
 refine xlz (op_fieldP rfl rfl rfl fl82_0) ?_
 refine xlz (op_load1 rfl rfl rfl rfl ty79 rfl rfl) ?_
 refine lmv rfl rfl rfl rfl rfl ?_
 refine xlz (o_ldA rfl rfl rfl rfl ty38 rfl (xlb rfl) rfl) ?_
 refine xlz (o_bld rfl rfl rfl bl54 ty54 zk54 rfl rfl rfl) ?_
 refine xlz (op_lookup2D rfl rfl rfl rfl rfl rfl ty79 ty54 es54 ty40 rfl rfl (ks_rel _) (show _ = some q.d from by rw [hq]; exact getX_key x ⟨p, v⟩) (hasX_rel _ ⟨p, v⟩)) ?_
 refine lmv rfl rfl rfl rfl rfl ?_
 refine xlz (op_extract rfl rfl rfl rfl) ?_
 refine xlz (op_extract rfl rfl rfl rfl) ?_
 refine xlz (op_alloc rfl rfl (by decide) ty40 zk40 rfl) ?_
 refine xlz (op_store rfl rfl rfl rfl rfl rfl ty40 rfl (xlb rfl)) ?_
 refine las rfl rfl rfl rfl rfl ?_
 refine lendF ?_
 refine xsr ?_
 refine xlz (o_ldA rfl rfl rfl rfl ty40 rfl (xlb rfl) rfl) ?_
 refine xlz (o_call (c77 q hqs.1 (by have := hqs.2; omega)) rfl rfl rfl ca77 rfl rfl) ?_
 refine lmv rfl rfl rfl rfl rfl ?_
 refine xlz (op_store rfl rfl rfl rfl rfl rfl ty40 rfl (xlb rfl)) ?_
 refine las rfl rfl rfl rfl rfl ?_
 refine lendF ?_
 refine awp_ret ?_
 refine ⟨[_, _], ⟨⟨_, _, _, _, _, _, _, rfl, rfl, ty40, (xlb rfl), rfl⟩, rfl, trivial⟩, ?_⟩
 exact ent_d2 rfl (by rw [hq]) rfl rfl

set_option maxRecDepth 10000 in
set_option maxHeartbeats 2000000 in
theorem c37 (x : Idx) (hl : x.rels.length < 4611686018427387904) (hr : ∀ r ∈ x.rels, r.Sm) (p : Bytes) : Fn PR 37 [.d x.d, .d (.str p)] [] [.d (.list ((pathR x p).map fun r => r.ver.d))] [] := by
 refine fn_of_awp Tryz.func37 rfl (N := 31) rfl ?_
 obtain ⟨l, hl2⟩ : ∃ l, l = pathR x p := ⟨_, rfl⟩
 have hlm : ∀ r ∈ l, r.Sm ∧ relE r = 0 := fun r h => by rw [hl2] at h; have := okR_mem (pathR_mem h).1; exact ⟨hr r this.1, this.2⟩
 have hll : l.length ≤ 256 := by rw [hl2]; exact pathR_len x p
 refine xsr ?_
 refine xlz (op_box rfl rfl (by decide) rfl rfl) ?_
 refine las rfl rfl rfl rfl rfl ?_
 refine lendF ?_
 refine xsr ?_
 refine xlz (o_ldA rfl rfl rfl rfl ty25 rfl (xlb rfl) rfl) ?_
 refine xlz (o_callX (p := .tup [.agg [.map 1012, .map 2012], .d (I (checkI x.rels))]) (news := [1012, 2012]) (upd := [(1012, some (.map (relM (okR x)) [])), (2012, some (.map (grpD (grpOf (okR x))) []))]) [] 12 (c46 x hl hr) rfl rfl rfl ca46 rfl (by decide) handOK_nil rfl rfl rfl rfl (by kernel_rfl) (by kernel_rfl) (by kernel_rfl)) ?_
 refine lmv rfl rfl rfl rfl rfl ?_
 refine xlz (op_extract rfl rfl rfl rfl) ?_
 refine xlz (op_extract rfl rfl rfl rfl) ?_
 refine xlz (op_alloc rfl rfl (by decide) ty82 zk82 rfl) ?_
 refine xlz (op_store rfl rfl rfl rfl rfl rfl ty82 rfl (xlb rfl)) ?_
 refine las rfl rfl rfl rfl rfl ?_
 refine lendF ?_
 refine xsr ?_
 refine las rfl rfl rfl rfl rfl ?_
 refine lendF ?_
 refine awp_seq ?_
 refine xsr ?_
 refine xlz (op_fieldP rfl rfl rfl fl82_1) ?_
 refine xlz (op_load1 rfl rfl rfl rfl ty80 rfl rfl) ?_
 refine lmv rfl rfl rfl rfl rfl ?_
 refine xlz (op_lookupD rfl rfl rfl rfl rfl rfl ty80 ty9 es9 ty22 rfl rfl (ks_grp0 _) (show _ = some (relsD l) from by rw [hl2]; exact getX_path x p)) ?_
 refine xlz (o_lenE (n := l.length) rfl rfl rfl ty22 (by simp)) ?_
 refine lmv rfl rfl rfl rfl rfl ?_
 refine lendF ?_
 refine awp_block ?_
 refine awp_ent (ent_tail 7 500007 3 rfl rfl rfl (by decide)) ?_
 refine awp_loop (fun i => ⟨31, [(7, .tl ((l.take i).map fun r => r.ver.d) (some 500007)), (20, .d (I (i : Nat))), (18, .d (relsD l)), (19, .d (I l.length))], [(500007, .tail 3)]⟩) (fun i => l.length - i) (fun i => i ≤ l.length) 0 ?_ ?_ ?_
 ·
  exact ent_k [] rfl rfl ((by repeat (first | exact .nil | refine xkc ?_))) (obs_cons rfl (o_eq rfl) obs_nil) rfl
 ·
  exact Nat.zero_le _
 ·
  rintro i hi
  refine xsr ?_
  refine xlz (op_binI rfl rfl rfl rfl rfl (.inl rfl) rfl) ?_
  refine lendF ?_
  refine awp_seq ?_
  refine awp_cond rfl rfl (fun hc1 => ?_) (fun hc1 => ?_)
  ·
   obtain ⟨x, hn⟩ := rng_lt (l := l) (by simpa using hc1)
   have hlt := rng_le hn
   have hmem := List.mem_of_getElem? hn
   refine awp_skip ?_
   refine awp_seq ?_
   refine awp_block ?_
   refine xsr ?_
   refine xlz (o_ixN (i) rfl rfl rfl rfl ty22 (by first | rfl | omega | (simp; done) | (simp; omega)) hn ty40) ?_
   refine xlz (op_loadCA rfl rfl rfl ty40 rfl (xlb rfl)) ?_
   refine xlz (op_alloc rfl rfl (by decide) ty40 zk40 rfl) ?_
   refine xlz (op_store rfl rfl rfl rfl rfl rfl ty40 rfl (xlb rfl)) ?_
   refine lendF ?_
   refine awp_region mixed ?_
   refine lmv rfl rfl rfl rfl rfl ?_
   refine xlz (op_fieldP rfl rfl rfl fl40_1) ?_
   refine xlz (o_ldA rfl rfl rfl rfl ty38 rfl (xlb rfl) rfl) ?_
   refine xlz (o_bs rfl rfl rfl rfl rfl ty68 ty38 rfl rfl) ?_
   refine xlz (o_app rfl rfl (by decide) rfl rfl rfl ty68 ty38 rfl (by decide) rfl (by intro d hd; obtain ⟨x, _, rfl⟩ := List.mem_map.1 hd; rfl) (by simp [D.cells]) (by simp; omega) (by decide) (show _ = (l.take (i + 1)).map fun r => r.ver.d from by rw [take_succ hn]; simp)) ?_
   refine las rfl rfl rfl rfl rfl ?_
   refine lendF ?_
   refine awp_region mixed ?_
   refine xlz (o_add rfl rfl rfl rfl (by first | omega | (simp; omega) | (simp at *; omega))) ?_
   refine lmv rfl rfl rfl rfl rfl ?_
   refine lendF ?_
   refine ⟨i + 1, ?_, ?_, ?_⟩
   ·
    exact rng_le hn
   ·
    exact ent_k [(500007, 28)] rfl rfl ((by repeat (first | exact .nil | refine xkc ?_))) (obs_cons rfl (o_eq rfl) obs_nil) rfl
   ·
    omega
  ·
   obtain rfl := rng_ge (l := l) (by simpa using hc1) hi
   refine awp_exit ?_
   refine xsr ?_
   refine lmv rfl rfl rfl rfl rfl ?_
   refine las rfl rfl rfl rfl rfl ?_
   refine lendF ?_
   refine awp_ret ?_
   refine ⟨[_], ⟨rfl, trivial⟩, ?_⟩
   exact ent_d1 rfl (by rw [List.take_length, hl2])

end Go.Pm

namespace Go.Pm
open Go.Proofs

set_option maxRecDepth 10000 in
set_option maxHeartbeats 2000000 in
theorem c43 (x : Idx) (hl : x.rels.length < 4611686018427387904) (hr : ∀ r ∈ x.rels, r.Sm) (p : Bytes) : Fn PR 43 [.d x.d, .d (.str p)] [] [.d (setD (canonS (avS (pathR x p))))] [] := by
 refine fn_of_awp Tryz.func43 rfl (N := 39) rfl ?_
 obtain ⟨l, hl2⟩ : ∃ l, l = pathR x p := ⟨_, rfl⟩
 have hlm : ∀ r ∈ l, r.Sm ∧ relE r = 0 := fun r h => by rw [hl2] at h; have := okR_mem (pathR_mem h).1; exact ⟨hr r this.1, this.2⟩
 have hll : l.length ≤ 256 := by rw [hl2]; exact pathR_len x p
 refine xsr ?_
 refine xlz (op_box rfl rfl (by decide) rfl rfl) ?_
 refine las rfl rfl rfl rfl rfl ?_
 refine lendF ?_
 refine xsr ?_
 refine xlz (o_ldA rfl rfl rfl rfl ty25 rfl (xlb rfl) rfl) ?_
 refine xlz (o_callX (p := .tup [.agg [.map 1012, .map 2012], .d (I (checkI x.rels))]) (news := [1012, 2012]) (upd := [(1012, some (.map (relM (okR x)) [])), (2012, some (.map (grpD (grpOf (okR x))) []))]) [] 12 (c46 x hl hr) rfl rfl rfl ca46 rfl (by decide) handOK_nil rfl rfl rfl rfl (by kernel_rfl) (by kernel_rfl) (by kernel_rfl)) ?_
 refine lmv rfl rfl rfl rfl rfl ?_
 refine xlz (op_extract rfl rfl rfl rfl) ?_
 refine xlz (op_extract rfl rfl rfl rfl) ?_
 refine xlz (op_alloc rfl rfl (by decide) ty82 zk82 rfl) ?_
 refine xlz (op_store rfl rfl rfl rfl rfl rfl ty82 rfl (xlb rfl)) ?_
 refine las rfl rfl rfl rfl rfl ?_
 refine lendF ?_
 refine xsr ?_
 refine las rfl rfl rfl rfl rfl ?_
 refine lendF ?_
 refine awp_seq ?_
 refine xsr ?_
 refine xlz (op_fieldP rfl rfl rfl fl82_1) ?_
 refine xlz (op_load1 rfl rfl rfl rfl ty80 rfl rfl) ?_
 refine lmv rfl rfl rfl rfl rfl ?_
 refine xlz (op_lookupD rfl rfl rfl rfl rfl rfl ty80 ty9 es9 ty22 rfl rfl (ks_grp0 _) (show _ = some (relsD l) from by rw [hl2]; exact getX_path x p)) ?_
 refine xlz (o_lenE (n := l.length) rfl rfl rfl ty22 (by simp)) ?_
 refine lmv rfl rfl rfl rfl rfl ?_
 refine lendF ?_
 refine awp_block ?_
 refine awp_ent (ent_tail 7 500007 2 rfl rfl rfl (by decide)) ?_
 refine awp_loop (fun i => ⟨39, [(7, .tl ((avS (l.take i)).map Span.d) (some 500007)), (20, .d (I (i : Nat))), (18, .d (relsD l)), (19, .d (I l.length))], [(500007, .tail 2)]⟩) (fun i => l.length - i) (fun i => i ≤ l.length) 0 ?_ ?_ ?_
 ·
  exact ent_k [] rfl rfl ((by repeat (first | exact .nil | refine xkc ?_))) (obs_cons rfl (o_eq rfl) obs_nil) rfl
 ·
  exact Nat.zero_le _
 ·
  rintro i hi
  refine xsr ?_
  refine xlz (op_binI rfl rfl rfl rfl rfl (.inl rfl) rfl) ?_
  refine lendF ?_
  refine awp_seq ?_
  refine awp_cond rfl rfl (fun hc1 => ?_) (fun hc1 => ?_)
  ·
   obtain ⟨x, hn⟩ := rng_lt (l := l) (by simpa using hc1)
   have hlt := rng_le hn
   have hmem := List.mem_of_getElem? hn
   refine awp_skip ?_
   refine awp_seq ?_
   refine awp_block ?_
   refine xsr ?_
   refine xlz (o_ixN (i) rfl rfl rfl rfl ty22 (by first | rfl | omega | (simp; done) | (simp; omega)) hn ty40) ?_
   refine xlz (op_loadCA rfl rfl rfl ty40 rfl (xlb rfl)) ?_
   refine xlz (op_alloc rfl rfl (by decide) ty40 zk40 rfl) ?_
   refine xlz (op_store rfl rfl rfl rfl rfl rfl ty40 rfl (xlb rfl)) ?_
   refine lendF ?_
   refine xsr ?_
   refine xlz (op_fieldP rfl rfl rfl fl40_6) ?_
   refine xlz (op_load1 rfl rfl rfl rfl ty4 rfl rfl) ?_
   refine xlz (op_not rfl rfl rfl) ?_
   refine lendF ?_
   refine awp_cond rfl rfl (fun hc2 => ?_) (fun hc2 => ?_)
   ·
    have hy : x.yank = false := by simpa using hc2
    have hpb := place_bounds (relE_ver (hlm x hmem).2)
    refine awp_region mixed ?_
    refine lmv rfl rfl rfl rfl rfl ?_
    refine xlz (o_ldA rfl rfl rfl rfl ty40 rfl (xlb rfl) rfl) ?_
    refine xlz (o_call (c48 _) rfl rfl rfl ca48 rfl rfl) ?_
    refine xlz (o_ldA rfl rfl rfl rfl ty40 rfl (xlb rfl) rfl) ?_
    refine xlz (o_call (c48 _) rfl rfl rfl ca48 rfl rfl) ?_
    refine xlz (o_add rfl rfl rfl rfl (by first | omega | (simp; omega) | (simp at *; omega))) ?_
    refine xlz (o_bld rfl rfl rfl bl78 ty78 zk78 rfl rfl rfl) ?_
    refine xlz (o_bs rfl rfl rfl rfl rfl ty49 ty78 rfl rfl) ?_
    refine xlz (o_app rfl rfl (by decide) rfl rfl rfl ty49 ty78 rfl (by decide) rfl (by intro d hd; obtain ⟨x, _, rfl⟩ := List.mem_map.1 hd; rfl) (by simp [D.cells]) (by have := avS_len (l.take i); simp at this ⊢; omega) (by decide) rfl) ?_
    refine las rfl rfl rfl rfl rfl ?_
    refine lend (fun _ => by kernel_rfl) ?_
    refine awp_region mixed ?_
    refine xlz (o_add rfl rfl rfl rfl (by first | omega | (simp; omega) | (simp at *; omega))) ?_
    refine lmv rfl rfl rfl rfl rfl ?_
    refine lendF ?_
    refine ⟨i + 1, ?_, ?_, ?_⟩
    ·
     exact rng_le hn
    ·
     exact ent_k [(500007, 35)] rfl rfl (.cons rfl (k_tl rfl (by rw [take_succ hn, avS_yes hy]; simp)) <| .cons rfl (k_i (by simp)) <| by repeat (first | exact .nil | refine .cons rfl (by first | exact k_eq rfl | exact .data rfl) ?_)) (by repeat (first | exact obs_nil | refine obs_cons rfl (o_eq rfl) ?_)) rfl
    ·
     omega
   ·
    have hy : x.yank = true := by simpa using hc2
    refine awp_skip ?_
    refine awp_region mixed ?_
    refine xlz (o_add rfl rfl rfl rfl (by first | omega | (simp; omega) | (simp at *; omega))) ?_
    refine lmv rfl rfl rfl rfl rfl ?_
    refine lendF ?_
    refine ⟨i + 1, ?_, ?_, ?_⟩
    ·
     exact rng_le hn
    ·
     exact ent_k [] rfl rfl (.cons rfl (k_tl rfl (by rw [take_succ hn, avS_no hy])) <| .cons rfl (k_i (by simp)) <| by repeat (first | exact .nil | refine .cons rfl (by first | exact k_eq rfl | exact .data rfl) ?_)) (by repeat (first | exact obs_nil | refine obs_cons rfl (o_eq rfl) ?_)) rfl
    ·
     omega
  ·
   obtain rfl := rng_ge (l := l) (by simpa using hc1) hi
   refine awp_exit ?_
   refine xsr ?_
   refine xlz (o_mvD rfl rfl rfl rfl) ?_
   refine xlz (o_call (c86 (avS (l.take l.length)) (by rw [List.take_length]; have := avS_len l; omega)) rfl rfl rfl ca86 rfl rfl) ?_
   refine las rfl rfl rfl rfl rfl ?_
   refine lendF ?_
   refine awp_ret ?_
   refine ⟨[_], ⟨rfl, trivial⟩, ?_⟩
   exact ent_d1 rfl (by rw [List.take_length, hl2])

end Go.Pm

namespace Go.Pm
open Go.Proofs

set_option maxRecDepth 10000 in
set_option maxHeartbeats 2000000 in
theorem c51 (R : List Rls) (G : Grp) (ss : List Sel) (hs : ss.length ≤ 1000000) : Fn PR 51 [.agg [.map 1000000, .map 1000001], .d (selsD ss)] [(1000000, .map (relM R) []), (1000001, .map (grpD G) [])] [.d (relsD (selF R ss).1), .d (I (selF R ss).2)] [(1000000, .map (relM R) []), (1000001, .map (grpD G) [])] := by
 refine fn_of_awp Tryz.func51 rfl (N := 51) rfl ?_
 refine xsr ?_
 refine xlz (op_box rfl rfl (by decide) rfl rfl) ?_
 iterate 2 refine las rfl rfl rfl rfl rfl ?_
 refine lendF ?_
 refine awp_seq ?_
 refine xsr ?_
 refine las rfl rfl rfl rfl rfl ?_
 refine lendF ?_
 refine awp_block ?_
 refine awp_loop (fun i => ⟨51, [(6, .d (I (i : Nat))), (1, .d (selsD ss)), (2, .ptr 2 0)], [(2, .cells [.map 1000000, .map 1000001]), (1000001, .map (grpD G) []), (1000000, .map (relM R) [])]⟩) (fun i => ss.length - i) (fun i => 1 ≤ i ∧ incr (ss.drop (i - 1)) = incr ss) 1 ?_ ?_ ?_
 ·
  exact ent_k [] rfl rfl ((by repeat (first | exact .nil | refine xkc ?_))) (obs_cons rfl (o_eq rfl) (obs_cons rfl (o_eq rfl) (obs_cons rfl (o_eq rfl) obs_nil))) rfl
 ·
  exact ⟨Nat.le_refl _, rfl⟩
 ·
  rintro i ⟨hi, hI⟩
  refine awp_seq ?_
  refine xsr ?_
  iterate 2 refine lmv rfl rfl rfl rfl rfl ?_
  refine xlz (o_lenE (n := ss.length) rfl rfl rfl ty27 (by simp)) ?_
  refine xlz (op_binI rfl rfl rfl rfl rfl (.inl rfl) rfl) ?_
  refine lendF ?_
  refine awp_cond rfl rfl (fun hc1 => ?_) (fun hc1 => ?_)
  ·
   obtain ⟨x, hn⟩ := rng_lt (l := ss) (by simpa using hc1)
   have hlt := rng_le hn
   obtain ⟨y, hm⟩ := get_pred hn
   refine awp_skip ?_
   refine awp_seq ?_
   refine awp_block ?_
   refine xsr ?_
   iterate 2 refine lmv rfl rfl rfl rfl rfl ?_
   refine xlz (o_sub rfl rfl rfl rfl (by first | omega | (simp; omega) | (simp at *; omega))) ?_
   refine xlz (o_ixN ((i - 1)) rfl rfl rfl rfl ty27 (by first | rfl | omega | (simp; done) | (simp; omega)) hm ty54) ?_
   refine xlz (op_fieldC rfl rfl rfl fl54_0) ?_
   refine xlz (op_loadC1 rfl rfl rfl ty9 rfl rfl) ?_
   iterate 2 refine lmv rfl rfl rfl rfl rfl ?_
   refine xlz (o_ixN (i) rfl rfl rfl rfl ty27 (by first | rfl | omega | (simp; done) | (simp; omega)) hn ty54) ?_
   refine xlz (op_fieldC rfl rfl rfl fl54_0) ?_
   refine xlz (op_loadC1 rfl rfl rfl ty9 rfl rfl) ?_
   refine xlz (op_binS rfl rfl rfl rfl rfl (fun h => by first | cases h | (simp; omega)) rfl) ?_
   refine lend (fun _ => by kernel_rfl) ?_
   refine awp_cond rfl rfl (fun hc2 => ?_) (fun hc2 => ?_)
   ·
    have hb : Op.bytesLess y.path x.path = false := by simpa using hc2
    have hinc : incr ss = false := by rw [← hI, incr_step hn hm hi, hb]; rfl
    refine xsr ?_
    iterate 2 refine las rfl rfl rfl rfl rfl ?_
    refine lendF ?_
    refine awp_ret ?_
    refine ⟨[_, _], ⟨rfl, rfl, trivial⟩, ?_⟩
    rw [selF_1 hinc]
    exact ent_k [] rfl rfl (.cons rfl (.data rfl) <| .cons rfl (k_eq rfl) .nil) (obs_cons rfl (o_eq rfl) (obs_cons rfl (o_eq rfl) obs_nil)) rfl
   ·
    have hb : Op.bytesLess y.path x.path = true := by simpa using hc2
    refine awp_skip ?_
    refine awp_region mixed ?_
    refine lmv rfl rfl rfl rfl rfl ?_
    refine xlz (o_add rfl rfl rfl rfl (by first | omega | (simp; omega) | (simp at *; omega))) ?_
    refine las rfl rfl rfl rfl rfl ?_
    refine lendF ?_
    refine ⟨i + 1, ?_, ?_, ?_⟩
    ·
     exact ⟨by omega, by rw [← hI, incr_step hn hm hi, Nat.add_sub_cancel, hb]; rfl⟩
    ·
     exact ent_k [] rfl rfl ((by repeat (first | exact .nil | refine xkc ?_))) (obs_cons rfl (o_eq rfl) (obs_cons rfl (o_eq rfl) (obs_cons rfl (o_eq rfl) obs_nil))) rfl
    ·
     omega
  ·
   have hge : ss.length ≤ i := by simpa using hc1
   have hinc : incr ss = true := by rw [← hI, incr_end hge hi]
   refine awp_exit ?_
   refine xsr ?_
   refine las rfl rfl rfl rfl rfl ?_
   refine lendF ?_
   refine awp_seq ?_
   refine xsr ?_
   refine lmv rfl rfl rfl rfl rfl ?_
   refine xlz (o_lenE (n := ss.length) rfl rfl rfl ty27 (by simp)) ?_
   refine lmv rfl rfl rfl rfl rfl ?_
   refine lendF ?_
   refine awp_block ?_
   refine awp_ent (ent_tail 7 500007 9 rfl rfl rfl (by decide)) ?_
   refine awp_loop (fun i => ⟨51, [(7, .tl (((ss.take i).map (getK R)).map Rls.d) (some 500007)), (32, .d (I (i : Nat))), (2, .ptr 2 0), (30, .d (selsD ss)), (31, .d (I ss.length))], [(500007, .tail 9), (2, .cells [.map 1000000, .map 1000001]), (1000001, .map (grpD G) []), (1000000, .map (relM R) [])]⟩) (fun i => ss.length - i) (fun i => i ≤ ss.length ∧ (ss.drop i).all (hasK R) = ss.all (hasK R)) 0 ?_ ?_ ?_
   ·
    exact ent_k [] rfl rfl ((by repeat (first | exact .nil | refine xkc ?_))) (obs_cons rfl (o_eq rfl) (obs_cons rfl (o_eq rfl) (obs_cons rfl (o_eq rfl) (obs_cons rfl (o_eq rfl) obs_nil)))) rfl
   ·
    exact ⟨Nat.zero_le _, rfl⟩
   ·
    rintro i ⟨hi, hI⟩
    refine xsr ?_
    refine xlz (op_binI rfl rfl rfl rfl rfl (.inl rfl) rfl) ?_
    refine lendF ?_
    refine awp_seq ?_
    refine awp_cond rfl rfl (fun hc3 => ?_) (fun hc3 => ?_)
    ·
     obtain ⟨k, hn⟩ := rng_lt (l := ss) (by simpa using hc3)
     have hlt := rng_le hn
     obtain ⟨q, hq⟩ : ∃ q, q = getK R k := ⟨_, rfl⟩
     refine awp_skip ?_
     refine awp_seq ?_
     refine awp_block ?_
     refine xsr ?_
     refine xlz (o_ixN (i) rfl rfl rfl rfl ty27 (by first | rfl | omega | (simp; done) | (simp; omega)) hn ty54) ?_
     refine xlz (op_loadCA rfl rfl rfl ty54 rfl (xlb rfl)) ?_
     refine xlz (op_alloc rfl rfl (by decide) ty54 zk54 rfl) ?_
     refine xlz (op_store rfl rfl rfl rfl rfl rfl ty54 rfl (xlb rfl)) ?_
     refine lendF ?_
     refine xsr ?_
     refine xlz (op_fieldP rfl rfl rfl fl82_0) ?_
     refine xlz (op_load1 rfl rfl rfl rfl ty79 rfl rfl) ?_
     refine xlz (o_ldA rfl rfl rfl rfl ty54 rfl (xlb rfl) rfl) ?_
     refine xlz (op_lookup2D rfl rfl rfl rfl rfl rfl ty79 ty54 es54 ty40 rfl rfl (ks_rel _) (show _ = some q.d from by rw [hq]; exact getX_k R k) (hasX_rel _ k)) ?_
     refine lmv rfl rfl rfl rfl rfl ?_
     refine xlz (op_extract rfl rfl rfl rfl) ?_
     refine xlz (op_extract rfl rfl rfl rfl) ?_
     refine xlz (op_alloc rfl rfl (by decide) ty40 zk40 rfl) ?_
     refine xlz (op_store rfl rfl rfl rfl rfl rfl ty40 rfl (xlb rfl)) ?_
     refine las rfl rfl rfl rfl rfl ?_
     refine lendF ?_
     refine awp_seq ?_
     refine xsr ?_
     refine lmv rfl rfl rfl rfl rfl ?_
     refine xlz (op_not rfl rfl rfl) ?_
     refine lendF ?_
     refine awp_cond rfl rfl (fun hc4 => ?_) (fun hc4 => ?_)
     ·
      have hk : hasK R k = false := by simpa [hasK] using hc4
      have ha : ss.all (hasK R) = false := by rw [← hI, drop_cons hn]; simp [hk]
      refine xsr ?_
      iterate 2 refine las rfl rfl rfl rfl rfl ?_
      refine lendF ?_
      refine awp_ret ?_
      refine ⟨[_, _], ⟨rfl, rfl, trivial⟩, ?_⟩
      rw [selF_6 hinc ha]
      exact ent_k [] rfl rfl (.cons rfl (.data rfl) <| .cons rfl (k_eq rfl) .nil) (obs_cons rfl (o_eq rfl) (obs_cons rfl (o_eq rfl) obs_nil)) rfl
     ·
      have hk : hasK R k = true := by (have h := hc4); simp only [hasK]; simpa using h
      refine awp_skip ?_
      refine awp_region mixed ?_
      refine lmv rfl rfl rfl rfl rfl ?_
      refine xlz (o_ldA rfl rfl rfl rfl ty40 rfl (xlb rfl) rfl) ?_
      refine xlz (o_bs rfl rfl rfl rfl rfl ty22 ty40 rfl rfl) ?_
      refine xlz (o_app rfl rfl (by decide) rfl rfl rfl ty22 ty40 rfl (by decide) rfl (by intro d hd; obtain ⟨x, _, rfl⟩ := List.mem_map.1 hd; rfl) (by simp [D.cells]) (by simp; omega) (by decide) (show _ = ((ss.take (i + 1)).map (getK R)).map Rls.d from by rw [take_succ hn, hq]; simp)) ?_
      refine las rfl rfl rfl rfl rfl ?_
      refine lendF ?_
      refine awp_region mixed ?_
      refine xlz (o_add rfl rfl rfl rfl (by first | omega | (simp; omega) | (simp at *; omega))) ?_
      refine lmv rfl rfl rfl rfl rfl ?_
      refine lendF ?_
      refine ⟨i + 1, ?_, ?_, ?_⟩
      ·
       exact ⟨rng_le hn, by rw [← hI, drop_cons hn]; simp [hk]⟩
      ·
       exact ent_k [(500007, 48)] rfl rfl ((by repeat (first | exact .nil | refine xkc ?_))) (obs_cons rfl (o_eq rfl) (obs_cons rfl (o_eq rfl) (obs_cons rfl (o_eq rfl) (obs_cons rfl (o_eq rfl) obs_nil)))) rfl
      ·
       omega
    ·
     obtain rfl := rng_ge (l := ss) (by simpa using hc3) hi
     refine awp_exit ?_
     refine xsr ?_
     refine lmv rfl rfl rfl rfl rfl ?_
     iterate 2 refine las rfl rfl rfl rfl rfl ?_
     refine lendF ?_
     refine awp_ret ?_
     refine ⟨[_, _], ⟨rfl, rfl, trivial⟩, ?_⟩
     rw [selF_0 hinc (by rw [← hI, List.drop_length]; rfl)]
     exact ent_k [] rfl rfl (.cons rfl (.data (by rw [List.take_length]; rfl)) <| .cons rfl (k_eq rfl) .nil) (obs_cons rfl (ko_rel rfl) (obs_cons rfl (o_eq rfl) obs_nil)) rfl

end Go.Pm

namespace Go.Pm
open Go.Proofs

set_option maxRecDepth 10000 in
theorem c23tn  : Fn PR 23 [.nils] [] [.tl [] (some 0)] [(0, .tail 2)] := by
 refine fn_of_awp Tryz.func23 rfl (N := 8) rfl ?_
 refine xsr ?_
 refine las rfl rfl rfl rfl rfl ?_
 refine lendF ?_
 refine awp_seq ?_
 refine xsr ?_
 refine lmv rfl rfl rfl rfl rfl ?_
 refine xlz (op_nilS rfl (.inl rfl) rfl rfl rfl rfl ty26 rfl) ?_
 refine lendF ?_
 refine awp_condT rfl rfl rfl ?_
 refine xsr ?_
 refine las rfl rfl rfl rfl rfl ?_
 refine lendF ?_
 refine awp_ret ?_
 refine ⟨[_], ⟨rfl, trivial⟩, ?_⟩
 exact (ent_tail (s := St.of [.nils] []) 0 0 2 rfl rfl rfl (by decide)).trans (ent_k [] rfl rfl (.cons rfl (k_eq rfl) .nil) (obs_cons rfl (o_eq rfl) obs_nil) rfl)

set_option maxRecDepth 10000 in
theorem c23tf (s : List Req) (hs : s.length ≤ 1000000) : Fn PR 23 [.nn (s.map Req.d)] [] [.tl (s.map Req.d) (some 0)] [(0, .tail 2)] := by
 refine fn_of_awp Tryz.func23 rfl (N := 8) rfl ?_
 refine xsr ?_
 refine las rfl rfl rfl rfl rfl ?_
 refine lendF ?_
 refine awp_seq ?_
 refine xsr ?_
 refine lmv rfl rfl rfl rfl rfl ?_
 refine xlz (op_nilS rfl (.inl rfl) rfl rfl rfl rfl ty26 rfl) ?_
 refine lendF ?_
 refine awp_condF rfl rfl rfl ?_
 refine awp_skip ?_
 refine xsr ?_
 refine xlz (o_bs rfl rfl rfl rfl rfl ty26 ty51 rfl rfl) ?_
 refine lmv rfl rfl rfl rfl rfl ?_
 refine xlz (o_app rfl rfl (by decide) rfl rfl rfl ty26 ty51 rfl (by decide) rfl (by simp) (by intro d hd; obtain ⟨x, _, rfl⟩ := List.mem_map.1 hd; rfl) (by simp; omega) (by decide) rfl) ?_
 refine las rfl rfl rfl rfl rfl ?_
 refine lendF ?_
 refine awp_ret ?_
 refine ⟨[_], ⟨rfl, trivial⟩, ?_⟩
 exact ent_k [(0, 7)] rfl rfl (.cons rfl (k_tl rfl rfl) .nil) (obs_cons rfl (o_eq rfl) obs_nil) rfl
theorem c23t (s : List Req) (hs : s.length ≤ 1000000) : Fn PR 23 [.d (reqsD s)] [] [.tl (s.map Req.d) (some 0)] [(0, .tail 2)] := fn_nil (fun h => by have : s = [] := List.map_eq_nil_iff.1 h; subst this; exact c23tn) (c23tf s hs)

set_option maxRecDepth 10000 in
set_option maxHeartbeats 2000000 in
theorem c52 (L : List Rls) (q : Req) (hq : q.Sm) : Fn PR 52 [.d q.d, .ptr 1000000 0] [(1000000, .cells [.map 1000001]), (1000001, .map (chM L) [])] [.d (.bool (unsat L q))] [(1000000, .cells [.map 1000001]), (1000001, .map (chM L) [])] := by
 refine fn_of_awp Tryz.func52 rfl (N := 23) rfl ?_
 obtain ⟨r, hr⟩ : ∃ r, r = getP L q.path := ⟨_, rfl⟩
 refine xsr ?_
 refine xlz (op_box rfl rfl (by decide) rfl rfl) ?_
 refine las rfl rfl rfl rfl rfl ?_
 refine lendF ?_
 refine xsr ?_
 refine xlz (op_load1 rfl rfl rfl rfl ty92 rfl rfl) ?_
 refine xlz (op_fieldP rfl rfl rfl fl51_0) ?_
 refine xlz (op_load1 rfl rfl rfl rfl ty9 rfl rfl) ?_
 refine xlz (op_lookup2D rfl rfl rfl rfl rfl rfl ty92 ty9 es9 ty40 rfl rfl (ks_ch _) (show _ = some r.d from by rw [hr]; exact getX_ch L q.path) (hasX_ch _ q.path)) ?_
 refine lmv rfl rfl rfl rfl rfl ?_
 refine xlz (op_extract rfl rfl rfl rfl) ?_
 refine xlz (op_extract rfl rfl rfl rfl) ?_
 refine xlz (op_alloc rfl rfl (by decide) ty40 zk40 rfl) ?_
 refine xlz (op_store rfl rfl rfl rfl rfl rfl ty40 rfl (xlb rfl)) ?_
 refine las rfl rfl rfl rfl rfl ?_
 refine lendF ?_
 refine xsr ?_
 refine lmv rfl rfl rfl rfl rfl ?_
 refine xlz (op_not rfl rfl rfl) ?_
 refine lmv rfl rfl rfl rfl rfl ?_
 refine lsplit rfl (fun hg1 => ?_) (fun hg1 => ?_)
 ·
  refine lg (op_fieldP rfl rfl rfl fl51_1) rfl hg1 rfl rfl ?_
  refine lg (op_load1 rfl rfl rfl rfl ty49 rfl rfl) rfl hg1 rfl rfl ?_
  refine lg (o_ldA rfl rfl rfl rfl ty40 rfl (xlb rfl) rfl) rfl hg1 rfl rfl ?_
  refine lg (o_call (c48 r) rfl rfl rfl ca48 rfl rfl) rfl hg1 rfl rfl ?_
  refine lg (o_call (c28 q.set (placeOf r.ver).1 (by have := hq.set; omega)) rfl rfl rfl ca28 rfl rfl) rfl hg1 rfl rfl ?_
  refine lg (op_not rfl rfl rfl) rfl hg1 rfl rfl ?_
  refine xlz (o_pF rfl rfl (g01 hg1) rfl rfl) ?_
  refine las rfl rfl rfl rfl rfl ?_
  refine lend (fun _ => by kernel_rfl) ?_
  refine awp_ret ?_
  refine ⟨[_], ⟨rfl, trivial⟩, ?_⟩
  exact ent_k [] rfl rfl (.cons rfl (k_b (by simp_all [unsat])) .nil) (obs_cons rfl (o_eq rfl) (obs_cons rfl (o_eq rfl) obs_nil)) rfl
 ·
  iterate 6 refine lskip rfl hg1 rfl ?_
  refine xlz (o_pT rfl rfl (g00 hg1) rfl rfl) ?_
  refine las rfl rfl rfl rfl rfl ?_
  refine lend (fun _ => by kernel_rfl) ?_
  refine awp_ret ?_
  refine ⟨[_], ⟨rfl, trivial⟩, ?_⟩
  exact ent_k [] rfl rfl (.cons rfl (k_b (by simp_all [unsat])) .nil) (obs_cons rfl (o_eq rfl) (obs_cons rfl (o_eq rfl) obs_nil)) rfl

set_option maxRecDepth 10000 in
theorem c79 (L : List Rls) (l : List Req) (hl : l.length < 4611686018427387904) (hq : ∀ q ∈ l, q.Sm) : Fn PR 79 [.d (reqsD l), .fn (.func 52) [] [.ptr 1000000 0]] [(1000000, .cells [.map 1000001]), (1000001, .map (chM L) [])] [.d (I (ixG (unsat L) l 0))] [(1000000, .cells [.map 1000001]), (1000001, .map (chM L) [])] := by
 refine fn_of_awp Tryz.func79 rfl (N := 19) rfl ?_
 refine xsr ?_
 refine las rfl rfl rfl rfl rfl ?_
 refine lendF ?_
 refine awp_seq ?_
 refine xsr ?_
 refine lmv rfl rfl rfl rfl rfl ?_
 refine xlz (o_lenE (n := l.length) rfl rfl rfl ty26 (by simp)) ?_
 refine lmv rfl rfl rfl rfl rfl ?_
 refine lendF ?_
 refine awp_block ?_
 refine awp_loop (fun i => ⟨19, [(8, .d (I (i : Nat))), (0, .d (reqsD l)), (1, .fn (.func 52) [] [.ptr 1000000 0]), (7, .d (I l.length))], [(1000000, .cells [.map 1000001]), (1000001, .map (chM L) [])]⟩) (fun i => l.length - i) (fun i => i ≤ l.length ∧ ixG (unsat L) (l.drop i) i = ixG (unsat L) l 0) 0 ?_ ?_ ?_
 ·
  exact ent_k [] rfl rfl ((by repeat (first | exact .nil | refine xkc ?_))) (obs_cons rfl (o_eq rfl) (obs_cons rfl (o_eq rfl) obs_nil)) rfl
 ·
  exact ⟨Nat.zero_le _, rfl⟩
 ·
  rintro i ⟨hi, hI⟩
  refine xsr ?_
  refine xlz (op_binI rfl rfl rfl rfl rfl (.inl rfl) rfl) ?_
  refine lendF ?_
  refine awp_seq ?_
  refine awp_cond rfl rfl (fun hc1 => ?_) (fun hc1 => ?_)
  ·
   obtain ⟨x, hn⟩ := rng_lt (l := l) (by simpa using hc1)
   have hlt := rng_le hn
   have hmem := List.mem_of_getElem? hn
   refine awp_skip ?_
   refine awp_seq ?_
   refine awp_block ?_
   refine xsr ?_
   refine lmv rfl rfl rfl rfl rfl ?_
   refine las rfl rfl rfl rfl rfl ?_
   refine lendF ?_
   refine xsr ?_
   iterate 3 refine lmv rfl rfl rfl rfl rfl ?_
   refine xlz (o_ixN (i) rfl rfl rfl rfl ty26 (by first | rfl | omega | (simp; done) | (simp; omega)) hn ty51) ?_
   refine xlz (op_loadCA rfl rfl rfl ty51 rfl (xlb rfl)) ?_
   refine xlz (o_callR [1000000, 1000001] (c52 L x (hq x hmem)) rfl rfl rfl ca52 rfl (by decide) (handOK_cons (by decide) (by decide) rfl rfl (handOK_cons (by decide) (by decide) rfl rfl handOK_nil)) rfl) ?_
   refine lendF ?_
   refine awp_cond rfl rfl (fun hc2 => ?_) (fun hc2 => ?_)
   ·
    refine xsr ?_
    refine lmv rfl rfl rfl rfl rfl ?_
    refine las rfl rfl rfl rfl rfl ?_
    refine lendF ?_
    refine awp_ret ?_
    refine ⟨[_], ⟨rfl, trivial⟩, ?_⟩
    exact ent_k [] rfl rfl (.cons rfl (k_i (by rw [← hI, drop_cons hn, ixG_yes hc2])) .nil) (obs_cons rfl (o_eq rfl) (obs_cons rfl (o_eq rfl) obs_nil)) rfl
   ·
    refine awp_skip ?_
    refine awp_region mixed ?_
    refine xlz (o_add rfl rfl rfl rfl (by first | omega | (simp; omega) | (simp at *; omega))) ?_
    refine lmv rfl rfl rfl rfl rfl ?_
    refine lendF ?_
    refine ⟨i + 1, ?_, ?_, ?_⟩
    ·
     exact ⟨rng_le hn, by rw [← hI, drop_cons hn, ixG_no hc2]⟩
    ·
     exact ent_k [] rfl rfl ((by repeat (first | exact .nil | refine xkc ?_))) (obs_cons rfl (o_eq rfl) (obs_cons rfl (o_eq rfl) obs_nil)) rfl
    ·
     omega
  ·
   obtain rfl := rng_ge (l := l) (by simpa using hc1) hi
   refine awp_exit ?_
   refine xsr ?_
   refine las rfl rfl rfl rfl rfl ?_
   refine lendF ?_
   refine awp_ret ?_
   refine ⟨[_], ⟨rfl, trivial⟩, ?_⟩
   exact ent_k [] rfl rfl (.cons rfl (k_i (by rw [← hI]; simp [ixG])) .nil) (obs_cons rfl (o_eq rfl) (obs_cons rfl (o_eq rfl) obs_nil)) rfl

set_option maxRecDepth 10000 in
theorem c26 (L : List Rls) (l : List Req) (hl : l.length < 4611686018427387904) (hq : ∀ q ∈ l, q.Sm) : Fn PR 26 [.d (reqsD l), .fn (.func 52) [] [.ptr 1000000 0]] [(1000000, .cells [.map 1000001]), (1000001, .map (chM L) [])] [.d (.bool (l.any (unsat L)))] [(1000000, .cells [.map 1000001]), (1000001, .map (chM L) [])] := by
 refine fn_of_awp Tryz.func26 rfl (N := 9) rfl ?_
 refine xsr ?_
 refine las rfl rfl rfl rfl rfl ?_
 refine lendF ?_
 refine xsr ?_
 iterate 2 refine lmv rfl rfl rfl rfl rfl ?_
 refine xlz (o_callR [1000000, 1000001] (c79 L l hl hq) rfl rfl rfl ca79 rfl (by decide) (handOK_cons (by decide) (by decide) rfl rfl (handOK_cons (by decide) (by decide) rfl rfl handOK_nil)) rfl) ?_
 refine xlz (op_binI rfl rfl rfl rfl rfl (.inl rfl) rfl) ?_
 refine las rfl rfl rfl rfl rfl ?_
 refine lendF ?_
 refine awp_ret ?_
 refine ⟨[_], ⟨rfl, trivial⟩, ?_⟩
 exact ent_k [] rfl rfl (.cons rfl (k_b (by rw [← ixG_any])) .nil) (obs_cons rfl (o_eq rfl) (obs_cons rfl (o_eq rfl) obs_nil)) rfl

end Go.Pm

namespace Go.Pm
open Go.Proofs

set_option maxRecDepth 10000 in
set_option maxHeartbeats 4000000 in
theorem c15 (x : Idx) (hl : x.rels.length < 4611686018427387904) (hr : ∀ r ∈ x.rels, r.Sm) (needs : List Req) (ss : List Sel) (hq : ∀ q ∈ needs, q.Sm) (hn : needs.length ≤ 1000000) (hs : ss.length ≤ 1000000) : Fn PR 15 [.d x.d, .d (reqsD needs), .d (selsD ss)] [] [.d (I (solI x needs ss))] [] := by
 refine fn_of_awp Tryz.func15 rfl (N := 93) rfl ?_
 obtain ⟨L, hL⟩ : ∃ L, L = (selF (okR x) ss).1 := ⟨_, rfl⟩
 refine xsr ?_
 refine xlz (op_box rfl rfl (by decide) rfl rfl) ?_
 refine las rfl rfl rfl rfl rfl ?_
 refine lendF ?_
 refine xsr ?_
 refine xlz (o_ldA rfl rfl rfl rfl ty25 rfl (xlb rfl) rfl) ?_
 refine xlz (o_callX (p := .tup [.agg [.map 1021, .map 2021], .d (I (checkI x.rels))]) (news := [1021, 2021]) (upd := [(1021, some (.map (relM (okR x)) [])), (2021, some (.map (grpD (grpOf (okR x))) []))]) [] 21 (c46 x hl hr) rfl rfl rfl ca46 rfl (by decide) handOK_nil rfl rfl rfl rfl (by kernel_rfl) (by kernel_rfl) (by kernel_rfl)) ?_
 refine lmv rfl rfl rfl rfl rfl ?_
 refine xlz (op_extract rfl rfl rfl rfl) ?_
 refine xlz (op_extract rfl rfl rfl rfl) ?_
 refine xlz (op_alloc rfl rfl (by decide) ty82 zk82 rfl) ?_
 refine xlz (op_store rfl rfl rfl rfl rfl rfl ty82 rfl (xlb rfl)) ?_
 refine las rfl rfl rfl rfl rfl ?_
 refine lendF ?_
 refine awp_seq ?_
 refine xsr ?_
 refine lmv rfl rfl rfl rfl rfl ?_
 refine xlz (op_binI rfl rfl rfl rfl rfl (.inl rfl) rfl) ?_
 refine lendF ?_
 refine awp_cond rfl rfl (fun hc1 => ?_) (fun hc1 => ?_)
 ·
  have h1 : solI x needs ss = 1 := by unfold solI; rw [if_pos (by simpa using hc1)]
  refine xsr ?_
  refine las rfl rfl rfl rfl rfl ?_
  refine lendF ?_
  refine awp_ret ?_
  refine ⟨[_], ⟨rfl, trivial⟩, ?_⟩
  exact ent_i rfl h1.symm
 ·
  have h0 : checkI x.rels = 0 := by simpa using hc1
  refine awp_skip ?_
  refine xsr ?_
  refine xlz (op_loadA rfl rfl rfl rfl ty82 rfl (xlb rfl)) ?_
  refine lmv rfl rfl rfl rfl rfl ?_
  refine xlz (o_callR [1021, 2021] (c51 (okR x) (grpOf (okR x)) ss hs) rfl rfl rfl ca51 rfl (by decide) (handOK_cons (by decide) (by decide) rfl rfl (handOK_cons (by decide) (by decide) rfl rfl handOK_nil)) rfl) ?_
  refine lmv rfl rfl rfl rfl rfl ?_
  refine xlz (o_v (op_extract rfl rfl rfl rfl) (show _ = PV.d (relsD L) from by rw [hL]; rfl)) ?_
  refine xlz (op_extract rfl rfl rfl rfl) ?_
  iterate 2 refine las rfl rfl rfl rfl rfl ?_
  refine lendF ?_
  refine awp_seq ?_
  refine xsr ?_
  refine lmv rfl rfl rfl rfl rfl ?_
  refine xlz (op_binI rfl rfl rfl rfl rfl (.inl rfl) rfl) ?_
  refine lendF ?_
  refine awp_cond rfl rfl (fun hc2 => ?_) (fun hc2 => ?_)
  ·
   have h2 : solI x needs ss = (selF (okR x) ss).2 := by unfold solI; rw [if_neg (by simpa using h0), if_pos (by simpa using hc2)]
   refine xsr ?_
   refine lmv rfl rfl rfl rfl rfl ?_
   refine las rfl rfl rfl rfl rfl ?_
   refine lendF ?_
   refine awp_ret ?_
   refine ⟨[_], ⟨rfl, trivial⟩, ?_⟩
   exact ent_i rfl h2.symm
  ·
   have h2 : (selF (okR x) ss).2 = 0 := by simpa using hc2
   have hz : ∀ r ∈ L, r.Sm ∧ r.reqs.length ≤ 16 := fun r h => by rw [hL] at h; have := okR_mem (selF_mem h2 r h); exact ⟨hr r this.1, relE_reqs this.2⟩
   have hLl : L.length ≤ 1000000 := by rw [hL, (selF_ok h2).2.2]; simpa using hs
   have hpth : ∀ {i : Nat} {z : Rls}, L[i]? = some z → ∀ r ∈ L.take i, r.path ≠ z.path := by rw [hL]; exact fun h => selF_paths h2 h
   have hsol : solI x needs ss = (if L.any (fun r => r.reqs.any (unsat L)) then 17 else if needs.any (unsat L) then 17 else if (reachW L needs).length < L.length then 8 else 0) := by unfold solI; rw [if_neg (by simpa using h0), if_neg (by simpa using h2), ← hL]
   refine awp_skip ?_
   refine xsr ?_
   refine xlz (op_makeMap rfl rfl (by decide)) ?_
   refine xlz (op_alloc rfl rfl (by decide) ty92 zk92 rfl) ?_
   refine xlz (op_store rfl rfl rfl rfl rfl rfl ty92 rfl (xlb rfl)) ?_
   refine lendF ?_
   refine awp_seq ?_
   refine xsr ?_
   refine lmv rfl rfl rfl rfl rfl ?_
   refine xlz (o_lenE (n := L.length) rfl rfl rfl ty22 (by simp)) ?_
   refine lmv rfl rfl rfl rfl rfl ?_
   refine lendF ?_
   refine awp_block ?_
   refine awp_loop (fun i => ⟨93, [(38, .d (I (i : Nat))), (1, .d (reqsD needs)), (9, .d (relsD L)), (10, .ptr 10 0), (36, .d (relsD L)), (37, .d (I L.length))], [(35, .map (chM (L.take i)) []), (10, .cells [.map 35])]⟩) (fun i => L.length - i) (fun i => i ≤ L.length) 0 ?_ ?_ ?_
   ·
    exact ent_k [] rfl rfl ((by repeat (first | exact .nil | refine xkc ?_))) (obs_cons rfl (o_eq rfl) (obs_cons rfl (o_eq rfl) obs_nil)) rfl
   ·
    exact Nat.zero_le _
   ·
    rintro i hi
    refine xsr ?_
    refine xlz (op_binI rfl rfl rfl rfl rfl (.inl rfl) rfl) ?_
    refine lendF ?_
    refine awp_seq ?_
    refine awp_cond rfl rfl (fun hc3 => ?_) (fun hc3 => ?_)
    ·
     obtain ⟨z, hn⟩ := rng_lt (l := L) (by simpa using hc3)
     have hlt := rng_le hn
     refine awp_skip ?_
     refine awp_seq ?_
     refine awp_block ?_
     refine xsr ?_
     refine xlz (o_ixN (i) rfl rfl rfl rfl ty22 (by first | rfl | omega | (simp; done) | (simp; omega)) hn ty40) ?_
     refine xlz (op_loadCA rfl rfl rfl ty40 rfl (xlb rfl)) ?_
     refine xlz (op_alloc rfl rfl (by decide) ty40 zk40 rfl) ?_
     refine xlz (op_store rfl rfl rfl rfl rfl rfl ty40 rfl (xlb rfl)) ?_
     refine lendF ?_
     refine awp_region mixed ?_
     refine xlz (op_load1 rfl rfl rfl rfl ty92 rfl rfl) ?_
     refine xlz (op_fieldP rfl rfl rfl fl40_0) ?_
     refine xlz (op_load1 rfl rfl rfl rfl ty9 rfl rfl) ?_
     refine xlz (o_ldA rfl rfl rfl rfl ty40 rfl (xlb rfl) rfl) ?_
     refine xlz (op_mapUpdate rfl rfl rfl rfl rfl rfl rfl rfl ty92 ty9 es9 rfl (ks_ch _) (show _ = ments (chM (L.take (i + 1))) [] from (putX_ch (hpth hn)).trans (by rw [take_succ hn]))) ?_
     refine lendF ?_
     refine awp_region mixed ?_
     refine xlz (o_add rfl rfl rfl rfl (by first | omega | (simp; omega) | (simp at *; omega))) ?_
     refine lmv rfl rfl rfl rfl rfl ?_
     refine lendF ?_
     refine ⟨i + 1, ?_, ?_, ?_⟩
     ·
      exact rng_le hn
     ·
      exact ent_k [] rfl rfl ((by repeat (first | exact .nil | refine xkc ?_))) (obs_cons rfl (o_eq rfl) (obs_cons rfl (o_eq rfl) obs_nil)) rfl
     ·
      omega
    ·
     obtain rfl := rng_ge (l := L) (by simpa using hc3) hi
     refine awp_exit ?_
     refine xsr ?_
     refine xlz (op_fn rfl rfl rfl rfl rfl) ?_
     refine las rfl rfl rfl rfl rfl ?_
     refine lendF ?_
     refine awp_seq ?_
     refine xsr ?_
     refine lmv rfl rfl rfl rfl rfl ?_
     refine xlz (o_lenE (n := L.length) rfl rfl rfl ty22 (by simp)) ?_
     refine lmv rfl rfl rfl rfl rfl ?_
     refine lendF ?_
     refine awp_block ?_
     refine awp_loop (fun i => ⟨93, [(50, .d (I (i : Nat))), (1, .d (reqsD needs)), (9, .d (relsD L)), (10, .ptr 10 0), (13, .fn (.func 52) [] [.ptr 10 0]), (48, .d (relsD L)), (49, .d (I L.length))], [(35, .map (chM L) []), (10, .cells [.map 35])]⟩) (fun i => L.length - i) (fun i => i ≤ L.length ∧ (L.drop i).any (fun r => r.reqs.any (unsat L)) = L.any (fun r => r.reqs.any (unsat L))) 0 ?_ ?_ ?_
     ·
      exact ent_k [] rfl rfl ((by repeat (first | exact .nil | refine xkc ?_))) (obs_cons rfl (by rw [List.take_length]; exact o_eq rfl) (obs_cons rfl (o_eq rfl) obs_nil)) rfl
     ·
      exact ⟨Nat.zero_le _, rfl⟩
     ·
      rintro i ⟨hi, hI⟩
      refine xsr ?_
      refine xlz (op_binI rfl rfl rfl rfl rfl (.inl rfl) rfl) ?_
      refine lendF ?_
      refine awp_seq ?_
      refine awp_cond rfl rfl (fun hc4 => ?_) (fun hc4 => ?_)
      ·
       obtain ⟨z, hn⟩ := rng_lt (l := L) (by simpa using hc4)
       have hlt := rng_le hn
       have hmem := List.mem_of_getElem? hn
       refine awp_skip ?_
       refine awp_seq ?_
       refine awp_block ?_
       refine xsr ?_
       refine xlz (o_ixN (i) rfl rfl rfl rfl ty22 (by first | rfl | omega | (simp; done) | (simp; omega)) hn ty40) ?_
       refine xlz (op_loadCA rfl rfl rfl ty40 rfl (xlb rfl)) ?_
       refine xlz (op_alloc rfl rfl (by decide) ty40 zk40 rfl) ?_
       refine xlz (op_store rfl rfl rfl rfl rfl rfl ty40 rfl (xlb rfl)) ?_
       refine lendF ?_
       refine xsr ?_
       refine xlz (op_fieldP rfl rfl rfl fl40_2) ?_
       refine xlz (op_load1 rfl rfl rfl rfl ty26 rfl rfl) ?_
       refine lmv rfl rfl rfl rfl rfl ?_
       refine xlz (o_callR [10, 35] (c26 L z.reqs (by have := (hz z hmem).2; omega) (hz z hmem).1.reqs) rfl rfl rfl ca26 rfl (by decide) (handOK_cons (by decide) (by decide) rfl rfl (handOK_cons (by decide) (by decide) rfl rfl handOK_nil)) rfl) ?_
       refine lendF ?_
       refine awp_cond rfl rfl (fun hc5 => ?_) (fun hc5 => ?_)
       ·
        have hA : L.any (fun r => r.reqs.any (unsat L)) = true := by rw [← hI, drop_cons hn, List.any_cons, hc5]; rfl
        refine xsr ?_
        refine las rfl rfl rfl rfl rfl ?_
        refine lendF ?_
        refine awp_ret ?_
        refine ⟨[_], ⟨rfl, trivial⟩, ?_⟩
        first | exact ent_i rfl (by rw [hsol, if_pos hA]) | exact ent_i rfl (by rw [hsol, hA, hB]; rfl) | exact ent_i rfl (by rw [hsol, hA, hB, if_pos hC]; rfl) | exact ent_i rfl (by rw [hsol, hA, hB, if_neg hC]; rfl)
       ·
        refine awp_skip ?_
        refine awp_region mixed ?_
        refine xlz (o_add rfl rfl rfl rfl (by first | omega | (simp; omega) | (simp at *; omega))) ?_
        refine lmv rfl rfl rfl rfl rfl ?_
        refine lendF ?_
        refine ⟨i + 1, ?_, ?_, ?_⟩
        ·
         exact ⟨rng_le hn, by rw [← hI, drop_cons hn, List.any_cons, hc5]; rfl⟩
        ·
         exact ent_k [] rfl rfl ((by repeat (first | exact .nil | refine xkc ?_))) (obs_cons rfl (o_eq rfl) (obs_cons rfl (o_eq rfl) obs_nil)) rfl
        ·
         omega
      ·
       obtain rfl := rng_ge (l := L) (by simpa using hc4) hi
       have hA : L.any (fun r => r.reqs.any (unsat L)) = false := by rw [← hI, List.drop_length]; rfl
       refine awp_exit ?_
       refine awp_seq ?_
       refine xsr ?_
       iterate 2 refine lmv rfl rfl rfl rfl rfl ?_
       refine xlz (o_callR [10, 35] (c26 L needs (by omega) hq) rfl rfl rfl ca26 rfl (by decide) (handOK_cons (by decide) (by decide) rfl rfl (handOK_cons (by decide) (by decide) rfl rfl handOK_nil)) rfl) ?_
       refine lendF ?_
       refine awp_cond rfl rfl (fun hc6 => ?_) (fun hc6 => ?_)
       ·
        have hB : needs.any (unsat L) = true := hc6
        refine xsr ?_
        refine las rfl rfl rfl rfl rfl ?_
        refine lendF ?_
        refine awp_ret ?_
        refine ⟨[_], ⟨rfl, trivial⟩, ?_⟩
        first | exact ent_i rfl (by rw [hsol, if_pos hA]) | exact ent_i rfl (by rw [hsol, hA, hB]; rfl) | exact ent_i rfl (by rw [hsol, hA, hB, if_pos hC]; rfl) | exact ent_i rfl (by rw [hsol, hA, hB, if_neg hC]; rfl)
       ·
        have hB : needs.any (unsat L) = false := by simpa using hc6
        have hF : mz L [] needs ≤ 17000000 := by have := restN_len (fun r h => (hz r h).2) []; unfold mz; omega
        refine awp_skip ?_
        refine xsr ?_
        refine xlz (op_makeMap rfl rfl (by decide)) ?_
        refine las rfl rfl rfl rfl rfl ?_
        refine lendF ?_
        refine xsr ?_
        refine lmv rfl rfl rfl rfl rfl ?_
        refine xlz (o_callX (p := .tl (needs.map Req.d) (some 1064)) (news := [1064]) (upd := [(1064, some (.tail 2))]) [] 64 (c23t needs hn) rfl rfl rfl ca23 rfl (by decide) handOK_nil rfl rfl rfl rfl (by kernel_rfl) (by kernel_rfl) (by kernel_rfl)) ?_
        refine las rfl rfl rfl rfl rfl ?_
        refine lendF ?_
        refine awp_seq ?_
        refine awp_block ?_
        refine awp_loop (fun v => ⟨93, [(17, .tl (v.2.2.map Req.d) (some 501064)), (9, .d (relsD L)), (10, .ptr 10 0), (16, .map 62)], [(62, .map (seenM v.2.1) []), (501064, .tail 2), (10, .cells [.map 35]), (35, .map (chM L) [])]⟩) (fun v => v.1) (fun v => mz L v.2.1 v.2.2 ≤ v.1 ∧ v.1 ≤ 17000000 ∧ wl L v.1 v.2.1 v.2.2 = wl L (mz L [] needs) [] needs) (mz L [] needs, [], needs) ?_ ?_ ?_
        ·
         exact ent_k [(501064, 1064)] rfl rfl ((by repeat (first | exact .nil | refine xkc ?_))) (obs_cons rfl (o_eq rfl) (obs_cons rfl (o_eq rfl) (obs_cons rfl (o_eq rfl) (obs_cons rfl (o_eq rfl) obs_nil)))) rfl
        ·
         exact ⟨Nat.le_refl _, hF, rfl⟩
        ·
         rintro ⟨f, seen, queue⟩ ⟨hf, hf2, hW⟩
         dsimp only at hf hf2 hW ⊢
         refine awp_seq ?_
         refine xsr ?_
         refine lmv rfl rfl rfl rfl rfl ?_
         refine xlz (op_len rfl rfl rfl ty26) ?_
         refine xlz (op_binI rfl rfl rfl rfl rfl (.inl rfl) rfl) ?_
         refine lendF ?_
         refine awp_cond rfl rfl (fun hc7 => ?_) (fun hc7 => ?_)
         ·
          obtain ⟨q, rest, rfl⟩ : ∃ q rest, queue = q :: rest := by cases queue with | nil => simp at hc7 | cons q rest => exact ⟨q, rest, rfl⟩
          obtain ⟨f, rfl⟩ : ∃ m, f = m + 1 := ⟨f - 1, by simp [mz] at hf; omega⟩
          have hq0 : (q :: rest)[0]? = some q := rfl
          obtain ⟨r0, hr0⟩ : ∃ r, r = getP L q.path := ⟨_, rfl⟩
          refine awp_skip ?_
          refine awp_block ?_
          refine xsr ?_
          refine lmv rfl rfl rfl rfl rfl ?_
          refine xlz (o_ixN (0) rfl rfl rfl rfl ty26 (by first | rfl | omega | (simp; done) | (simp; omega)) hq0 ty51) ?_
          refine xlz (op_loadCA rfl rfl rfl ty51 rfl (xlb rfl)) ?_
          refine xlz (op_alloc rfl rfl (by decide) ty51 zk51 rfl) ?_
          refine xlz (op_store rfl rfl rfl rfl rfl rfl ty51 rfl (xlb rfl)) ?_
          refine lendF ?_
          refine xsr ?_
          refine lmv rfl rfl rfl rfl rfl ?_
          refine xlz (op_sliceT rfl rfl (by decide) rfl rfl ty26 ty51 (by intro d hd; obtain ⟨x, _, rfl⟩ := List.mem_map.1 hd; rfl) (IsZ.isN (.some rfl rfl (n := 1) (by first | rfl | omega | (simp; done) | (simp; omega)))) rfl (by simp)) ?_
          refine las rfl rfl rfl rfl rfl ?_
          refine lendF ?_
          refine xsr ?_
          refine lmv rfl rfl rfl rfl rfl ?_
          refine xlz (op_fieldP rfl rfl rfl fl51_0) ?_
          refine xlz (op_load1 rfl rfl rfl rfl ty9 rfl rfl) ?_
          refine xlz (op_lookupD rfl rfl rfl rfl rfl rfl ty93 ty9 es9 ty4 rfl rfl (ks_seen _) (getX_seen seen q.path)) ?_
          refine xlz (op_not rfl rfl rfl) ?_
          refine lendF ?_
          refine awp_cond rfl rfl (fun hc8 => ?_) (fun hc8 => ?_)
          ·
           have hp : q.path ∉ seen := by simpa using hc8
           refine xsr ?_
           refine lmv rfl rfl rfl rfl rfl ?_
           refine xlz (op_fieldP rfl rfl rfl fl51_0) ?_
           refine xlz (op_load1 rfl rfl rfl rfl ty9 rfl rfl) ?_
           refine xlz (op_mapUpdate rfl rfl rfl rfl rfl rfl rfl rfl ty93 ty9 es9 rfl (ks_seen _) (putX_seen hp)) ?_
           refine lendF ?_
           have hst : r0.reqs.length ≤ restN L seen := by rw [hr0]; have := restN_step hp L; omega
           have hfm : f + 1 ≤ 17000000 := hf2
           refine awp_region mixed ?_
           refine lmv rfl rfl rfl rfl rfl ?_
           refine xlz (op_load1 rfl rfl rfl rfl ty92 rfl rfl) ?_
           refine xlz (op_fieldP rfl rfl rfl fl51_0) ?_
           refine xlz (op_load1 rfl rfl rfl rfl ty9 rfl rfl) ?_
           refine xlz (op_lookupD rfl rfl rfl rfl rfl rfl ty92 ty9 es9 ty40 rfl rfl (ks_ch _) (show _ = some r0.d from by rw [hr0]; exact getX_ch L q.path)) ?_
           refine xlz (op_fieldV rfl rfl rfl fl40v2 ty26 rfl rfl) ?_
           refine xlz (o_app rfl rfl (by decide) rfl rfl rfl ty26 ty51 rfl (by decide) rfl (by intro d hd; obtain ⟨x, _, rfl⟩ := List.mem_map.1 hd; rfl) (by intro d hd; obtain ⟨x, _, rfl⟩ := List.mem_map.1 hd; rfl) (by have := hst; simp [mz] at this hf ⊢; omega) (by decide) (show _ = (rest ++ r0.reqs).map Req.d from by simp)) ?_
           refine las rfl rfl rfl rfl rfl ?_
           refine lendF ?_
           refine ⟨(f, seen ++ [q.path], rest ++ r0.reqs), ?_, ?_, ?_⟩
           ·
            exact ⟨by have := restN_step hp L; rw [← hr0] at this; simp [mz] at hf ⊢; omega, by show f ≤ _; omega, by rw [← hW, wl_new hp, hr0]⟩
           ·
            exact ent_k [(501064, 87)] rfl rfl (.cons rfl (k_eq rfl) <| by repeat (first | exact .nil | refine .cons rfl (by first | exact k_eq rfl | exact .data rfl) ?_)) (by repeat (first | exact obs_nil | refine obs_cons rfl (o_eq rfl) ?_)) rfl
           ·
            show f < f + 1; omega
          ·
           have hp : q.path ∈ seen := by simpa using hc8
           refine awp_skip ?_
           refine ⟨(f, seen, rest), ?_, ?_, ?_⟩
           ·
            exact ⟨by simp [mz] at hf ⊢; omega, by show f ≤ _; omega, by rw [← hW, wl_old hp]⟩
           ·
            exact ent_k [(501064, 72)] rfl rfl (.cons rfl (k_eq rfl) <| by repeat (first | exact .nil | refine .cons rfl (by first | exact k_eq rfl | exact .data rfl) ?_)) (by repeat (first | exact obs_nil | refine obs_cons rfl (o_eq rfl) ?_)) rfl
           ·
            show f < f + 1; omega
         ·
          have hqe : queue = [] := by cases queue with | nil => rfl | cons q rest => exfalso; (have h := hc7); simp at h; done
          subst hqe
          rw [wl_done] at hW
          refine awp_exit ?_
          refine awp_seq ?_
          refine xsr ?_
          refine lmv rfl rfl rfl rfl rfl ?_
          refine xlz (op_lenM rfl rfl rfl rfl ty93) ?_
          refine lmv rfl rfl rfl rfl rfl ?_
          refine xlz (o_lenE (n := L.length) rfl rfl rfl ty22 (by simp)) ?_
          refine xlz (op_binI rfl rfl rfl rfl rfl (.inl rfl) rfl) ?_
          refine lendF ?_
          refine awp_cond rfl rfl (fun hc9 => ?_) (fun hc9 => ?_)
          ·
           have hC : (reachW L needs).length < L.length := by (have h := hc9); rw [reachW, ← hW]; simp [ments, seenM] at h; first | omega | exact h
           refine xsr ?_
           refine las rfl rfl rfl rfl rfl ?_
           refine lendF ?_
           refine awp_ret ?_
           refine ⟨[_], ⟨rfl, trivial⟩, ?_⟩
           first | exact ent_i rfl (by rw [hsol, if_pos hA]) | exact ent_i rfl (by rw [hsol, hA, hB]; rfl) | exact ent_i rfl (by rw [hsol, hA, hB, if_pos hC]; rfl) | exact ent_i rfl (by rw [hsol, hA, hB, if_neg hC]; rfl)
          ·
           have hC : ¬ (reachW L needs).length < L.length := by (have h := hc9); rw [reachW, ← hW]; simp [ments, seenM] at h; omega
           refine awp_skip ?_
           refine xsr ?_
           refine las rfl rfl rfl rfl rfl ?_
           refine lendF ?_
           refine awp_ret ?_
           refine ⟨[_], ⟨rfl, trivial⟩, ?_⟩
           first | exact ent_i rfl (by rw [hsol, if_pos hA]) | exact ent_i rfl (by rw [hsol, hA, hB]; rfl) | exact ent_i rfl (by rw [hsol, hA, hB, if_pos hC]; rfl) | exact ent_i rfl (by rw [hsol, hA, hB, if_neg hC]; rfl)

end Go.Pm

namespace Go.Pm
open Go.Proofs

set_option maxRecDepth 10000 in
set_option maxHeartbeats 4000000 in
theorem c13 (x : Idx) (hl : x.rels.length ≤ 1000000) (hr : ∀ r ∈ x.rels, r.Sm) (needs : List Req) (hq : ∀ q ∈ needs, q.Sm) (hn : needs.length ≤ 1000000) : Fn PR 13 [.d x.d, .d (reqsD needs)] [] [.d (selsD (reachI x needs))] [] := by
 refine fn_of_awp Tryz.func13 rfl (N := 79) rfl ?_
 have hF : mz2 (okR x) ([], needs) ≤ 2000000 := by have := restK_len (L := okR x) (fun r h => relE_reqs (okR_mem h).2) []; have := okR_len x; simp only [mz2]; omega
 refine xsr ?_
 refine xlz (op_box rfl rfl (by decide) rfl rfl) ?_
 refine las rfl rfl rfl rfl rfl ?_
 refine lendF ?_
 refine xsr ?_
 refine xlz (o_ldA rfl rfl rfl rfl ty25 rfl (xlb rfl) rfl) ?_
 refine xlz (o_callX (p := .tup [.agg [.map 1017, .map 2017], .d (I (checkI x.rels))]) (news := [1017, 2017]) (upd := [(1017, some (.map (relM (okR x)) [])), (2017, some (.map (grpD (grpOf (okR x))) []))]) [] 17 (c46 x (by omega) hr) rfl rfl rfl ca46 rfl (by decide) handOK_nil rfl rfl rfl rfl (by kernel_rfl) (by kernel_rfl) (by kernel_rfl)) ?_
 refine lmv rfl rfl rfl rfl rfl ?_
 refine xlz (op_extract rfl rfl rfl rfl) ?_
 refine xlz (op_extract rfl rfl rfl rfl) ?_
 refine xlz (op_alloc rfl rfl (by decide) ty82 zk82 rfl) ?_
 refine xlz (op_store rfl rfl rfl rfl rfl rfl ty82 rfl (xlb rfl)) ?_
 refine las rfl rfl rfl rfl rfl ?_
 refine lendF ?_
 refine xsr ?_
 refine xlz (op_makeMap rfl rfl (by decide)) ?_
 refine las rfl rfl rfl rfl rfl ?_
 refine lendF ?_
 refine xsr ?_
 refine lmv rfl rfl rfl rfl rfl ?_
 refine xlz (o_callX (p := .tl (needs.map Req.d) (some 1022)) (news := [1022]) (upd := [(1022, some (.tail 2))]) [] 22 (c23t needs hn) rfl rfl rfl ca23 rfl (by decide) handOK_nil rfl rfl rfl rfl (by kernel_rfl) (by kernel_rfl) (by kernel_rfl)) ?_
 refine las rfl rfl rfl rfl rfl ?_
 refine lendF ?_
 refine awp_seq ?_
 refine awp_block ?_
 refine awp_loop (fun v => ⟨79, [(8, .tl (v.2.2.map Req.d) (some 501022)), (2, .ptr 2 0), (5, .ptr 5 0), (7, .map 20)], [(20, .map (selM v.2.1) []), (501022, .tail 2), (5, .cells [.map 1017, .map 2017]), (2017, .map (grpD (grpOf (okR x))) []), (1017, .map (relM (okR x)) []), (2, .cells [.d (relsD x.rels), .d (.list x.ifs)])]⟩) (fun v => v.1) (fun v => mz2 (okR x) v.2 ≤ v.1 ∧ v.1 ≤ 2000000 ∧ (∀ z ∈ v.2.2, z.Sm) ∧ wl2 x v.1 v.2.1 v.2.2 = reachS x needs) (mz2 (okR x) ([], needs), [], needs) ?_ ?_ ?_
 ·
  exact ent_k [(501022, 1022)] rfl rfl ((by repeat (first | exact .nil | refine xkc ?_))) (obs_cons rfl (o_eq rfl) (obs_cons rfl (o_eq rfl) (obs_cons rfl (o_eq rfl) (obs_cons rfl (o_eq rfl) (obs_cons rfl (o_eq rfl) (obs_cons rfl (o_eq rfl) obs_nil)))))) rfl
 ·
  exact ⟨Nat.le_refl _, hF, hq, rfl⟩
 ·
  rintro ⟨f, seen, queue⟩ ⟨hf, hf2, hS, hW⟩
  dsimp only at hf hf2 hS hW ⊢
  refine awp_seq ?_
  refine xsr ?_
  refine lmv rfl rfl rfl rfl rfl ?_
  refine xlz (op_len rfl rfl rfl ty26) ?_
  refine xlz (op_binI rfl rfl rfl rfl rfl (.inl rfl) rfl) ?_
  refine lendF ?_
  refine awp_cond rfl rfl (fun hc1 => ?_) (fun hc1 => ?_)
  ·
   obtain ⟨q, rest, rfl⟩ : ∃ q rest, queue = q :: rest := by cases queue with | nil => simp at hc1 | cons q rest => exact ⟨q, rest, rfl⟩
   obtain ⟨f, rfl⟩ : ∃ m, f = m + 1 := ⟨f - 1, by simp [mz2] at hf; omega⟩
   have hq0 : (q :: rest)[0]? = some q := rfl
   have hqs : q.Sm := hS q (by simp)
   obtain ⟨l, hl2⟩ : ∃ l, l = pathR x q.path := ⟨_, rfl⟩
   have hlm : ∀ r ∈ l, r.Sm ∧ r ∈ okR x := fun r h => by rw [hl2] at h; have := okR_mem (pathR_mem h).1; exact ⟨hr r this.1, (pathR_mem h).1⟩
   have hll : l.length ≤ 256 := by rw [hl2]; exact pathR_len x q.path
   have hW2 : wl2 x f (rgo q l (seen, rest)).1 (rgo q l (seen, rest)).2 = reachS x needs := by rw [← hW, hl2]; rfl
   refine awp_skip ?_
   refine awp_block ?_
   refine xsr ?_
   refine lmv rfl rfl rfl rfl rfl ?_
   refine xlz (o_ixN (0) rfl rfl rfl rfl ty26 (by first | rfl | omega | (simp; done) | (simp; omega)) hq0 ty51) ?_
   refine xlz (op_loadCA rfl rfl rfl ty51 rfl (xlb rfl)) ?_
   refine xlz (op_alloc rfl rfl (by decide) ty51 zk51 rfl) ?_
   refine xlz (op_store rfl rfl rfl rfl rfl rfl ty51 rfl (xlb rfl)) ?_
   refine lendF ?_
   refine xsr ?_
   refine lmv rfl rfl rfl rfl rfl ?_
   refine xlz (op_sliceT rfl rfl (by decide) rfl rfl ty26 ty51 (by intro d hd; obtain ⟨x, _, rfl⟩ := List.mem_map.1 hd; rfl) (IsZ.isN (.some rfl rfl (n := 1) (by first | rfl | omega | (simp; done) | (simp; omega)))) rfl (by simp)) ?_
   refine las rfl rfl rfl rfl rfl ?_
   refine lendF ?_
   refine xsr ?_
   refine xlz (op_fieldP rfl rfl rfl fl82_1) ?_
   refine xlz (op_load1 rfl rfl rfl rfl ty80 rfl rfl) ?_
   refine xlz (op_fieldP rfl rfl rfl fl51_0) ?_
   refine xlz (op_load1 rfl rfl rfl rfl ty9 rfl rfl) ?_
   refine xlz (op_lookupD rfl rfl rfl rfl rfl rfl ty80 ty9 es9 ty22 rfl rfl (ks_grp0 _) (show _ = some (relsD l) from by rw [hl2]; exact getX_path x q.path)) ?_
   refine xlz (o_lenE (n := l.length) rfl rfl rfl ty22 (by simp)) ?_
   refine lmv rfl rfl rfl rfl rfl ?_
   refine lendF ?_
   refine awp_block ?_
   refine awp_loop (fun u => ⟨79, [(8, .tl (u.2.2.map Req.d) (some 508030)), (37, .d (I (u.1 : Nat))), (2, .ptr 2 0), (5, .ptr 5 0), (7, .map 20), (9, .ptr 9 0), (28, .d (.agg [.str q.path, setD q.set])), (31, .ptr 5 1), (32, .map 2017), (33, .ptr 9 0), (34, .d (.str q.path)), (35, .d (relsD l)), (36, .d (I l.length))], [(20, .map (selM u.2.1) []), (508030, .tail 2), (9, .cells [.d (.str q.path), .d (setD q.set)]), (2017, .map (grpD (grpOf (okR x))) []), (5, .cells [.map 1017, .map 2017]), (1017, .map (relM (okR x)) []), (2, .cells [.d (relsD x.rels), .d (.list x.ifs)])]⟩) (fun u => l.length - u.1) (fun u => u.1 ≤ l.length ∧ mz2 (okR x) u.2 ≤ 2000000 ∧ (∀ z ∈ u.2.2, z.Sm) ∧ rgo q (l.drop u.1) u.2 = rgo q l (seen, rest)) (0, seen, rest) ?_ ?_ ?_
   ·
    exact ent_k [(508030, 30)] rfl rfl ((by repeat (first | exact .nil | refine xkc ?_))) (obs_cons rfl (o_eq rfl) (obs_cons rfl (o_eq rfl) (obs_cons rfl (o_eq rfl) (obs_cons rfl (o_eq rfl) (obs_cons rfl (o_eq rfl) (obs_cons rfl (o_eq rfl) (obs_cons rfl (o_eq rfl) obs_nil))))))) rfl
   ·
    exact ⟨Nat.zero_le _, by simp [mz2] at hf ⊢; omega, fun z hz => hS z (by simp [hz]), rfl⟩
   ·
    rintro ⟨i, s1, s2⟩ ⟨hi, hz2, hS2, hG⟩
    dsimp only at hi hz2 hS2 hG ⊢
    refine xsr ?_
    refine xlz (op_binI rfl rfl rfl rfl rfl (.inl rfl) rfl) ?_
    refine lendF ?_
    refine awp_seq ?_
    refine awp_cond rfl rfl (fun hc2 => ?_) (fun hc2 => ?_)
    ·
     obtain ⟨z, hn⟩ := rng_lt (l := l) (by simpa using hc2)
     have hlt := rng_le hn
     have hmem := List.mem_of_getElem? hn
     refine awp_skip ?_
     refine awp_seq ?_
     refine awp_block ?_
     refine xsr ?_
     refine xlz (o_ixN (i) rfl rfl rfl rfl ty22 (by first | rfl | omega | (simp; done) | (simp; omega)) hn ty40) ?_
     refine xlz (op_loadCA rfl rfl rfl ty40 rfl (xlb rfl)) ?_
     refine xlz (op_alloc rfl rfl (by decide) ty40 zk40 rfl) ?_
     refine xlz (op_store rfl rfl rfl rfl rfl rfl ty40 rfl (xlb rfl)) ?_
     refine lendF ?_
     refine xsr ?_
     refine lmv rfl rfl rfl rfl rfl ?_
     refine xlz (o_ldA rfl rfl rfl rfl ty40 rfl (xlb rfl) rfl) ?_
     refine xlz (o_call (c47 z) rfl rfl rfl ca47 rfl rfl) ?_
     refine xlz (op_lookupD rfl rfl rfl rfl rfl rfl ty85 ty54 es54 ty4 rfl rfl (ks_selM _) (getX_selM s1 z.sel)) ?_
     refine xlz (op_not rfl rfl rfl) ?_
     refine lmv rfl rfl rfl rfl rfl ?_
     refine lsplit rfl (fun hg3 => ?_) (fun hg3 => ?_)
     ·
      have hns : z.sel ∉ s1 := by simpa using (g11 hg3)
      refine lg (op_fieldP rfl rfl rfl fl51_1) rfl hg3 rfl rfl ?_
      refine lg (op_load1 rfl rfl rfl rfl ty49 rfl rfl) rfl hg3 rfl rfl ?_
      refine lg (o_ldA rfl rfl rfl rfl ty40 rfl (xlb rfl) rfl) rfl hg3 rfl rfl ?_
      refine lg (o_call (c48 z) rfl rfl rfl ca48 rfl rfl) rfl hg3 rfl rfl ?_
      refine lg (o_call (c28 q.set (placeOf z.ver).1 (by have := hqs.set; omega)) rfl rfl rfl ca28 rfl rfl) rfl hg3 rfl rfl ?_
      refine xlz (o_pT rfl rfl (g11 hg3) rfl rfl) ?_
      refine lend (fun _ => by kernel_rfl) ?_
      refine awp_cond rfl rfl (fun hc4 => ?_) (fun hc4 => ?_)
      ·
       have hgo := goR_yes (s := (s1, s2)) hns (q := q) (by simpa using hc4)
       refine xsr ?_
       refine lmv rfl rfl rfl rfl rfl ?_
       refine xlz (o_ldA rfl rfl rfl rfl ty40 rfl (xlb rfl) rfl) ?_
       refine xlz (o_call (c47 z) rfl rfl rfl ca47 rfl rfl) ?_
       refine xlz (op_mapUpdate rfl rfl rfl rfl rfl rfl rfl rfl ty85 ty54 es54 rfl (ks_selM _) (putX_selM hns)) ?_
       refine lendF ?_
       refine awp_region mixed ?_
       refine lmv rfl rfl rfl rfl rfl ?_
       refine xlz (op_fieldP rfl rfl rfl fl40_2) ?_
       refine xlz (op_load1 rfl rfl rfl rfl ty26 rfl rfl) ?_
       refine xlz (o_app rfl rfl (by decide) rfl rfl rfl ty26 ty51 rfl (by decide) rfl (by intro d hd; obtain ⟨x, _, rfl⟩ := List.mem_map.1 hd; rfl) (by intro d hd; obtain ⟨x, _, rfl⟩ := List.mem_map.1 hd; rfl) (by have h1 := goR_mz (q := q) (s := (s1, s2)) (hlm z hmem).2; rw [hgo] at h1; simp [mz2] at h1 hz2 ⊢; omega) (by decide) (show _ = (s2 ++ z.reqs).map Req.d from by simp)) ?_
       refine las rfl rfl rfl rfl rfl ?_
       refine lendF ?_
       refine awp_region mixed ?_
       refine xlz (o_add rfl rfl rfl rfl (by first | omega | (simp; omega) | (simp at *; omega))) ?_
       refine lmv rfl rfl rfl rfl rfl ?_
       refine lendF ?_
       refine ⟨(i + 1, s1 ++ [z.sel], s2 ++ z.reqs), ?_, ?_, ?_⟩
       ·
        have h1 := goR_mz (q := q) (s := (s1, s2)) (hlm z hmem).2
        have h3 := goR_sm (q := q) (s := (s1, s2)) hS2 (hlm z hmem).1
        rw [hgo] at h1 h3
        exact ⟨hlt, Nat.le_trans h1 hz2, h3, by rw [← hG, drop_cons hn, rgo, hgo]⟩
       ·
        exact ent_k [(508030, 59)] rfl rfl (.cons rfl (k_eq rfl) <| .cons rfl (k_i (by simp)) <| by repeat (first | exact .nil | refine .cons rfl (by first | exact k_eq rfl | exact .data rfl) ?_)) (by repeat (first | exact obs_nil | refine obs_cons rfl (o_eq rfl) ?_)) rfl
       ·
        show l.length - (i + 1) < l.length - i; omega
      ·
       have hgo := goR_no (s := (s1, s2)) (q := q) (r := z) (fun h => by (have h2 := hc4); simp_all)
       refine awp_skip ?_
       refine awp_region mixed ?_
       refine xlz (o_add rfl rfl rfl rfl (by first | omega | (simp; omega) | (simp at *; omega))) ?_
       refine lmv rfl rfl rfl rfl rfl ?_
       refine lendF ?_
       refine ⟨(i + 1, s1, s2), ?_, ?_, ?_⟩
       ·
        have h1 := goR_mz (q := q) (s := (s1, s2)) (hlm z hmem).2
        have h3 := goR_sm (q := q) (s := (s1, s2)) hS2 (hlm z hmem).1
        rw [hgo] at h1 h3
        exact ⟨hlt, Nat.le_trans h1 hz2, h3, by rw [← hG, drop_cons hn, rgo, hgo]⟩
       ·
        exact ent_k [] rfl rfl (.cons rfl (k_eq rfl) <| .cons rfl (k_i (by simp)) <| by repeat (first | exact .nil | refine .cons rfl (by first | exact k_eq rfl | exact .data rfl) ?_)) (by repeat (first | exact obs_nil | refine obs_cons rfl (o_eq rfl) ?_)) rfl
       ·
        show l.length - (i + 1) < l.length - i; omega
     ·
      have hns : z.sel ∈ s1 := by simpa using (g10 hg3)
      have hgo := goR_no (s := (s1, s2)) (q := q) (r := z) (fun h => h.1 hns)
      iterate 5 refine lskip rfl hg3 rfl ?_
      refine xlz (o_pF rfl rfl (g10 hg3) rfl rfl) ?_
      refine lend (fun _ => by kernel_rfl) ?_
      refine awp_condF rfl rfl rfl ?_
      refine awp_skip ?_
      refine awp_region mixed ?_
      refine xlz (o_add rfl rfl rfl rfl (by first | omega | (simp; omega) | (simp at *; omega))) ?_
      refine lmv rfl rfl rfl rfl rfl ?_
      refine lendF ?_
      refine ⟨(i + 1, s1, s2), ?_, ?_, ?_⟩
      ·
       have h1 := goR_mz (q := q) (s := (s1, s2)) (hlm z hmem).2
       have h3 := goR_sm (q := q) (s := (s1, s2)) hS2 (hlm z hmem).1
       rw [hgo] at h1 h3
       exact ⟨hlt, Nat.le_trans h1 hz2, h3, by rw [← hG, drop_cons hn, rgo, hgo]⟩
      ·
       exact ent_k [] rfl rfl (.cons rfl (k_eq rfl) <| .cons rfl (k_i (by simp)) <| by repeat (first | exact .nil | refine .cons rfl (by first | exact k_eq rfl | exact .data rfl) ?_)) (by repeat (first | exact obs_nil | refine obs_cons rfl (o_eq rfl) ?_)) rfl
      ·
       show l.length - (i + 1) < l.length - i; omega
    ·
     obtain rfl := rng_ge (l := l) (by simpa using hc2) hi
     refine awp_exit ?_
     refine ⟨(f, s1, s2), ?_, ?_, ?_⟩
     ·
      rw [List.drop_length] at hG
      have hG2 : (s1, s2) = rgo q l (seen, rest) := hG
      exact ⟨by have := rgo_mz (q := q) (l := l) (s := (seen, rest)) fun r h => (hlm r h).2; rw [← hG2] at this; simp [mz2] at hf this ⊢; omega, by show f ≤ _; omega, hS2, by rw [← hW2, ← hG2]⟩
     ·
      exact ent_k [(501022, 508030)] rfl rfl (.cons rfl (k_eq rfl) <| by repeat (first | exact .nil | refine .cons rfl (by first | exact k_eq rfl | exact .data rfl) ?_)) (by repeat (first | exact obs_nil | refine obs_cons rfl (o_eq rfl) ?_)) rfl
     ·
      show f < f + 1; omega
  ·
   have hqe : queue = [] := by cases queue with | nil => rfl | cons q rest => exfalso; (have h := hc1); simp at h; done
   subst hqe
   rw [wl2_done] at hW
   refine awp_exit ?_
   refine xsr ?_
   refine las rfl rfl rfl rfl rfl ?_
   refine lendF ?_
   refine awp_seq ?_
   refine xsr ?_
   refine xlz (op_fieldP rfl rfl rfl fl25_0) ?_
   refine xlz (op_load1 rfl rfl rfl rfl ty22 rfl rfl) ?_
   refine xlz (o_lenE (n := x.rels.length) rfl rfl rfl ty22 (by simp)) ?_
   refine lmv rfl rfl rfl rfl rfl ?_
   refine lendF ?_
   refine awp_block ?_
   refine awp_ent (ent_tail 12 500012 4 rfl rfl rfl (by decide)) ?_
   refine awp_loop (fun i => ⟨79, [(12, .tl ((((x.rels.take i).filter fun r => decide (r.sel ∈ seen)).map Rls.sel).map Sel.d) (some 500012)), (64, .d (I (i : Nat))), (7, .map 20), (62, .d (relsD x.rels)), (63, .d (I x.rels.length))], [(500012, .tail 4), (20, .map (selM seen) [])]⟩) (fun i => x.rels.length - i) (fun i => i ≤ x.rels.length) 0 ?_ ?_ ?_
   ·
    exact ent_k [] rfl rfl ((by repeat (first | exact .nil | refine xkc ?_))) (obs_cons rfl (o_eq rfl) (obs_cons rfl (o_eq rfl) obs_nil)) rfl
   ·
    exact Nat.zero_le _
   ·
    rintro i hi
    refine xsr ?_
    refine xlz (op_binI rfl rfl rfl rfl rfl (.inl rfl) rfl) ?_
    refine lendF ?_
    refine awp_seq ?_
    refine awp_cond rfl rfl (fun hc6 => ?_) (fun hc6 => ?_)
    ·
     obtain ⟨z, hn⟩ := rng_lt (l := x.rels) (by simpa using hc6)
     have hlt := rng_le hn
     refine awp_skip ?_
     refine awp_seq ?_
     refine awp_block ?_
     refine xsr ?_
     refine xlz (o_ixN (i) rfl rfl rfl rfl ty22 (by first | rfl | omega | (simp; done) | (simp; omega)) hn ty40) ?_
     refine xlz (op_loadCA rfl rfl rfl ty40 rfl (xlb rfl)) ?_
     refine xlz (op_alloc rfl rfl (by decide) ty40 zk40 rfl) ?_
     refine xlz (op_store rfl rfl rfl rfl rfl rfl ty40 rfl (xlb rfl)) ?_
     refine lendF ?_
     refine xsr ?_
     refine lmv rfl rfl rfl rfl rfl ?_
     refine xlz (o_ldA rfl rfl rfl rfl ty40 rfl (xlb rfl) rfl) ?_
     refine xlz (o_call (c47 z) rfl rfl rfl ca47 rfl rfl) ?_
     refine xlz (op_lookupD rfl rfl rfl rfl rfl rfl ty85 ty54 es54 ty4 rfl rfl (ks_selM _) (getX_selM seen z.sel)) ?_
     refine lendF ?_
     refine awp_cond rfl rfl (fun hc7 => ?_) (fun hc7 => ?_)
     ·
      have hz : z.sel ∈ seen := by simpa using hc7
      refine awp_region mixed ?_
      refine lmv rfl rfl rfl rfl rfl ?_
      refine xlz (o_ldA rfl rfl rfl rfl ty40 rfl (xlb rfl) rfl) ?_
      refine xlz (o_call (c47 z) rfl rfl rfl ca47 rfl rfl) ?_
      refine xlz (o_bs rfl rfl rfl rfl rfl ty27 ty54 rfl rfl) ?_
      refine xlz (o_app rfl rfl (by decide) rfl rfl rfl ty27 ty54 rfl (by decide) rfl (by intro d hd; obtain ⟨x, _, rfl⟩ := List.mem_map.1 hd; rfl) (by simp [D.cells]) (by have := List.length_filter_le (fun r : Rls => decide (r.sel ∈ seen)) (x.rels.take i); simp at this ⊢; omega) (by decide) (show _ = (((x.rels.take i).filter fun r => decide (r.sel ∈ seen)).map Rls.sel ++ [z.sel]).map Sel.d from by simp)) ?_
      refine las rfl rfl rfl rfl rfl ?_
      refine lendF ?_
      refine awp_region mixed ?_
      refine xlz (o_add rfl rfl rfl rfl (by first | omega | (simp; omega) | (simp at *; omega))) ?_
      refine lmv rfl rfl rfl rfl rfl ?_
      refine lendF ?_
      refine ⟨i + 1, ?_, ?_, ?_⟩
      ·
       exact rng_le hn
      ·
       exact ent_k [(500012, 76)] rfl rfl (.cons rfl (k_tl rfl (by rw [take_succ hn, fil_yes hz])) <| .cons rfl (k_i (by simp)) <| by repeat (first | exact .nil | refine .cons rfl (by first | exact k_eq rfl | exact .data rfl) ?_)) (by repeat (first | exact obs_nil | refine obs_cons rfl (o_eq rfl) ?_)) rfl
      ·
       omega
     ·
      have hz : z.sel ∉ seen := by simpa using hc7
      refine awp_skip ?_
      refine awp_region mixed ?_
      refine xlz (o_add rfl rfl rfl rfl (by first | omega | (simp; omega) | (simp at *; omega))) ?_
      refine lmv rfl rfl rfl rfl rfl ?_
      refine lendF ?_
      refine ⟨i + 1, ?_, ?_, ?_⟩
      ·
       exact rng_le hn
      ·
       exact ent_k [] rfl rfl (.cons rfl (k_tl rfl (by rw [take_succ hn, fil_no hz])) <| .cons rfl (k_i (by simp)) <| by repeat (first | exact .nil | refine .cons rfl (by first | exact k_eq rfl | exact .data rfl) ?_)) (by repeat (first | exact obs_nil | refine obs_cons rfl (o_eq rfl) ?_)) rfl
      ·
       omega
    ·
     obtain rfl := rng_ge (l := x.rels) (by simpa using hc6) hi
     refine awp_exit ?_
     refine xsr ?_
     refine lmv rfl rfl rfl rfl rfl ?_
     refine las rfl rfl rfl rfl rfl ?_
     refine lendF ?_
     refine awp_ret ?_
     refine ⟨[_], ⟨rfl, trivial⟩, ?_⟩
     exact ent_d1 rfl (by rw [List.take_length, hW]; rfl)

end Go.Pm

namespace Go.Pm
open Go.Proofs

set_option maxRecDepth 10000 in
theorem c55 (l : List Int) (out : Bytes) (hl : l.length ≤ 100000) (hx : ∀ n ∈ l, n < 9223372036854775808) (ho : out.length + (intsS l).length < 4611686018427387904) : Fn PR 55 [.d (.list (l.map I)), .ptr 1000000 0] [(1000000, .cells [.d (.str out)])] [] [(1000000, .cells [.d (.str (out ++ intsS l))])] := by
 refine fn_of_awp Tryz.func55 rfl (N := 22) rfl ?_
 refine xsr ?_
 refine lmv rfl rfl rfl rfl rfl ?_
 refine xlz (o_lenE (n := l.length) rfl rfl rfl ty96 (by simp)) ?_
 refine lmv rfl rfl rfl rfl rfl ?_
 refine lendF ?_
 refine awp_block ?_
 refine awp_loop (fun i => ⟨22, [(9, .d (I (i : Nat))), (1, .ptr 1000000 0), (7, .d (.list (l.map I))), (8, .d (I l.length))], [(1000000, .cells [.d (.str (out ++ intsS (l.take i)))])]⟩) (fun i => l.length - i) (fun i => i ≤ l.length) 0 ?_ ?_ ?_
 ·
  exact ent_k [] rfl rfl ((by repeat (first | exact .nil | refine xkc ?_))) (obs_cons rfl (o_eq (by simp [intsS]; rfl)) obs_nil) rfl
 ·
  exact Nat.zero_le _
 ·
  rintro i hi
  refine xsr ?_
  refine xlz (op_binI rfl rfl rfl rfl rfl (.inl rfl) rfl) ?_
  refine lendF ?_
  refine awp_seq ?_
  refine awp_cond rfl rfl (fun hc1 => ?_) (fun hc1 => ?_)
  ·
   obtain ⟨x, hn⟩ := rng_lt (l := l) (by simpa using hc1)
   have hlt := rng_le hn
   have hmem := List.mem_of_getElem? hn
   refine awp_skip ?_
   refine awp_seq ?_
   refine awp_block ?_
   refine xsr ?_
   refine xlz (o_ixN (i) rfl rfl rfl rfl ty96 (by first | rfl | omega | (simp; done) | (simp; omega)) hn ty3) ?_
   refine xlz (op_loadC1 rfl rfl rfl ty3 rfl rfl) ?_
   refine las rfl rfl rfl rfl rfl ?_
   refine lendF ?_
   refine xsr ?_
   refine lmv rfl rfl rfl rfl rfl ?_
   refine xlz (o_call (c56 x (hx x hmem)) rfl rfl rfl ca56 rfl rfl) ?_
   refine lmv rfl rfl rfl rfl rfl ?_
   refine xlz (op_extract rfl rfl rfl rfl) ?_
   refine xlz (op_extract rfl rfl rfl rfl) ?_
   iterate 2 refine las rfl rfl rfl rfl rfl ?_
   refine lendF ?_
   refine awp_region mixed ?_
   refine xlz (op_load1 rfl rfl rfl rfl ty9 rfl rfl) ?_
   refine lmv rfl rfl rfl rfl rfl ?_
   refine xlz (op_binS rfl rfl rfl rfl rfl (fun _ => by have := flat_take (fun n => (uintS n).1) hn; rw [List.length_append]; unfold intsS at *; omega) rfl) ?_
   refine xlz (op_store rfl rfl rfl rfl rfl rfl ty9 rfl (xlb rfl)) ?_
   refine lendF ?_
   refine awp_region mixed ?_
   refine xlz (o_add rfl rfl rfl rfl (by first | omega | (simp; omega) | (simp at *; omega))) ?_
   refine lmv rfl rfl rfl rfl rfl ?_
   refine lendF ?_
   refine ⟨i + 1, ?_, ?_, ?_⟩
   ·
    exact rng_le hn
   ·
    exact ent_k [] rfl rfl ((by repeat (first | exact .nil | refine xkc ?_))) (obs_cons rfl (.cells (.cons (k_s (by rw [intsS_take hn]; simp)) .nil)) obs_nil) rfl
   ·
    omega
  ·
   obtain rfl := rng_ge (l := l) (by simpa using hc1) hi
   refine awp_exit ?_
   refine ⟨[], trivial, ?_⟩
   exact ent_k [] rfl rfl .nil (obs_cons rfl (.cells (.cons (k_s (by rw [List.take_length])) .nil)) obs_nil) rfl

set_option maxRecDepth 10000 in
theorem c57 (l : List Bytes) (out : Bytes) (hl : l.length ≤ 100000) (hx : ∀ s ∈ l, s.length ≤ 1000000) (ho : out.length + (textsS l).length < 4611686018427387904) : Fn PR 57 [.d (.list (l.map .str)), .ptr 1000000 0] [(1000000, .cells [.d (.str out)])] [] [(1000000, .cells [.d (.str (out ++ textsS l))])] := by
 refine fn_of_awp Tryz.func57 rfl (N := 16) rfl ?_
 refine xsr ?_
 refine lmv rfl rfl rfl rfl rfl ?_
 refine xlz (o_lenE (n := l.length) rfl rfl rfl ty71 (by simp)) ?_
 refine lmv rfl rfl rfl rfl rfl ?_
 refine lendF ?_
 refine awp_block ?_
 refine awp_loop (fun i => ⟨16, [(7, .d (I (i : Nat))), (1, .ptr 1000000 0), (5, .d (.list (l.map .str))), (6, .d (I l.length))], [(1000000, .cells [.d (.str (out ++ textsS (l.take i)))])]⟩) (fun i => l.length - i) (fun i => i ≤ l.length) 0 ?_ ?_ ?_
 ·
  exact ent_k [] rfl rfl ((by repeat (first | exact .nil | refine xkc ?_))) (obs_cons rfl (o_eq (by simp [textsS]; rfl)) obs_nil) rfl
 ·
  exact Nat.zero_le _
 ·
  rintro i hi
  refine xsr ?_
  refine xlz (op_binI rfl rfl rfl rfl rfl (.inl rfl) rfl) ?_
  refine lendF ?_
  refine awp_seq ?_
  refine awp_cond rfl rfl (fun hc1 => ?_) (fun hc1 => ?_)
  ·
   obtain ⟨x, hn⟩ := rng_lt (l := l) (by simpa using hc1)
   have hlt := rng_le hn
   have hmem := List.mem_of_getElem? hn
   refine awp_skip ?_
   refine awp_seq ?_
   refine awp_block ?_
   refine xsr ?_
   refine xlz (o_ixN (i) rfl rfl rfl rfl ty71 (by first | rfl | omega | (simp; done) | (simp; omega)) hn ty9) ?_
   refine xlz (op_loadC1 rfl rfl rfl ty9 rfl rfl) ?_
   refine las rfl rfl rfl rfl rfl ?_
   refine lendF ?_
   refine awp_region mixed ?_
   refine xlz (op_load1 rfl rfl rfl rfl ty9 rfl rfl) ?_
   refine lmv rfl rfl rfl rfl rfl ?_
   refine xlz (o_call (c58 x (by have := hx x hmem; omega)) rfl rfl rfl ca58 rfl rfl) ?_
   refine xlz (op_binS rfl rfl rfl rfl rfl (fun _ => by have := flat_take textS hn; rw [List.length_append]; unfold textsS at *; omega) rfl) ?_
   refine xlz (op_store rfl rfl rfl rfl rfl rfl ty9 rfl (xlb rfl)) ?_
   refine lend (fun _ => by kernel_rfl) ?_
   refine awp_region mixed ?_
   refine xlz (o_add rfl rfl rfl rfl (by first | omega | (simp; omega) | (simp at *; omega))) ?_
   refine lmv rfl rfl rfl rfl rfl ?_
   refine lendF ?_
   refine ⟨i + 1, ?_, ?_, ?_⟩
   ·
    exact rng_le hn
   ·
    exact ent_k [] rfl rfl ((by repeat (first | exact .nil | refine xkc ?_))) (obs_cons rfl (.cells (.cons (k_s (by rw [textsS_take hn]; simp)) .nil)) obs_nil) rfl
   ·
    omega
  ·
   obtain rfl := rng_ge (l := l) (by simpa using hc1) hi
   refine awp_exit ?_
   refine ⟨[], trivial, ?_⟩
   exact ent_k [] rfl rfl .nil (obs_cons rfl (.cells (.cons (k_s (by rw [List.take_length])) .nil)) obs_nil) rfl

end Go.Pm

namespace Go.Pm
open Go.Proofs

set_option maxRecDepth 10000 in
theorem c89 (n : Int) : Fn PR 89 [.d (I n)] [] [.d (Ver.d ⟨1, n, 0⟩)] [] := by
 refine fn_of_awp Tryz.func89 rfl (N := 5) rfl ?_
 refine xsr ?_
 refine xlz (op_alloc rfl rfl (by decide) ty38 zk38 rfl) ?_
 refine lendF ?_
 refine xsr ?_
 refine lmv rfl rfl rfl rfl rfl ?_
 refine xlz (o_bld rfl rfl rfl bl38 ty38 zk38 rfl rfl rfl) ?_
 refine xlz (op_store rfl rfl rfl rfl rfl rfl ty38 rfl (xlb rfl)) ?_
 refine lendF ?_
 refine awp_ret ?_
 refine ⟨[_], ⟨⟨_, _, _, _, _, _, _, rfl, rfl, ty38, (xlb rfl), rfl⟩, trivial⟩, ?_⟩
 exact ent_d1 rfl (by first | rfl | simp_all)

set_option maxRecDepth 10000 in
set_option maxHeartbeats 2000000 in
theorem c45  : Fn PR 45 [] [] [.d exI.d] [] := by
 refine fn_of_awp Tryz.func45 rfl (N := 22) rfl ?_
 refine xsr ?_
 refine xlz (op_alloc rfl rfl (by decide) ty25 zk25 rfl) ?_
 refine lendF ?_
 refine xsr ?_
 refine las rfl rfl rfl rfl rfl ?_
 refine lendF ?_
 refine xsr ?_
 refine xlz (o_bld rfl rfl rfl bl78 ty78 zk78 rfl rfl rfl) ?_
 refine xlz (o_bs rfl rfl rfl rfl rfl ty49 ty78 rfl rfl) ?_
 refine xlz (o_bld rfl rfl rfl bl51 ty51 zk51 rfl rfl rfl) ?_
 refine xlz (o_bs rfl rfl rfl rfl rfl ty26 ty51 rfl rfl) ?_
 refine las rfl rfl rfl rfl rfl ?_
 refine lendF ?_
 refine xsr ?_
 refine lmv rfl rfl rfl rfl rfl ?_
 refine xlz (o_call (c89 0) rfl rfl rfl ca89 rfl rfl) ?_
 refine lmv rfl rfl rfl rfl rfl ?_
 refine xlz (o_bld rfl rfl rfl bl40 ty40 zk40 rfl rfl rfl) ?_
 refine lmv rfl rfl rfl rfl rfl ?_
 refine xlz (o_call (c89 0) rfl rfl rfl ca89 rfl rfl) ?_
 refine xlz (o_bld rfl rfl rfl bl40 ty40 zk40 rfl rfl rfl) ?_
 refine lmv rfl rfl rfl rfl rfl ?_
 refine xlz (o_call (c89 1) rfl rfl rfl ca89 rfl rfl) ?_
 refine xlz (o_bld rfl rfl rfl bl40 ty40 zk40 rfl rfl rfl) ?_
 refine lmv rfl rfl rfl rfl rfl ?_
 refine xlz (o_call (c89 2) rfl rfl rfl ca89 rfl rfl) ?_
 refine xlz (o_bld rfl rfl rfl bl40 ty40 zk40 rfl rfl rfl) ?_
 refine xlz (o_bs rfl rfl rfl rfl rfl ty22 ty40 rfl rfl) ?_
 refine xlz (o_bld rfl rfl rfl bl25 ty25 zk25 rfl rfl rfl) ?_
 refine xlz (op_store rfl rfl rfl rfl rfl rfl ty25 rfl (xlb rfl)) ?_
 refine lendF ?_
 refine awp_ret ?_
 refine ⟨[_], ⟨⟨_, _, _, _, _, _, _, rfl, rfl, ty25, (xlb rfl), rfl⟩, trivial⟩, ?_⟩
 exact ent_d1 rfl (by first | rfl | simp_all)

end Go.Pm

namespace Go.Pm
open Go.Proofs

set_option maxRecDepth 10000 in
theorem c154 (s : Bytes) (hs : s.length ≤ 64) : Fn PR 154 [.d (.str s)] [] [.d (.list ((segsF s).map .str))] [] := by
 refine fn_of_awp Tryz.func154 rfl (N := 37) rfl ?_
 refine xsr ?_
 refine xlz (o_as rfl rfl rfl) ?_
 refine lendF ?_
 refine xsr ?_
 refine xlz (op_bsR rfl rfl rfl rfl rfl ty71 ty9 rfl rfl rfl (by decide)) ?_
 refine xlz (o_as rfl rfl rfl) ?_
 refine lendF ?_
 refine awp_seq ?_
 refine xsr ?_
 refine xlz (o_as rfl rfl rfl) ?_
 refine lendF ?_
 refine awp_block ?_
 refine awp_loop (fun x => ⟨37, [(3, .arr 500003 1 0 (x.2.map D.str).length), (4, .d (I (x.1 : Nat))), (0, .d (.str s))], [(500003, .arr 1 (x.2.map D.str))]⟩) (fun x => s.length - x.1) (fun x => x.1 ≤ s.length ∧ 0 < x.2.length ∧ x.2.length ≤ x.1 + 1 ∧ (∀ y ∈ x.2, y.length ≤ x.1) ∧ catS x.2 (s.drop x.1) = segsF s) (0, [[]]) ?_ ?_ ?_
 ·
  exact ent_k [(500003, 5)] rfl rfl (xkc <| xkc <| xkc <| .nil) (obs_cons rfl (o_eq rfl) obs_nil) rfl
 ·
  exact ⟨Nat.zero_le _, by decide, by decide, by simp, rfl⟩
 ·
  rintro ⟨i, out⟩ ⟨hi, h1, h2, h3, hI⟩
  dsimp only at hi h1 h2 h3 hI ⊢
  refine awp_seq ?_
  refine xsr ?_
  refine xlz (o_mv rfl rfl rfl) ?_
  refine xlz (o_mv rfl rfl rfl) ?_
  refine xlz (op_lenS rfl rfl rfl ty9) ?_
  refine xlz (op_binI rfl rfl rfl rfl rfl (.inl rfl) rfl) ?_
  refine lendF ?_
  refine awp_cond rfl rfl (fun hc1 => ?_) (fun hc1 => ?_)
  ·
   obtain ⟨x, hn⟩ := rng_lt (l := s) hc1
   have hlt := rng_le hn
   refine awp_skip ?_
   refine awp_seq ?_
   refine awp_block ?_
   refine xsr ?_
   refine xlz (o_mv rfl rfl rfl) ?_
   refine xlz (o_mv rfl rfl rfl) ?_
   refine xlz (o_idxS (i) rfl rfl rfl rfl ty9 (by first | rfl | omega | (simp; done) | (simp; omega)) hn) ?_
   refine xlz (op_binI rfl rfl rfl rfl rfl (.inl rfl) rfl) ?_
   refine lendF ?_
   refine awp_cond rfl rfl (fun hc2 => ?_) (fun hc2 => ?_)
   ·
    have hsl : x = 47 := by have := hc2; rw [show (47 : Int) = ((47 : UInt8).toNat : Int) from rfl, eqB] at this; simpa using this
    refine awp_region mixed ?_
    refine xlz (o_mv rfl rfl rfl) ?_
    refine xlz (o_bs rfl rfl rfl rfl rfl ty71 ty9 rfl rfl) ?_
    refine xlz (op_appendR rfl rfl (by decide) (.inr ⟨_, rfl, rfl, rfl⟩) rfl rfl rfl ty71 ty9 rfl (by decide) (by first | exact cl_map fun _ => rfl | exact cl_nil | exact cl_one rfl | exact cl_app (cl_map fun _ => rfl) (cl_one rfl) | exact cl_app (cl_map fun _ => rfl) (cl_map fun _ => rfl)) (by simp) (by simp; omega) (by simp; omega)) ?_
    refine xlz (o_as rfl rfl rfl) ?_
    refine lendF ?_
    refine awp_region mixed ?_
    refine xlz (o_mv rfl rfl rfl) ?_
    refine xlz (o_add rfl rfl rfl rfl (by first | omega | (simp; omega) | (simp at *; omega))) ?_
    refine xlz (o_as rfl rfl rfl) ?_
    refine lendF ?_
    refine ⟨(i + 1, out ++ [[]]), ?_, ?_, ?_⟩
    ·
     exact ⟨rng_le hn, by show 0 < (out ++ [[]]).length; simp, by show (out ++ [[]]).length ≤ i + 1 + 1; simp; omega, fun y hy => by (have hy : y ∈ out ++ [[]] := hy); rcases List.mem_append.1 hy with h | h; (exact Nat.le_succ_of_le (h3 y h)); (simp at h; subst h; simp), by show catS (out ++ [[]]) (s.drop (i + 1)) = _; rw [← hI, drop_cons hn, catS, if_pos hsl]⟩
    ·
     exact ent_k [(500003, 18)] rfl rfl (.cons rfl (k_arr rfl (by simp)) <| .cons rfl (k_i (by simp)) <| .cons rfl (k_eq rfl) <| .nil) (obs_cons rfl (ko_arr (by simp)) obs_nil) rfl
    ·
     show s.length - (i + 1) < s.length - i; have := rng_le hn; omega
   ·
    have hsl : ¬ x = 47 := by have := hc2; rw [show (47 : Int) = ((47 : UInt8).toNat : Int) from rfl, eqB] at this; simpa using this
    obtain ⟨z, hz⟩ := last_get h1
    have hzm := map_get (f := D.str) hz
    have hzl := h3 z (List.mem_of_getElem? hz)
    refine awp_region mixed ?_
    refine xlz (o_mv rfl rfl rfl) ?_
    refine xlz (o_mv rfl rfl rfl) ?_
    refine xlz (o_eqI (op_lenR rfl rfl rfl ty71) (m' := out.length) (by simp)) ?_
    refine xlz (o_sub rfl rfl rfl rfl (by first | omega | (simp; omega) | (simp at *; omega))) ?_
    refine xlz (o_mv rfl rfl rfl) ?_
    refine xlz (o_mv rfl rfl rfl) ?_
    refine xlz (o_eqI (op_lenR rfl rfl rfl ty71) (m' := out.length) (by simp)) ?_
    refine xlz (o_sub rfl rfl rfl rfl (by first | omega | (simp; omega) | (simp at *; omega))) ?_
    refine xlz (o_ixR' ((out.length - 1)) rfl rfl rfl rfl ty71 ty9 (by first | rfl | omega | (simp; done) | (simp; omega)) (by simp; omega) (Nat.zero_add _).symm) ?_
    refine xlz (op_loadE1 rfl rfl rfl rfl hzm ty9 rfl rfl) ?_
    refine xlz (o_mv rfl rfl rfl) ?_
    refine xlz (o_mv rfl rfl rfl) ?_
    refine xlz (o_idxS (i) rfl rfl rfl rfl ty9 (by first | rfl | omega | (simp; done) | (simp; omega)) hn) ?_
    refine xlz (o_bs rfl rfl rfl rfl rfl ty159 ty5 rfl rfl) ?_
    refine xlz (op_convB (l := [x]) rfl rfl rfl ty159 ty5 ty9) ?_
    refine xlz (op_binS rfl rfl rfl rfl rfl (fun h => by simp; omega) rfl) ?_
    refine xlz (o_ixR' ((out.length - 1)) rfl rfl rfl rfl ty71 ty9 (by first | rfl | omega | (simp; done) | (simp; omega)) (by simp; omega) (Nat.zero_add _).symm) ?_
    refine xlz (op_storeE rfl rfl rfl rfl hzm rfl rfl rfl ty9 rfl rfl rfl) ?_
    refine lend (fun _ => by kernel_rfl) ?_
    refine awp_region mixed ?_
    refine xlz (o_mv rfl rfl rfl) ?_
    refine xlz (o_add rfl rfl rfl rfl (by first | omega | (simp; omega) | (simp at *; omega))) ?_
    refine xlz (o_as rfl rfl rfl) ?_
    refine lendF ?_
    refine ⟨(i + 1, out.set (out.length - 1) (z ++ [x])), ?_, ?_, ?_⟩
    ·
     exact ⟨rng_le hn, by show 0 < (out.set (out.length - 1) (z ++ [x])).length; simpa using h1, by show (out.set (out.length - 1) (z ++ [x])).length ≤ i + 1 + 1; simp; omega, fun y hy => by (have hy : y ∈ out.set (out.length - 1) (z ++ [x]) := hy); rcases List.mem_or_eq_of_mem_set hy with h | h; (exact Nat.le_succ_of_le (h3 y h)); (subst h; have := h3 z (List.mem_of_getElem? hz); simp; omega), by show catS (out.set (out.length - 1) (z ++ [x])) (s.drop (i + 1)) = _; rw [← hI, drop_cons hn, catS, if_neg hsl, getD_get hz]⟩
    ·
     exact ent_k [] rfl rfl (.cons rfl (k_arr rfl (by simp)) <| .cons rfl (k_i (by simp)) <| .cons rfl (k_eq rfl) <| .nil) (obs_cons rfl (ko_arr (by simp [D.upd, List.map_set])) obs_nil) rfl
    ·
     show s.length - (i + 1) < s.length - i; have := rng_le hn; omega
  ·
   obtain rfl := rng_ge (l := s) hc1 hi
   refine awp_exit ?_
   refine xsr ?_
   refine xlz (o_mv rfl rfl rfl) ?_
   refine xlz (o_as rfl rfl rfl) ?_
   refine lendF ?_
   refine awp_ret ?_
   refine ⟨[_], ⟨rfl, trivial⟩, ?_⟩
   exact ent_fz1 (ds := out.map D.str) rfl (by simp) (by simp [← hI, catS, List.take_of_length_le])

set_option maxRecDepth 10000 in
theorem c156 (s : Bytes) (hs : s.length < 4611686018427387904) : Fn PR 156 [.d (.str s)] [] [.d (I (majF s))] [] := by
 refine fn_of_awp Tryz.func156 rfl (N := 48) rfl ?_
 refine xsr ?_
 refine xlz (o_as rfl rfl rfl) ?_
 refine lendF ?_
 refine awp_seq ?_
 refine xsr ?_
 refine xlz (o_mv rfl rfl rfl) ?_
 refine xlz (op_lenS rfl rfl rfl ty9) ?_
 refine xlz (op_binI rfl rfl rfl rfl rfl (.inl rfl) rfl) ?_
 refine xlz (o_mv rfl rfl rfl) ?_
 refine lsplit rfl (fun hg1 => ?_) (fun hg1 => ?_)
 ·
  refine lg (o_mv rfl rfl rfl) rfl hg1 rfl rfl ?_
  refine lg (op_lenS rfl rfl rfl ty9) rfl hg1 rfl rfl ?_
  refine lg (op_binI rfl rfl rfl rfl rfl (.inl rfl) rfl) rfl hg1 rfl rfl ?_
  refine xlz (o_pF rfl rfl (g01 hg1) rfl rfl) ?_
  refine xlz (o_mv rfl rfl rfl) ?_
  refine lsplit rfl (fun hg2 => ?_) (fun hg2 => ?_)
  ·
   refine lg (o_mv rfl rfl rfl) rfl hg2 rfl rfl ?_
   obtain ⟨c0, hc0⟩ : ∃ c, s[0]? = some c := ⟨_, List.getElem?_eq_getElem (by simp at *; omega)⟩
   have hdc0 : s.getD 0 0 = c0 := getD_get hc0
   refine lg (o_idxS (0) rfl rfl rfl rfl ty9 (by first | rfl | omega | (simp; done) | (simp; omega)) hc0) rfl hg2 rfl rfl ?_
   refine lg (op_binI rfl rfl rfl rfl rfl (.inl rfl) rfl) rfl hg2 rfl rfl ?_
   refine xlz (o_pF rfl rfl (g01 hg2) rfl rfl) ?_
   refine xlz (o_mv rfl rfl rfl) ?_
   refine lsplit rfl (fun hg3 => ?_) (fun hg3 => ?_)
   ·
    have hv0 : c0 = 118 := by have := (g01 hg3); rw [show (118 : Int) = ((118 : UInt8).toNat : Int) from rfl, neB] at this; simpa using this
    refine lg (o_mv rfl rfl rfl) rfl hg3 rfl rfl ?_
    obtain ⟨c1, hc1⟩ : ∃ c, s[1]? = some c := ⟨_, List.getElem?_eq_getElem (by simp at *; omega)⟩
    have hdc1 : s.getD 1 0 = c1 := getD_get hc1
    refine lg (o_idxS (1) rfl rfl rfl rfl ty9 (by first | rfl | omega | (simp; done) | (simp; omega)) hc1) rfl hg3 rfl rfl ?_
    refine lg (op_binI rfl rfl rfl rfl rfl (.inl rfl) rfl) rfl hg3 rfl rfl ?_
    refine lg (o_mv rfl rfl rfl) rfl hg3 rfl rfl ?_
    refine lsplit rfl (fun hg4 => ?_) (fun hg4 => ?_)
    ·
     have hv1 : c1 = 48 := by have := (g11 hg4); rw [show (48 : Int) = ((48 : UInt8).toNat : Int) from rfl, eqB] at this; simpa using this
     refine lg (o_mv rfl rfl rfl) rfl hg4 rfl rfl ?_
     refine lg (op_lenS rfl rfl rfl ty9) rfl hg4 rfl rfl ?_
     refine lg (op_binI rfl rfl rfl rfl rfl (.inl rfl) rfl) rfl hg4 rfl rfl ?_
     refine lg (o_pT rfl rfl (g11 hg4) rfl rfl) rfl hg3 rfl rfl ?_
     refine xlz (o_pF rfl rfl (g01 hg3) rfl rfl) ?_
     refine lendF ?_
     refine awp_cond rfl rfl (fun hc5 => ?_) (fun hc5 => ?_)
     ·
      refine xsr ?_
      refine xlz (o_as rfl rfl rfl) ?_
      refine lendF ?_
      refine awp_ret ?_
      refine ⟨[_], ⟨rfl, trivial⟩, ?_⟩
      first | exact ent_i rfl (by rw [hF, ← hI, drop_cons hn, digs, if_neg hdx]; rfl) | exact ent_i rfl (by rw [hF, ← hI, List.drop_length]; rfl) | exact ent_i rfl (by unfold majF; rw [if_pos (by simp at *; omega)]) | exact ent_i rfl (by unfold majF; rw [if_neg (by simp at *; omega), if_pos (by rw [hdc0]; exact hv0)]) | exact ent_i rfl (by unfold majF; rw [if_neg (by simp at *; omega), if_neg (by rw [hdc0]; simp [hv0]), if_pos (by rw [hdc1]; simp at *; exact ⟨hv1, by omega⟩)])
     ·
      refine awp_skip ?_
      refine xsr ?_
      have hl1 : 2 ≤ s.length ∧ s.length ≤ 4 := by simp at *; omega
      have hF : majF s = (digs (s.drop 1) 0).getD (-1) := by unfold majF; rw [if_neg (by omega), if_neg (by rw [hdc0]; simp [hv0]), if_neg (by rw [hdc1]; simp at *; simp [hv1]; try omega)]
      refine xlz (o_as rfl rfl rfl) ?_
      refine lendF ?_
      refine awp_seq ?_
      refine xsr ?_
      refine xlz (o_as rfl rfl rfl) ?_
      refine lendF ?_
      refine awp_block ?_
      refine awp_loop (fun x => ⟨48, [(3, .d (I x.2)), (4, .d (I (x.1 : Nat))), (0, .d (.str s))], []⟩) (fun x => s.length - x.1) (fun x => 1 ≤ x.1 ∧ x.1 ≤ s.length ∧ 0 ≤ x.2 ∧ x.2 < (10 : Int) ^ x.1 ∧ digs (s.drop x.1) x.2 = digs (s.drop 1) 0) (1, 0) ?_ ?_ ?_
      ·
       exact ent_k [] rfl rfl (xkc <| xkc <| xkc <| .nil) obs_nil rfl
      ·
       exact ⟨Nat.le_refl _, by show 1 ≤ s.length; omega, Int.le_refl _, by decide, rfl⟩
      ·
       rintro ⟨i, n⟩ ⟨h1, hi, h2, h3, hI⟩
       dsimp only at h1 hi h2 h3 hI ⊢
       refine awp_seq ?_
       refine xsr ?_
       refine xlz (o_mv rfl rfl rfl) ?_
       refine xlz (o_mv rfl rfl rfl) ?_
       refine xlz (op_lenS rfl rfl rfl ty9) ?_
       refine xlz (op_binI rfl rfl rfl rfl rfl (.inl rfl) rfl) ?_
       refine lendF ?_
       refine awp_cond rfl rfl (fun hc6 => ?_) (fun hc6 => ?_)
       ·
        obtain ⟨x, hn⟩ := rng_lt (l := s) hc6
        have hlt := rng_le hn
        have hp10 : (10 : Int) ^ i ≤ 1000 := by (have : i = 1 ∨ i = 2 ∨ i = 3 := by omega); rcases this with rfl | rfl | rfl <;> decide
        refine awp_skip ?_
        refine awp_seq ?_
        refine awp_block ?_
        refine awp_seq ?_
        refine xsr ?_
        refine xlz (o_mv rfl rfl rfl) ?_
        refine xlz (o_mv rfl rfl rfl) ?_
        refine xlz (o_idxS (i) rfl rfl rfl rfl ty9 (by first | rfl | omega | (simp; done) | (simp; omega)) hn) ?_
        refine xlz (o_call (c179 x) rfl rfl rfl ca179 rfl rfl) ?_
        refine xlz (op_not rfl rfl rfl) ?_
        refine lendF ?_
        refine awp_cond rfl rfl (fun hc7 => ?_) (fun hc7 => ?_)
        ·
         have hdx : ¬ digitB x = true := by simp_all
         refine xsr ?_
         refine xlz (o_as rfl rfl rfl) ?_
         refine lendF ?_
         refine awp_ret ?_
         refine ⟨[_], ⟨rfl, trivial⟩, ?_⟩
         first | exact ent_i rfl (by rw [hF, ← hI, drop_cons hn, digs, if_neg hdx]; rfl) | exact ent_i rfl (by rw [hF, ← hI, List.drop_length]; rfl) | exact ent_i rfl (by unfold majF; rw [if_pos (by simp at *; omega)]) | exact ent_i rfl (by unfold majF; rw [if_neg (by simp at *; omega), if_pos (by rw [hdc0]; exact hv0)]) | exact ent_i rfl (by unfold majF; rw [if_neg (by simp at *; omega), if_neg (by rw [hdc0]; simp [hv0]), if_pos (by rw [hdc1]; simp at *; exact ⟨hv1, by omega⟩)])
        ·
         have hdx : digitB x = true := by simp_all
         have hdr : 48 ≤ (x.toNat : Int) ∧ (x.toNat : Int) ≤ 57 := by simpa [digitB] using hdx
         refine awp_skip ?_
         refine awp_region mixed ?_
         refine xlz (o_mv rfl rfl rfl) ?_
         refine xlz (o_mul rfl rfl rfl rfl (by first | omega | (simp; omega) | (simp at *; omega))) ?_
         refine xlz (o_mv rfl rfl rfl) ?_
         refine xlz (o_mv rfl rfl rfl) ?_
         refine xlz (o_idxS (i) rfl rfl rfl rfl ty9 (by first | rfl | omega | (simp; done) | (simp; omega)) hn) ?_
         refine xlz (o_eqI (op_binI rfl rfl rfl rfl rfl (.inl rfl) rfl) (wrapU8 (by omega) (by omega))) ?_
         refine xlz (o_eqI (op_convI rfl rfl rfl ty5 ty3) (wrap64 (by omega) (by omega))) ?_
         refine xlz (o_add rfl rfl rfl rfl (by first | omega | (simp; omega) | (simp at *; omega))) ?_
         refine xlz (o_as rfl rfl rfl) ?_
         refine lendF ?_
         refine awp_region mixed ?_
         refine xlz (o_mv rfl rfl rfl) ?_
         refine xlz (o_add rfl rfl rfl rfl (by first | omega | (simp; omega) | (simp at *; omega))) ?_
         refine xlz (o_as rfl rfl rfl) ?_
         refine lendF ?_
         refine ⟨(i + 1, 10 * n + ((x.toNat : Int) - 48)), ?_, ?_, ?_⟩
         ·
          exact ⟨by show 1 ≤ i + 1; omega, rng_le hn, by show 0 ≤ 10 * n + ((x.toNat : Int) - 48); omega, by show 10 * n + ((x.toNat : Int) - 48) < (10 : Int) ^ (i + 1); rw [Int.pow_succ]; omega, by show digs (s.drop (i + 1)) _ = _; rw [← hI, drop_cons hn, digs, if_pos hdx]⟩
         ·
          exact ent_k [] rfl rfl (xkc <| xkc <| xkc <| .nil) obs_nil rfl
         ·
          show s.length - (i + 1) < s.length - i; omega
       ·
        obtain rfl := rng_ge (l := s) hc6 hi
        refine awp_exit ?_
        refine xsr ?_
        refine xlz (o_mv rfl rfl rfl) ?_
        refine xlz (o_as rfl rfl rfl) ?_
        refine lendF ?_
        refine awp_ret ?_
        refine ⟨[_], ⟨rfl, trivial⟩, ?_⟩
        first | exact ent_i rfl (by rw [hF, ← hI, drop_cons hn, digs, if_neg hdx]; rfl) | exact ent_i rfl (by rw [hF, ← hI, List.drop_length]; rfl) | exact ent_i rfl (by unfold majF; rw [if_pos (by simp at *; omega)]) | exact ent_i rfl (by unfold majF; rw [if_neg (by simp at *; omega), if_pos (by rw [hdc0]; exact hv0)]) | exact ent_i rfl (by unfold majF; rw [if_neg (by simp at *; omega), if_neg (by rw [hdc0]; simp [hv0]), if_pos (by rw [hdc1]; simp at *; exact ⟨hv1, by omega⟩)])
    ·
     have hv1 : ¬ c1 = 48 := by have := (g10 hg4); rw [show (48 : Int) = ((48 : UInt8).toNat : Int) from rfl, eqB] at this; simpa using this
     refine lskip rfl hg4 rfl ?_
     refine lskip rfl hg4 rfl ?_
     refine lskip rfl hg4 rfl ?_
     refine lg (o_pF rfl rfl (g10 hg4) rfl rfl) rfl hg3 rfl rfl ?_
     refine xlz (o_pF rfl rfl (g01 hg3) rfl rfl) ?_
     refine lendF ?_
     refine awp_condF rfl rfl rfl ?_
     refine awp_skip ?_
     refine xsr ?_
     have hl1 : 2 ≤ s.length ∧ s.length ≤ 4 := by simp at *; omega
     have hF : majF s = (digs (s.drop 1) 0).getD (-1) := by unfold majF; rw [if_neg (by omega), if_neg (by rw [hdc0]; simp [hv0]), if_neg (by rw [hdc1]; simp at *; simp [hv1]; try omega)]
     refine xlz (o_as rfl rfl rfl) ?_
     refine lendF ?_
     refine awp_seq ?_
     refine xsr ?_
     refine xlz (o_as rfl rfl rfl) ?_
     refine lendF ?_
     refine awp_block ?_
     refine awp_loop (fun x => ⟨48, [(3, .d (I x.2)), (4, .d (I (x.1 : Nat))), (0, .d (.str s))], []⟩) (fun x => s.length - x.1) (fun x => 1 ≤ x.1 ∧ x.1 ≤ s.length ∧ 0 ≤ x.2 ∧ x.2 < (10 : Int) ^ x.1 ∧ digs (s.drop x.1) x.2 = digs (s.drop 1) 0) (1, 0) ?_ ?_ ?_
     ·
      exact ent_k [] rfl rfl (xkc <| xkc <| xkc <| .nil) obs_nil rfl
     ·
      exact ⟨Nat.le_refl _, by show 1 ≤ s.length; omega, Int.le_refl _, by decide, rfl⟩
     ·
      rintro ⟨i, n⟩ ⟨h1, hi, h2, h3, hI⟩
      dsimp only at h1 hi h2 h3 hI ⊢
      refine awp_seq ?_
      refine xsr ?_
      refine xlz (o_mv rfl rfl rfl) ?_
      refine xlz (o_mv rfl rfl rfl) ?_
      refine xlz (op_lenS rfl rfl rfl ty9) ?_
      refine xlz (op_binI rfl rfl rfl rfl rfl (.inl rfl) rfl) ?_
      refine lendF ?_
      refine awp_cond rfl rfl (fun hc9 => ?_) (fun hc9 => ?_)
      ·
       obtain ⟨x, hn⟩ := rng_lt (l := s) hc9
       have hlt := rng_le hn
       have hp10 : (10 : Int) ^ i ≤ 1000 := by (have : i = 1 ∨ i = 2 ∨ i = 3 := by omega); rcases this with rfl | rfl | rfl <;> decide
       refine awp_skip ?_
       refine awp_seq ?_
       refine awp_block ?_
       refine awp_seq ?_
       refine xsr ?_
       refine xlz (o_mv rfl rfl rfl) ?_
       refine xlz (o_mv rfl rfl rfl) ?_
       refine xlz (o_idxS (i) rfl rfl rfl rfl ty9 (by first | rfl | omega | (simp; done) | (simp; omega)) hn) ?_
       refine xlz (o_call (c179 x) rfl rfl rfl ca179 rfl rfl) ?_
       refine xlz (op_not rfl rfl rfl) ?_
       refine lendF ?_
       refine awp_cond rfl rfl (fun hc10 => ?_) (fun hc10 => ?_)
       ·
        have hdx : ¬ digitB x = true := by simp_all
        refine xsr ?_
        refine xlz (o_as rfl rfl rfl) ?_
        refine lendF ?_
        refine awp_ret ?_
        refine ⟨[_], ⟨rfl, trivial⟩, ?_⟩
        first | exact ent_i rfl (by rw [hF, ← hI, drop_cons hn, digs, if_neg hdx]; rfl) | exact ent_i rfl (by rw [hF, ← hI, List.drop_length]; rfl) | exact ent_i rfl (by unfold majF; rw [if_pos (by simp at *; omega)]) | exact ent_i rfl (by unfold majF; rw [if_neg (by simp at *; omega), if_pos (by rw [hdc0]; exact hv0)]) | exact ent_i rfl (by unfold majF; rw [if_neg (by simp at *; omega), if_neg (by rw [hdc0]; simp [hv0]), if_pos (by rw [hdc1]; simp at *; exact ⟨hv1, by omega⟩)])
       ·
        have hdx : digitB x = true := by simp_all
        have hdr : 48 ≤ (x.toNat : Int) ∧ (x.toNat : Int) ≤ 57 := by simpa [digitB] using hdx
        refine awp_skip ?_
        refine awp_region mixed ?_
        refine xlz (o_mv rfl rfl rfl) ?_
        refine xlz (o_mul rfl rfl rfl rfl (by first | omega | (simp; omega) | (simp at *; omega))) ?_
        refine xlz (o_mv rfl rfl rfl) ?_
        refine xlz (o_mv rfl rfl rfl) ?_
        refine xlz (o_idxS (i) rfl rfl rfl rfl ty9 (by first | rfl | omega | (simp; done) | (simp; omega)) hn) ?_
        refine xlz (o_eqI (op_binI rfl rfl rfl rfl rfl (.inl rfl) rfl) (wrapU8 (by omega) (by omega))) ?_
        refine xlz (o_eqI (op_convI rfl rfl rfl ty5 ty3) (wrap64 (by omega) (by omega))) ?_
        refine xlz (o_add rfl rfl rfl rfl (by first | omega | (simp; omega) | (simp at *; omega))) ?_
        refine xlz (o_as rfl rfl rfl) ?_
        refine lendF ?_
        refine awp_region mixed ?_
        refine xlz (o_mv rfl rfl rfl) ?_
        refine xlz (o_add rfl rfl rfl rfl (by first | omega | (simp; omega) | (simp at *; omega))) ?_
        refine xlz (o_as rfl rfl rfl) ?_
        refine lendF ?_
        refine ⟨(i + 1, 10 * n + ((x.toNat : Int) - 48)), ?_, ?_, ?_⟩
        ·
         exact ⟨by show 1 ≤ i + 1; omega, rng_le hn, by show 0 ≤ 10 * n + ((x.toNat : Int) - 48); omega, by show 10 * n + ((x.toNat : Int) - 48) < (10 : Int) ^ (i + 1); rw [Int.pow_succ]; omega, by show digs (s.drop (i + 1)) _ = _; rw [← hI, drop_cons hn, digs, if_pos hdx]⟩
        ·
         exact ent_k [] rfl rfl (xkc <| xkc <| xkc <| .nil) obs_nil rfl
        ·
         show s.length - (i + 1) < s.length - i; omega
      ·
       obtain rfl := rng_ge (l := s) hc9 hi
       refine awp_exit ?_
       refine xsr ?_
       refine xlz (o_mv rfl rfl rfl) ?_
       refine xlz (o_as rfl rfl rfl) ?_
       refine lendF ?_
       refine awp_ret ?_
       refine ⟨[_], ⟨rfl, trivial⟩, ?_⟩
       first | exact ent_i rfl (by rw [hF, ← hI, drop_cons hn, digs, if_neg hdx]; rfl) | exact ent_i rfl (by rw [hF, ← hI, List.drop_length]; rfl) | exact ent_i rfl (by unfold majF; rw [if_pos (by simp at *; omega)]) | exact ent_i rfl (by unfold majF; rw [if_neg (by simp at *; omega), if_pos (by rw [hdc0]; exact hv0)]) | exact ent_i rfl (by unfold majF; rw [if_neg (by simp at *; omega), if_neg (by rw [hdc0]; simp [hv0]), if_pos (by rw [hdc1]; simp at *; exact ⟨hv1, by omega⟩)])
   ·
    have hv0 : ¬ c0 = 118 := by have := (g00 hg3); rw [show (118 : Int) = ((118 : UInt8).toNat : Int) from rfl, neB] at this; simpa using this
    refine lskip rfl hg3 rfl ?_
    refine lskip rfl hg3 rfl ?_
    refine lskip rfl hg3 rfl ?_
    refine lskip rfl hg3 rfl ?_
    refine lskip rfl rfl rfl ?_
    refine lskip rfl rfl rfl ?_
    refine lskip rfl rfl rfl ?_
    refine lskip rfl hg3 rfl ?_
    refine xlz (o_pT rfl rfl (g00 hg3) rfl rfl) ?_
    refine lendF ?_
    refine awp_condT rfl rfl rfl ?_
    refine xsr ?_
    refine xlz (o_as rfl rfl rfl) ?_
    refine lendF ?_
    refine awp_ret ?_
    refine ⟨[_], ⟨rfl, trivial⟩, ?_⟩
    first | exact ent_i rfl (by rw [hF, ← hI, drop_cons hn, digs, if_neg hdx]; rfl) | exact ent_i rfl (by rw [hF, ← hI, List.drop_length]; rfl) | exact ent_i rfl (by unfold majF; rw [if_pos (by simp at *; omega)]) | exact ent_i rfl (by unfold majF; rw [if_neg (by simp at *; omega), if_pos (by rw [hdc0]; exact hv0)]) | exact ent_i rfl (by unfold majF; rw [if_neg (by simp at *; omega), if_neg (by rw [hdc0]; simp [hv0]), if_pos (by rw [hdc1]; simp at *; exact ⟨hv1, by omega⟩)])
  ·
   refine lskip rfl hg2 rfl ?_
   refine lskip rfl hg2 rfl ?_
   refine lskip rfl hg2 rfl ?_
   refine xlz (o_pT rfl rfl (g00 hg2) rfl rfl) ?_
   refine xlz (o_mv rfl rfl rfl) ?_
   refine lskip rfl rfl rfl ?_
   refine lskip rfl rfl rfl ?_
   refine lskip rfl rfl rfl ?_
   refine lskip rfl rfl rfl ?_
   refine lskip rfl rfl rfl ?_
   refine lskip rfl rfl rfl ?_
   refine lskip rfl rfl rfl ?_
   refine lskip rfl rfl rfl ?_
   refine xlz (o_pT rfl rfl rfl rfl rfl) ?_
   refine lendF ?_
   refine awp_condT rfl rfl rfl ?_
   refine xsr ?_
   refine xlz (o_as rfl rfl rfl) ?_
   refine lendF ?_
   refine awp_ret ?_
   refine ⟨[_], ⟨rfl, trivial⟩, ?_⟩
   first | exact ent_i rfl (by rw [hF, ← hI, drop_cons hn, digs, if_neg hdx]; rfl) | exact ent_i rfl (by rw [hF, ← hI, List.drop_length]; rfl) | exact ent_i rfl (by unfold majF; rw [if_pos (by simp at *; omega)]) | exact ent_i rfl (by unfold majF; rw [if_neg (by simp at *; omega), if_pos (by rw [hdc0]; exact hv0)]) | exact ent_i rfl (by unfold majF; rw [if_neg (by simp at *; omega), if_neg (by rw [hdc0]; simp [hv0]), if_pos (by rw [hdc1]; simp at *; exact ⟨hv1, by omega⟩)])
 ·
  refine lskip rfl hg1 rfl ?_
  refine lskip rfl hg1 rfl ?_
  refine lskip rfl hg1 rfl ?_
  refine xlz (o_pT rfl rfl (g00 hg1) rfl rfl) ?_
  refine xlz (o_mv rfl rfl rfl) ?_
  refine lskip rfl rfl rfl ?_
  refine lskip rfl rfl rfl ?_
  refine lskip rfl rfl rfl ?_
  refine xlz (o_pT rfl rfl rfl rfl rfl) ?_
  refine xlz (o_mv rfl rfl rfl) ?_
  refine lskip rfl rfl rfl ?_
  refine lskip rfl rfl rfl ?_
  refine lskip rfl rfl rfl ?_
  refine lskip rfl rfl rfl ?_
  refine lskip rfl rfl rfl ?_
  refine lskip rfl rfl rfl ?_
  refine lskip rfl rfl rfl ?_
  refine lskip rfl rfl rfl ?_
  refine xlz (o_pT rfl rfl rfl rfl rfl) ?_
  refine lendF ?_
  refine awp_condT rfl rfl rfl ?_
  refine xsr ?_
  refine xlz (o_as rfl rfl rfl) ?_
  refine lendF ?_
  refine awp_ret ?_
  refine ⟨[_], ⟨rfl, trivial⟩, ?_⟩
  first | exact ent_i rfl (by rw [hF, ← hI, drop_cons hn, digs, if_neg hdx]; rfl) | exact ent_i rfl (by rw [hF, ← hI, List.drop_length]; rfl) | exact ent_i rfl (by unfold majF; rw [if_pos (by simp at *; omega)]) | exact ent_i rfl (by unfold majF; rw [if_neg (by simp at *; omega), if_pos (by rw [hdc0]; exact hv0)]) | exact ent_i rfl (by unfold majF; rw [if_neg (by simp at *; omega), if_neg (by rw [hdc0]; simp [hv0]), if_pos (by rw [hdc1]; simp at *; exact ⟨hv1, by omega⟩)])

set_option maxRecDepth 10000 in
theorem c133 (p : Bytes) (hs : p.length < 4611686018427387904) : Fn PR 133 [.d (.str p)] [] [.d (I (majorF p).1), .d (I (majorF p).2)] [] := by
 refine fn_of_awp Tryz.func133 rfl (N := 39) rfl ?_
 refine xsr ?_
 refine xlz (o_as rfl rfl rfl) ?_
 refine xlz (o_as rfl rfl rfl) ?_
 refine lendF ?_
 refine awp_seq ?_
 refine xsr ?_
 refine xlz (o_mv rfl rfl rfl) ?_
 refine xlz (op_lenS rfl rfl rfl ty9) ?_
 refine xlz (op_binI rfl rfl rfl rfl rfl (.inl rfl) rfl) ?_
 refine lendF ?_
 refine awp_cond rfl rfl (fun hc1 => ?_) (fun hc1 => ?_)
 ·
  have h64 : p.length > 64 := by simp at *; omega
  refine xsr ?_
  refine xlz (o_as rfl rfl rfl) ?_
  refine xlz (o_as rfl rfl rfl) ?_
  refine lendF ?_
  refine awp_ret ?_
  refine ⟨[_, _], ⟨rfl, rfl, trivial⟩, ?_⟩
  rw [show majorF p = (0, 4) from by unfold majorF; rw [if_pos h64]]
  exact ent_d2 rfl rfl rfl rfl
 ·
  have h64 : p.length ≤ 64 := by simp at *; omega
  have hne : ¬ p.length > 64 := by omega
  have hsl := segsF_len p
  have hsp := segsF_pos p
  have hsm := segsF_mem p
  obtain ⟨z, hz⟩ := last_get hsp
  have hgz := getD_get (d := []) hz
  refine awp_skip ?_
  refine xsr ?_
  refine xlz (o_mv rfl rfl rfl) ?_
  refine xlz (o_call (c154 p h64) rfl rfl rfl ca154 rfl rfl) ?_
  refine xlz (o_as rfl rfl rfl) ?_
  refine lendF ?_
  refine awp_seq ?_
  refine xsr ?_
  refine xlz (o_as rfl rfl rfl) ?_
  refine lendF ?_
  refine awp_block ?_
  refine awp_loop (fun i => ⟨39, [(5, .d (I (i : Nat))), (4, .d (.list ((segsF p).map .str)))], []⟩) (fun i => (segsF p).length - i) (fun i => i ≤ (segsF p).length ∧ ((segsF p).drop i).all segOK = (segsF p).all segOK) 0 ?_ ?_ ?_
  ·
   exact ent_k [] rfl rfl (xkc <| xkc <| .nil) obs_nil rfl
  ·
   exact ⟨Nat.zero_le _, rfl⟩
  ·
   rintro i ⟨hi, hI⟩
   refine awp_seq ?_
   refine xsr ?_
   refine xlz (o_mv rfl rfl rfl) ?_
   refine xlz (o_mv rfl rfl rfl) ?_
   refine xlz (o_lenE (n := (segsF p).length) rfl rfl rfl ty71 (by simp)) ?_
   refine xlz (op_binI rfl rfl rfl rfl rfl (.inl rfl) rfl) ?_
   refine lendF ?_
   refine awp_cond rfl rfl (fun hc2 => ?_) (fun hc2 => ?_)
   ·
    obtain ⟨x, hn⟩ := rng_lt (l := (segsF p)) (by simpa using hc2)
    have hlt := rng_le hn
    have hmem := List.mem_of_getElem? hn
    refine awp_skip ?_
    refine awp_seq ?_
    refine awp_block ?_
    refine xsr ?_
    refine xlz (o_mv rfl rfl rfl) ?_
    refine xlz (o_mv rfl rfl rfl) ?_
    refine xlz (o_ixN (i) rfl rfl rfl rfl ty71 (by first | rfl | omega | (simp; done) | (simp; omega)) hn ty9) ?_
    refine xlz (op_loadC1 rfl rfl rfl ty9 rfl rfl) ?_
    refine xlz (o_call (c155 x (by have := hsm x hmem; omega)) rfl rfl rfl ca155 rfl rfl) ?_
    refine xlz (op_not rfl rfl rfl) ?_
    refine lendF ?_
    refine awp_cond rfl rfl (fun hc3 => ?_) (fun hc3 => ?_)
    ·
     refine xsr ?_
     refine xlz (o_as rfl rfl rfl) ?_
     refine xlz (o_as rfl rfl rfl) ?_
     refine lendF ?_
     refine awp_ret ?_
     refine ⟨[_, _], ⟨rfl, rfl, trivial⟩, ?_⟩
     rw [show majorF p = (0, 4) from by unfold majorF; rw [if_neg hne, if_neg (by rw [← hI, drop_cons hn]; simp_all)]]
     exact ent_d2 rfl rfl rfl rfl
    ·
     refine awp_skip ?_
     refine awp_region mixed ?_
     refine xlz (o_mv rfl rfl rfl) ?_
     refine xlz (o_add rfl rfl rfl rfl (by first | omega | (simp; omega) | (simp at *; omega))) ?_
     refine xlz (o_as rfl rfl rfl) ?_
     refine lendF ?_
     refine ⟨i + 1, ?_, ?_, ?_⟩
     ·
      exact ⟨rng_le hn, by rw [← hI, drop_cons hn]; simp_all⟩
     ·
      exact ent_k [] rfl rfl (xkc <| xkc <| .nil) obs_nil rfl
     ·
      omega
   ·
    obtain rfl := rng_ge (l := (segsF p)) (by simpa using hc2) hi
    refine awp_exit ?_
    refine xsr ?_
    refine xlz (o_mv rfl rfl rfl) ?_
    refine xlz (o_mv rfl rfl rfl) ?_
    refine xlz (o_lenE (n := (segsF p).length) rfl rfl rfl ty71 (by simp)) ?_
    refine xlz (o_sub rfl rfl rfl rfl (by first | omega | (simp; omega) | (simp at *; omega))) ?_
    refine xlz (o_ixN (((segsF p).length - 1)) rfl rfl rfl rfl ty71 (by first | rfl | omega | (simp; done) | (simp; omega)) hz ty9) ?_
    refine xlz (op_loadC1 rfl rfl rfl ty9 rfl rfl) ?_
    refine xlz (o_call (c156 z (by have := hsm z (List.mem_of_getElem? hz); omega)) rfl rfl rfl ca156 rfl rfl) ?_
    refine xlz (o_as rfl rfl rfl) ?_
    refine lendF ?_
    refine awp_seq ?_
    refine xsr ?_
    refine xlz (o_mv rfl rfl rfl) ?_
    refine xlz (o_lenE (n := (segsF p).length) rfl rfl rfl ty71 (by simp)) ?_
    refine xlz (op_binI rfl rfl rfl rfl rfl (.inl rfl) rfl) ?_
    refine xlz (o_mv rfl rfl rfl) ?_
    refine lsplit rfl (fun hg4 => ?_) (fun hg4 => ?_)
    ·
     refine lg (o_mv rfl rfl rfl) rfl hg4 rfl rfl ?_
     refine lg (op_binI rfl rfl rfl rfl rfl (.inl rfl) rfl) rfl hg4 rfl rfl ?_
     refine xlz (o_pF rfl rfl (g01 hg4) rfl rfl) ?_
     refine lendF ?_
     refine awp_cond rfl rfl (fun hc5 => ?_) (fun hc5 => ?_)
     ·
      refine xsr ?_
      refine xlz (o_as rfl rfl rfl) ?_
      refine xlz (o_as rfl rfl rfl) ?_
      refine lendF ?_
      refine awp_ret ?_
      refine ⟨[_, _], ⟨rfl, rfl, trivial⟩, ?_⟩
      have hall : (segsF p).all segOK = true := by rw [← hI, List.drop_length]; rfl
      first | (rw [show majorF p = (0, 4) from by unfold majorF; rw [if_neg hne, if_pos hall, if_pos (by rw [hgz]; simp at *; omega)]]; exact ent_d2 rfl rfl rfl rfl) | (rw [show majorF p = (majF z, 0) from by unfold majorF; rw [if_neg hne, if_pos hall, if_neg (by rw [hgz]; simp at *; omega), hgz]]; exact ent_d2 rfl rfl rfl rfl)
     ·
      refine awp_skip ?_
      refine xsr ?_
      refine xlz (o_mv rfl rfl rfl) ?_
      refine xlz (o_as rfl rfl rfl) ?_
      refine xlz (o_as rfl rfl rfl) ?_
      refine lendF ?_
      refine awp_ret ?_
      refine ⟨[_, _], ⟨rfl, rfl, trivial⟩, ?_⟩
      have hall : (segsF p).all segOK = true := by rw [← hI, List.drop_length]; rfl
      first | (rw [show majorF p = (0, 4) from by unfold majorF; rw [if_neg hne, if_pos hall, if_pos (by rw [hgz]; simp at *; omega)]]; exact ent_d2 rfl rfl rfl rfl) | (rw [show majorF p = (majF z, 0) from by unfold majorF; rw [if_neg hne, if_pos hall, if_neg (by rw [hgz]; simp at *; omega), hgz]]; exact ent_d2 rfl rfl rfl rfl)
    ·
     refine lskip rfl hg4 rfl ?_
     refine lskip rfl hg4 rfl ?_
     refine xlz (o_pT rfl rfl (g00 hg4) rfl rfl) ?_
     refine lendF ?_
     refine awp_condT rfl rfl rfl ?_
     refine xsr ?_
     refine xlz (o_as rfl rfl rfl) ?_
     refine xlz (o_as rfl rfl rfl) ?_
     refine lendF ?_
     refine awp_ret ?_
     refine ⟨[_, _], ⟨rfl, rfl, trivial⟩, ?_⟩
     have hall : (segsF p).all segOK = true := by rw [← hI, List.drop_length]; rfl
     first | (rw [show majorF p = (0, 4) from by unfold majorF; rw [if_neg hne, if_pos hall, if_pos (by rw [hgz]; simp at *; omega)]]; exact ent_d2 rfl rfl rfl rfl) | (rw [show majorF p = (majF z, 0) from by unfold majorF; rw [if_neg hne, if_pos hall, if_neg (by rw [hgz]; simp at *; omega), hgz]]; exact ent_d2 rfl rfl rfl rfl)

set_option maxRecDepth 10000 in
theorem c132 (p : Bytes) (hs : p.length < 4611686018427387904) : Fn PR 132 [.d (.str p)] [] [.d (.bool (isPath p))] [] := by
 refine fn_of_awp Tryz.func132 rfl (N := 12) rfl ?_
 refine xsr ?_
 refine xlz (o_as rfl rfl rfl) ?_
 refine lendF ?_
 refine xsr ?_
 refine xlz (o_mv rfl rfl rfl) ?_
 refine xlz (o_call (c133 p hs) rfl rfl rfl ca133 rfl rfl) ?_
 refine xlz (o_mv rfl rfl rfl) ?_
 refine xlz (op_extract rfl rfl rfl rfl) ?_
 refine xlz (op_extract rfl rfl rfl rfl) ?_
 refine xlz (o_as rfl rfl rfl) ?_
 refine xlz (o_as rfl rfl rfl) ?_
 refine lendF ?_
 refine xsr ?_
 refine xlz (o_mv rfl rfl rfl) ?_
 refine xlz (op_binI rfl rfl rfl rfl rfl (.inl rfl) rfl) ?_
 refine xlz (o_as rfl rfl rfl) ?_
 refine lendF ?_
 refine awp_ret ?_
 refine ⟨[_], ⟨rfl, trivial⟩, ?_⟩
 exact ent_b rfl (by unfold isPath; rw [Bool.eq_iff_iff]; simp)

set_option maxRecDepth 10000 in
theorem c108 (p : Bytes) (hs : p.length < 4611686018427387904) : Fn PR 108 [.d (.str p)] [] [.undef, .d (I (if isPath p then (majorF p).1 else 0)), .d (I (if isPath p then 0 else 4))] [] := by
 refine fn_of_awp Tryz.func108 rfl (N := 31) rfl ?_
 refine xsr ?_
 refine xlz (o_as rfl rfl rfl) ?_
 refine xlz (o_as rfl rfl rfl) ?_
 refine xlz (o_as rfl rfl rfl) ?_
 refine lendF ?_
 refine awp_seq ?_
 refine xsr ?_
 refine xlz (o_mv rfl rfl rfl) ?_
 refine xlz (o_call (c132 p hs) rfl rfl rfl ca132 rfl rfl) ?_
 refine xlz (op_not rfl rfl rfl) ?_
 refine lendF ?_
 refine awp_cond rfl rfl (fun hc1 => ?_) (fun hc1 => ?_)
 ·
  have hp : isPath p = false := by simp_all
  refine xsr ?_
  refine xlz (o_as rfl rfl rfl) ?_
  refine xlz (o_as rfl rfl rfl) ?_
  refine xlz (o_as rfl rfl rfl) ?_
  refine lendF ?_
  refine awp_ret ?_
  refine ⟨[_, _, _], ⟨rfl, rfl, rfl, trivial⟩, ?_⟩
  first | exact ent_id rfl (.cons rfl (.undef _) (.cons rfl (k_i (by simp [hp])) (.cons rfl (k_i (by simp [hp])) .nil))) obs_nil rfl
 ·
  have hp : isPath p = true := by simp_all
  have hl := isPath_len hp
  have h0 := isPath_ok hp
  obtain ⟨j, hj⟩ := isPath_slash hp
  have hjl := rng_le hj
  refine awp_skip ?_
  refine xsr ?_
  refine xlz (o_mv rfl rfl rfl) ?_
  refine xlz (o_call (c133 p hs) rfl rfl rfl ca133 rfl rfl) ?_
  refine xlz (o_mv rfl rfl rfl) ?_
  refine xlz (op_extract rfl rfl rfl rfl) ?_
  refine xlz (op_extract rfl rfl rfl rfl) ?_
  refine xlz (o_as rfl rfl rfl) ?_
  refine xlz (o_as rfl rfl rfl) ?_
  refine lendF ?_
  refine awp_seq ?_
  refine xsr ?_
  refine xlz (o_mv rfl rfl rfl) ?_
  refine xlz (op_binI rfl rfl rfl rfl rfl (.inl rfl) rfl) ?_
  refine lendF ?_
  refine awp_cond rfl rfl (fun hc2 => ?_) (fun hc2 => ?_)
  ·
   exact absurd hc2 (by simp [h0])
  ·
   refine awp_skip ?_
   refine xsr ?_
   refine xlz (o_mv rfl rfl rfl) ?_
   refine xlz (op_lenS rfl rfl rfl ty9) ?_
   refine xlz (o_sub rfl rfl rfl rfl (by first | omega | (simp; omega) | (simp at *; omega))) ?_
   refine xlz (o_as rfl rfl rfl) ?_
   refine lendF ?_
   refine awp_seq ?_
   refine awp_block ?_
   refine awp_loop (fun k => ⟨31, [(7, .d (I (k : Nat))), (0, .d (.str p)), (5, .d (I (majorF p).1))], []⟩) (fun k => k) (fun k => k < p.length ∧ j ≤ k) (p.length - 1) ?_ ?_ ?_
   ·
    exact ent_k [] rfl rfl (.cons rfl (k_i (by omega)) <| xkc <| xkc <| .nil) obs_nil rfl
   ·
    exact ⟨by omega, by omega⟩
   ·
    rintro k ⟨hk, hjk⟩
    obtain ⟨x, hn⟩ : ∃ x, p[k]? = some x := ⟨_, List.getElem?_eq_getElem hk⟩
    refine awp_seq ?_
    refine xsr ?_
    refine xlz (o_mv rfl rfl rfl) ?_
    refine xlz (o_mv rfl rfl rfl) ?_
    refine xlz (o_idxS (k) rfl rfl rfl rfl ty9 (by first | rfl | omega | (simp; done) | (simp; omega)) hn) ?_
    refine xlz (op_binI rfl rfl rfl rfl rfl (.inl rfl) rfl) ?_
    refine lendF ?_
    refine awp_cond rfl rfl (fun hc3 => ?_) (fun hc3 => ?_)
    ·
     have hx : ¬ x = 47 := by have := hc3; rw [show (47 : Int) = ((47 : UInt8).toNat : Int) from rfl, neB] at this; simpa using this
     have hjk : j < k := by rcases Nat.lt_or_ge j k with h | h; (exact h); (have : j = k := by omega); (subst this; rw [hn] at hj; injection hj with hj; exact absurd hj hx)
     refine awp_skip ?_
     refine awp_block ?_
     refine awp_region mixed ?_
     refine xlz (o_mv rfl rfl rfl) ?_
     refine xlz (o_sub rfl rfl rfl rfl (by first | omega | (simp; omega) | (simp at *; omega))) ?_
     refine xlz (o_as rfl rfl rfl) ?_
     refine lendF ?_
     refine ⟨k - 1, ?_, ?_, ?_⟩
     ·
      exact ⟨by omega, by omega⟩
     ·
      exact ent_k [] rfl rfl (.cons rfl (k_i (by omega)) <| xkc <| xkc <| .nil) obs_nil rfl
     ·
      omega
    ·
     refine awp_exit ?_
     refine xsr ?_
     refine xlz (o_mv rfl rfl rfl) ?_
     refine xlz (o_mv rfl rfl rfl) ?_
     refine xlz (o_slS rfl rfl rfl ty9 .none (.some rfl rfl (n := k) (by first | rfl | omega | (simp; done) | (simp; omega))) (by first | omega | (simp; omega) | (simp at *; omega)) (by first | omega | (simp; omega) | (simp at *; omega))) ?_
     refine xlz (o_mv rfl rfl rfl) ?_
     refine xlz (o_as rfl rfl rfl) ?_
     refine xlz (o_as rfl rfl rfl) ?_
     refine xlz (o_as rfl rfl rfl) ?_
     refine lendF ?_
     refine awp_ret ?_
     refine ⟨[_, _, _], ⟨rfl, rfl, rfl, trivial⟩, ?_⟩
     first | exact ent_id rfl (.cons rfl (.undef _) (.cons rfl (k_i (by simp [hp])) (.cons rfl (k_i (by simp [hp])) .nil))) obs_nil rfl

set_option maxRecDepth 10000 in
theorem c73 (p : Bytes) (hs : p.length < 4611686018427387904) : Fn PR 73 [.d (.str p)] [] [.d (I (majN p))] [] := by
 refine fn_of_awp Tryz.func73 rfl (N := 15) rfl ?_
 refine xsr ?_
 refine xlz (o_as rfl rfl rfl) ?_
 refine lendF ?_
 refine xsr ?_
 refine xlz (o_mv rfl rfl rfl) ?_
 refine xlz (o_call (c108 p hs) rfl rfl rfl ca108 rfl rfl) ?_
 refine xlz (o_mv rfl rfl rfl) ?_
 refine xlz (op_extract rfl rfl rfl rfl) ?_
 refine xlz (op_extract rfl rfl rfl rfl) ?_
 refine xlz (op_extract rfl rfl rfl rfl) ?_
 refine xlz (o_as rfl rfl rfl) ?_
 refine xlz (o_as rfl rfl rfl) ?_
 refine xlz (o_as rfl rfl rfl) ?_
 refine lendF ?_
 refine awp_seq ?_
 refine xsr ?_
 refine xlz (o_mv rfl rfl rfl) ?_
 refine xlz (op_binI rfl rfl rfl rfl rfl (.inl rfl) rfl) ?_
 refine lendF ?_
 refine awp_cond rfl rfl (fun hc1 => ?_) (fun hc1 => ?_)
 ·
  refine xsr ?_
  refine xlz (o_as rfl rfl rfl) ?_
  refine lendF ?_
  refine awp_ret ?_
  refine ⟨[_], ⟨rfl, trivial⟩, ?_⟩
  exact ent_i rfl (by unfold majN; simp_all)
 ·
  refine awp_skip ?_
  refine xsr ?_
  refine xlz (o_mv rfl rfl rfl) ?_
  refine xlz (o_as rfl rfl rfl) ?_
  refine lendF ?_
  refine awp_ret ?_
  refine ⟨[_], ⟨rfl, trivial⟩, ?_⟩
  exact ent_i rfl (by unfold majN; simp_all)

end Go.Pm

namespace Go.Pm
open Go.Proofs

set_option maxRecDepth 100000 in
theorem c88 (s : List Span) (hs : s.length ≤ 1000000) : Fn PR 88 [.d (setD s)] [] [.d (setD (canonS s))] [] := by
 refine fn_of_awp Tryz.func88 rfl (N := 113) rfl ?_
 refine xsr ?_
 refine xlz (o_as rfl rfl rfl) ?_
 refine lendF ?_
 refine xsr ?_
 refine xlz (o_bs rfl rfl rfl rfl rfl ty49 ty78 rfl rfl) ?_
 refine xlz (o_as rfl rfl rfl) ?_
 refine lendF ?_
 refine awp_seq ?_
 refine xsr ?_
 refine xlz (o_as rfl rfl rfl) ?_
 refine lendF ?_
 refine awp_block ?_
 refine awp_loop (fun x => ⟨113, [(3, .d (.list (x.2.map Span.d))), (4, .d (I (x.1 : Nat))), (0, .d (setD s))], []⟩) (fun x => s.length - x.1) (fun x => x.1 ≤ s.length ∧ x.2.length ≤ x.1 ∧ canon1 x.2 (s.drop x.1) = canon1 [] s) (0, []) ?_ ?_ ?_
 ·
  exact ent_k [] rfl rfl (xkc <| xkc <| xkc <| .nil) obs_nil rfl
 ·
  exact ⟨Nat.zero_le _, Nat.le_refl _, rfl⟩
 ·
  rintro ⟨i, l⟩ ⟨hi, hl, hI⟩
  dsimp only at hi hl hI ⊢
  refine awp_seq ?_
  refine xsr ?_
  refine xlz (o_mv rfl rfl rfl) ?_
  refine xlz (o_mv rfl rfl rfl) ?_
  refine xlz (o_lenE (n := s.length) rfl rfl rfl ty49 (by simp)) ?_
  refine xlz (op_binI rfl rfl rfl rfl rfl (.inl rfl) rfl) ?_
  refine lendF ?_
  refine awp_cond rfl rfl (fun hc1 => ?_) (fun hc1 => ?_)
  ·
   obtain ⟨x, hn⟩ := rng_lt (l := s) (by simpa using hc1)
   have hlt := rng_le hn
   have hmem := List.mem_of_getElem? hn
   refine awp_skip ?_
   refine awp_seq ?_
   refine awp_block ?_
   refine xsr ?_
   refine xlz (o_mv rfl rfl rfl) ?_
   refine xlz (o_mv rfl rfl rfl) ?_
   refine xlz (o_ixN (i) rfl rfl rfl rfl ty49 (by first | rfl | omega | (simp; done) | (simp; omega)) hn ty78) ?_
   refine xlz (op_fieldC rfl rfl rfl fl78_0) ?_
   refine xlz (op_loadC1 rfl rfl rfl ty3 rfl rfl) ?_
   refine xlz (op_max rfl rfl rfl rfl rfl) ?_
   refine xlz (o_mv rfl rfl rfl) ?_
   refine xlz (o_mv rfl rfl rfl) ?_
   refine xlz (o_ixN (i) rfl rfl rfl rfl ty49 (by first | rfl | omega | (simp; done) | (simp; omega)) hn ty78) ?_
   refine xlz (op_fieldC rfl rfl rfl fl78_1) ?_
   refine xlz (op_loadC1 rfl rfl rfl ty3 rfl rfl) ?_
   refine xlz (op_min rfl rfl rfl rfl rfl) ?_
   refine xlz (o_bld rfl rfl rfl bl78 ty78 zk78 rfl rfl rfl) ?_
   refine xlz (op_alloc rfl rfl (by decide) ty78 zk78 rfl) ?_
   refine xlz (op_store rfl rfl rfl rfl rfl rfl ty78 rfl (xlb rfl)) ?_
   refine lend (fun _ => by kernel_rfl) ?_
   refine awp_seq ?_
   refine xsr ?_
   refine xlz (op_fieldP rfl rfl rfl fl78_0) ?_
   refine xlz (op_load1 rfl rfl rfl rfl ty3 rfl rfl) ?_
   refine xlz (op_fieldP rfl rfl rfl fl78_1) ?_
   refine xlz (op_load1 rfl rfl rfl rfl ty3 rfl rfl) ?_
   refine xlz (op_binI rfl rfl rfl rfl rfl (.inl rfl) rfl) ?_
   refine lendF ?_
   refine awp_cond rfl rfl (fun hc2 => ?_) (fun hc2 => ?_)
   ·
    have hge : (clampS x).lo ≥ (clampS x).hi := by have := hc2; simp at this; exact this
    refine awp_exit ?_
    refine awp_region mixed ?_
    refine xlz (o_mv rfl rfl rfl) ?_
    refine xlz (o_add rfl rfl rfl rfl (by first | omega | (simp; omega) | (simp at *; omega))) ?_
    refine xlz (o_as rfl rfl rfl) ?_
    refine lendF ?_
    refine ⟨(i + 1, l), ?_, ?_, ?_⟩
    ·
     exact ⟨rng_le hn, by show l.length ≤ i + 1; omega, by show canon1 l (s.drop (i + 1)) = _; rw [← hI, drop_cons hn, canon1, if_pos hge]⟩
    ·
     exact ent_k [] rfl rfl (xkc <| xkc <| xkc <| .nil) obs_nil rfl
    ·
     show s.length - (i + 1) < s.length - i; have := rng_le hn; omega
   ·
    have hge : ¬ (clampS x).lo ≥ (clampS x).hi := by have := hc2; simp at this; simp [clampS]; omega
    refine awp_skip ?_
    refine xsr ?_
    refine xlz (o_mv rfl rfl rfl) ?_
    refine xlz (o_eqI (o_lenE (n := l.length) rfl rfl rfl ty49 (by simp)) (m' := l.length) (by simp)) ?_
    refine xlz (o_as rfl rfl rfl) ?_
    refine lendF ?_
    refine awp_seq ?_
    refine awp_block ?_
    refine awp_loop (fun k => ⟨113, [(6, .d (I (k : Nat))), (0, .d (setD s)), (3, .d (.list (l.map Span.d))), (4, .d (I (i : Nat))), (5, .ptr 5 0), (11, .d (I (i : Nat))), (12, .d (setD s)), (13, .d (I s.length)), (17, .d (setD s)), (18, .d (I (i : Nat))), (21, .d (I x.lo)), (22, .d (I (clampS x).lo)), (23, .d (setD s)), (24, .d (I (i : Nat))), (27, .d (I x.hi)), (28, .d (I (clampS x).hi)), (29, .d (.agg [I (clampS x).lo, I (clampS x).hi])), (30, .ptr 5 0), (31, .d (I (clampS x).lo)), (32, .ptr 5 1), (33, .d (I (clampS x).hi)), (35, .d (.list (l.map Span.d))), (36, .d (I l.length))], [(5, .cells [.d (I (clampS x).lo), .d (I (clampS x).hi)])]⟩) (fun k => k) (fun k => k ≤ l.length ∧ posS l (clampS x) k = posS l (clampS x) l.length) l.length ?_ ?_ ?_
    ·
     exact ent_k [] rfl rfl (xkc <| xkc <| xkc <| xkc <| xkc <| xkc <| xkc <| xkc <| xkc <| xkc <| xkc <| xkc <| xkc <| xkc <| xkc <| xkc <| xkc <| xkc <| xkc <| xkc <| xkc <| xkc <| xkc <| .nil) (obs_cons rfl (o_eq rfl) obs_nil) rfl
    ·
     exact ⟨Nat.le_refl _, rfl⟩
    ·
     rintro k ⟨hk1, hP⟩
     refine awp_seq ?_
     refine xsr ?_
     refine xlz (o_mv rfl rfl rfl) ?_
     refine xlz (op_binI rfl rfl rfl rfl rfl (.inl rfl) rfl) ?_
     refine xlz (o_mv rfl rfl rfl) ?_
     refine lsplit rfl (fun hg3 => ?_) (fun hg3 => ?_)
     ·
      have hk0 : 0 < k := by have := (g11 hg3); simp at this; omega
      obtain ⟨z, hz⟩ : ∃ z, l[k - 1]? = some z := ⟨_, List.getElem?_eq_getElem (by first | omega | (simp at *; omega))⟩
      refine lg (o_mv rfl rfl rfl) rfl hg3 rfl rfl ?_
      refine lg (o_mv rfl rfl rfl) rfl hg3 rfl rfl ?_
      refine lg (o_sub rfl rfl rfl rfl (by first | omega | (simp; omega) | (simp at *; omega))) rfl hg3 rfl rfl ?_
      refine lg (o_ixN ((k - 1)) rfl rfl rfl rfl ty49 (by first | rfl | omega | (simp; done) | (simp; omega)) hz ty78) rfl hg3 rfl rfl ?_
      refine lg (op_fieldC rfl rfl rfl fl78_0) rfl hg3 rfl rfl ?_
      refine lg (op_loadC1 rfl rfl rfl ty3 rfl rfl) rfl hg3 rfl rfl ?_
      refine lg (op_fieldP rfl rfl rfl fl78_0) rfl hg3 rfl rfl ?_
      refine lg (op_load1 rfl rfl rfl rfl ty3 rfl rfl) rfl hg3 rfl rfl ?_
      refine lg (op_binI rfl rfl rfl rfl rfl (.inl rfl) rfl) rfl hg3 rfl rfl ?_
      refine xlz (o_pT rfl rfl (g11 hg3) rfl rfl) ?_
      refine lend (fun _ => by kernel_rfl) ?_
      refine awp_cond rfl rfl (fun hc4 => ?_) (fun hc4 => ?_)
      ·
       refine awp_skip ?_
       refine awp_block ?_
       refine awp_region mixed ?_
       refine xlz (o_mv rfl rfl rfl) ?_
       refine xlz (o_sub rfl rfl rfl rfl (by first | omega | (simp; omega) | (simp at *; omega))) ?_
       refine xlz (o_as rfl rfl rfl) ?_
       refine lendF ?_
       refine ⟨k - 1, ?_, ?_, ?_⟩
       ·
        exact ⟨by omega, by rw [← hP, pos_step hz (by first | omega | (simp at *; omega)) (by first | omega | (simp at *; omega))]⟩
       ·
        exact ent_k [] rfl rfl (.cons rfl (k_i (by first | omega | (simp at *; omega))) <| xkc <| xkc <| xkc <| xkc <| xkc <| xkc <| xkc <| xkc <| xkc <| xkc <| xkc <| xkc <| xkc <| xkc <| xkc <| xkc <| xkc <| xkc <| xkc <| xkc <| xkc <| xkc <| .nil) (obs_cons rfl (o_eq rfl) obs_nil) rfl
       ·
        first | omega | (simp at *; omega)
      ·
       refine awp_exit ?_
       refine awp_region mixed ?_
       have hk : posS l (clampS x) l.length = k := by rw [← hP]; first | (rw [show k = 0 from by simp at *; omega]; rfl) | exact pos_stop hz (by first | omega | (simp at *; omega)) (by first | omega | (simp at *; omega))
       have hkl : k ≤ l.length := hk1
       refine xlz (o_mv rfl rfl rfl) ?_
       refine xlz (o_mv rfl rfl rfl) ?_
       refine xlz (o_mv rfl rfl rfl) ?_
       refine xlz (o_sl3 rfl rfl rfl ty49 ty78 (by first | exact cl_map fun _ => rfl | exact cl_one rfl | exact cl_take (cl_drop (cl_map fun _ => rfl)) | exact cl_app (cl_one rfl) (cl_take (cl_drop (cl_map fun _ => rfl))) | exact cl_app (cl_map fun _ => rfl) (cl_one rfl)) .none (.some rfl rfl (n := k) (by first | rfl | omega | (simp; done) | (simp; omega))) (.some rfl rfl (n := k) (by first | rfl | omega | (simp; done) | (simp; omega))) (Nat.zero_le _) (by simp; omega)) ?_
       refine xlz (o_ldA rfl rfl rfl rfl ty78 rfl (xlb rfl) rfl) ?_
       refine xlz (o_bs rfl rfl rfl rfl rfl ty49 ty78 rfl rfl) ?_
       refine xlz (o_mv rfl rfl rfl) ?_
       refine xlz (o_mv rfl rfl rfl) ?_
       refine xlz (o_slL rfl rfl rfl ty49 ty78 (by first | exact cl_map fun _ => rfl | exact cl_one rfl | exact cl_take (cl_drop (cl_map fun _ => rfl)) | exact cl_app (cl_one rfl) (cl_take (cl_drop (cl_map fun _ => rfl))) | exact cl_app (cl_map fun _ => rfl) (cl_one rfl)) (.some rfl rfl (n := k) (by first | rfl | omega | (simp; done) | (simp; omega))) .none (by simp; omega) (by simp)) ?_
       refine xlz (o_app rfl rfl (by decide) rfl rfl rfl ty49 ty78 rfl (by decide) rfl (by first | exact cl_map fun _ => rfl | exact cl_one rfl | exact cl_take (cl_drop (cl_map fun _ => rfl)) | exact cl_app (cl_one rfl) (cl_take (cl_drop (cl_map fun _ => rfl))) | exact cl_app (cl_map fun _ => rfl) (cl_one rfl)) (by first | exact cl_map fun _ => rfl | exact cl_one rfl | exact cl_take (cl_drop (cl_map fun _ => rfl)) | exact cl_app (cl_one rfl) (cl_take (cl_drop (cl_map fun _ => rfl))) | exact cl_app (cl_map fun _ => rfl) (cl_one rfl)) (by simp; omega) (by decide) rfl) ?_
       refine xlz (o_app rfl rfl (by decide) rfl rfl rfl ty49 ty78 rfl (by decide) rfl (by first | exact cl_map fun _ => rfl | exact cl_one rfl | exact cl_take (cl_drop (cl_map fun _ => rfl)) | exact cl_app (cl_one rfl) (cl_take (cl_drop (cl_map fun _ => rfl))) | exact cl_app (cl_map fun _ => rfl) (cl_one rfl)) (by first | exact cl_map fun _ => rfl | exact cl_one rfl | exact cl_take (cl_drop (cl_map fun _ => rfl)) | exact cl_app (cl_one rfl) (cl_take (cl_drop (cl_map fun _ => rfl))) | exact cl_app (cl_map fun _ => rfl) (cl_one rfl)) (by simp; omega) (by decide) rfl) ?_
       refine xlz (o_as rfl rfl rfl) ?_
       refine lend (fun _ => by kernel_rfl) ?_
       refine awp_region mixed ?_
       refine xlz (o_mv rfl rfl rfl) ?_
       refine xlz (o_add rfl rfl rfl rfl (by first | omega | (simp; omega) | (simp at *; omega))) ?_
       refine xlz (o_as rfl rfl rfl) ?_
       refine lendF ?_
       refine ⟨(i + 1, insS l (clampS x)), ?_, ?_, ?_⟩
       ·
        exact ⟨rng_le hn, by show (insS l (clampS x)).length ≤ i + 1; rw [insS_len]; omega, by show canon1 (insS l (clampS x)) (s.drop (i + 1)) = _; rw [← hI, drop_cons hn, canon1, if_neg hge]⟩
       ·
        exact ent_k [] rfl rfl (.cons rfl (.data (by simp [toD, insS, hk, List.take_of_length_le])) <| .cons rfl (k_i (by simp)) <| xkc <| .nil) obs_nil rfl
       ·
        show s.length - (i + 1) < s.length - i; have := rng_le hn; omega
     ·
      have hk0 : k = 0 := by have := (g10 hg3); simp at this; omega
      refine lskip rfl hg3 rfl ?_
      refine lskip rfl hg3 rfl ?_
      refine lskip rfl hg3 rfl ?_
      refine lskip rfl hg3 rfl ?_
      refine lskip rfl hg3 rfl ?_
      refine lskip rfl hg3 rfl ?_
      refine lskip rfl hg3 rfl ?_
      refine lskip rfl hg3 rfl ?_
      refine lskip rfl hg3 rfl ?_
      refine xlz (o_pF rfl rfl (g10 hg3) rfl rfl) ?_
      refine lend (fun _ => by kernel_rfl) ?_
      refine awp_condF rfl rfl rfl ?_
      refine awp_exit ?_
      refine awp_region mixed ?_
      have hk : posS l (clampS x) l.length = k := by rw [← hP]; first | (rw [show k = 0 from by simp at *; omega]; rfl) | exact pos_stop hz (by first | omega | (simp at *; omega)) (by first | omega | (simp at *; omega))
      have hkl : k ≤ l.length := hk1
      refine xlz (o_mv rfl rfl rfl) ?_
      refine xlz (o_mv rfl rfl rfl) ?_
      refine xlz (o_mv rfl rfl rfl) ?_
      refine xlz (o_sl3 rfl rfl rfl ty49 ty78 (by first | exact cl_map fun _ => rfl | exact cl_one rfl | exact cl_take (cl_drop (cl_map fun _ => rfl)) | exact cl_app (cl_one rfl) (cl_take (cl_drop (cl_map fun _ => rfl))) | exact cl_app (cl_map fun _ => rfl) (cl_one rfl)) .none (.some rfl rfl (n := k) (by first | rfl | omega | (simp; done) | (simp; omega))) (.some rfl rfl (n := k) (by first | rfl | omega | (simp; done) | (simp; omega))) (Nat.zero_le _) (by simp; omega)) ?_
      refine xlz (o_ldA rfl rfl rfl rfl ty78 rfl (xlb rfl) rfl) ?_
      refine xlz (o_bs rfl rfl rfl rfl rfl ty49 ty78 rfl rfl) ?_
      refine xlz (o_mv rfl rfl rfl) ?_
      refine xlz (o_mv rfl rfl rfl) ?_
      refine xlz (o_slL rfl rfl rfl ty49 ty78 (by first | exact cl_map fun _ => rfl | exact cl_one rfl | exact cl_take (cl_drop (cl_map fun _ => rfl)) | exact cl_app (cl_one rfl) (cl_take (cl_drop (cl_map fun _ => rfl))) | exact cl_app (cl_map fun _ => rfl) (cl_one rfl)) (.some rfl rfl (n := k) (by first | rfl | omega | (simp; done) | (simp; omega))) .none (by simp; omega) (by simp)) ?_
      refine xlz (o_app rfl rfl (by decide) rfl rfl rfl ty49 ty78 rfl (by decide) rfl (by first | exact cl_map fun _ => rfl | exact cl_one rfl | exact cl_take (cl_drop (cl_map fun _ => rfl)) | exact cl_app (cl_one rfl) (cl_take (cl_drop (cl_map fun _ => rfl))) | exact cl_app (cl_map fun _ => rfl) (cl_one rfl)) (by first | exact cl_map fun _ => rfl | exact cl_one rfl | exact cl_take (cl_drop (cl_map fun _ => rfl)) | exact cl_app (cl_one rfl) (cl_take (cl_drop (cl_map fun _ => rfl))) | exact cl_app (cl_map fun _ => rfl) (cl_one rfl)) (by simp; omega) (by decide) rfl) ?_
      refine xlz (o_app rfl rfl (by decide) rfl rfl rfl ty49 ty78 rfl (by decide) rfl (by first | exact cl_map fun _ => rfl | exact cl_one rfl | exact cl_take (cl_drop (cl_map fun _ => rfl)) | exact cl_app (cl_one rfl) (cl_take (cl_drop (cl_map fun _ => rfl))) | exact cl_app (cl_map fun _ => rfl) (cl_one rfl)) (by first | exact cl_map fun _ => rfl | exact cl_one rfl | exact cl_take (cl_drop (cl_map fun _ => rfl)) | exact cl_app (cl_one rfl) (cl_take (cl_drop (cl_map fun _ => rfl))) | exact cl_app (cl_map fun _ => rfl) (cl_one rfl)) (by simp; omega) (by decide) rfl) ?_
      refine xlz (o_as rfl rfl rfl) ?_
      refine lend (fun _ => by kernel_rfl) ?_
      refine awp_region mixed ?_
      refine xlz (o_mv rfl rfl rfl) ?_
      refine xlz (o_add rfl rfl rfl rfl (by first | omega | (simp; omega) | (simp at *; omega))) ?_
      refine xlz (o_as rfl rfl rfl) ?_
      refine lendF ?_
      refine ⟨(i + 1, insS l (clampS x)), ?_, ?_, ?_⟩
      ·
       exact ⟨rng_le hn, by show (insS l (clampS x)).length ≤ i + 1; rw [insS_len]; omega, by show canon1 (insS l (clampS x)) (s.drop (i + 1)) = _; rw [← hI, drop_cons hn, canon1, if_neg hge]⟩
      ·
       exact ent_k [] rfl rfl (.cons rfl (.data (by simp [toD, insS, hk, List.take_of_length_le])) <| .cons rfl (k_i (by simp)) <| xkc <| .nil) obs_nil rfl
      ·
       show s.length - (i + 1) < s.length - i; have := rng_le hn; omega
  ·
   obtain rfl := rng_ge (l := s) (by simpa using hc1) hi
   refine awp_exit ?_
   refine xsr ?_
   refine xlz (op_bsR rfl rfl rfl rfl rfl ty49 ty78 rfl rfl rfl (by decide)) ?_
   refine xlz (o_as rfl rfl rfl) ?_
   refine lendF ?_
   refine awp_seq ?_
   refine xsr ?_
   refine xlz (o_as rfl rfl rfl) ?_
   refine lendF ?_
   refine awp_block ?_
   have hll : l.length ≤ s.length := hl
   refine awp_loop (fun x => ⟨113, [(7, .arr 500063 2 0 (x.2.map Span.d).length), (8, .d (I (x.1 : Nat))), (3, .d (.list (l.map Span.d)))], [(500063, .arr 2 (x.2.map Span.d))]⟩) (fun x => l.length - x.1) (fun x => x.1 ≤ l.length ∧ x.2.length ≤ x.1 ∧ (l.drop x.1).foldl mstep x.2 = canonS s) (0, []) ?_ ?_ ?_
   ·
    exact ent_k [(500063, 63)] rfl rfl (.cons rfl (k_arr rfl rfl) <| xkc <| xkc <| .nil) (obs_cons rfl (ko_arr rfl) obs_nil) rfl
   ·
    exact ⟨Nat.zero_le _, Nat.le_refl _, by show l.foldl mstep [] = _; rw [canonS, ← hI]; rw [List.drop_length]; rfl⟩
   ·
    rintro ⟨j, out⟩ ⟨hj, ho, hJ⟩
    dsimp only at hj ho hJ ⊢
    refine awp_seq ?_
    refine xsr ?_
    refine xlz (o_mv rfl rfl rfl) ?_
    refine xlz (o_mv rfl rfl rfl) ?_
    refine xlz (o_lenE (n := l.length) rfl rfl rfl ty49 (by simp)) ?_
    refine xlz (op_binI rfl rfl rfl rfl rfl (.inl rfl) rfl) ?_
    refine lendF ?_
    refine awp_cond rfl rfl (fun hc6 => ?_) (fun hc6 => ?_)
    ·
     obtain ⟨x, hn⟩ := rng_lt (l := l) (by simpa using hc6)
     have hlt := rng_le hn
     refine awp_skip ?_
     refine awp_seq ?_
     refine awp_block ?_
     refine xsr ?_
     refine xlz (o_mv rfl rfl rfl) ?_
     refine xlz (o_eqI (op_lenR rfl rfl rfl ty49) (m' := out.length) (by simp)) ?_
     refine xlz (o_as rfl rfl rfl) ?_
     refine lendF ?_
     refine xsr ?_
     refine xlz (o_mv rfl rfl rfl) ?_
     refine xlz (op_binI rfl rfl rfl rfl rfl (.inl rfl) rfl) ?_
     refine xlz (o_mv rfl rfl rfl) ?_
     refine lsplit rfl (fun hg7 => ?_) (fun hg7 => ?_)
     ·
      have ho0 : 0 < out.length := by have := (g11 hg7); simp at this; omega
      obtain ⟨z, hz⟩ := last_get (l := out) (by first | omega | (simp at *; omega))
      have hzm := map_get (f := Span.d) hz
      refine lg (o_mv rfl rfl rfl) rfl hg7 rfl rfl ?_
      refine lg (o_mv rfl rfl rfl) rfl hg7 rfl rfl ?_
      refine lg (o_ixN (j) rfl rfl rfl rfl ty49 (by first | rfl | omega | (simp; done) | (simp; omega)) hn ty78) rfl hg7 rfl rfl ?_
      refine lg (op_fieldC rfl rfl rfl fl78_0) rfl hg7 rfl rfl ?_
      refine lg (op_loadC1 rfl rfl rfl ty3 rfl rfl) rfl hg7 rfl rfl ?_
      refine lg (o_mv rfl rfl rfl) rfl hg7 rfl rfl ?_
      refine lg (o_mv rfl rfl rfl) rfl hg7 rfl rfl ?_
      refine lg (o_sub rfl rfl rfl rfl (by first | omega | (simp; omega) | (simp at *; omega))) rfl hg7 rfl rfl ?_
      refine lg (o_ixR' ((out.length - 1)) rfl rfl rfl rfl ty49 ty78 (by first | rfl | omega | (simp; done) | (simp; omega)) (by first | omega | (simp at *; omega)) (Nat.zero_add _).symm) rfl hg7 rfl rfl ?_
      refine lg (op_fieldE rfl rfl rfl fl78_1) rfl hg7 rfl rfl ?_
      refine lg (op_loadE1 rfl rfl rfl rfl hzm ty3 rfl rfl) rfl hg7 rfl rfl ?_
      refine lg (op_binI rfl rfl rfl rfl rfl (.inl rfl) rfl) rfl hg7 rfl rfl ?_
      refine xlz (o_pT rfl rfl (g11 hg7) rfl rfl) ?_
      refine lend (fun _ => by kernel_rfl) ?_
      refine awp_cond rfl rfl (fun hc8 => ?_) (fun hc8 => ?_)
      ·
       refine awp_region mixed ?_
       refine xlz (o_mv rfl rfl rfl) ?_
       refine xlz (o_mv rfl rfl rfl) ?_
       refine xlz (o_sub rfl rfl rfl rfl (by first | omega | (simp; omega) | (simp at *; omega))) ?_
       refine xlz (o_mv rfl rfl rfl) ?_
       refine xlz (o_mv rfl rfl rfl) ?_
       refine xlz (o_sub rfl rfl rfl rfl (by first | omega | (simp; omega) | (simp at *; omega))) ?_
       refine xlz (o_ixR' ((out.length - 1)) rfl rfl rfl rfl ty49 ty78 (by first | rfl | omega | (simp; done) | (simp; omega)) (by first | omega | (simp at *; omega)) (Nat.zero_add _).symm) ?_
       refine xlz (op_fieldE rfl rfl rfl fl78_1) ?_
       refine xlz (op_loadE1 rfl rfl rfl rfl hzm ty3 rfl rfl) ?_
       refine xlz (o_mv rfl rfl rfl) ?_
       refine xlz (o_mv rfl rfl rfl) ?_
       refine xlz (o_ixN (j) rfl rfl rfl rfl ty49 (by first | rfl | omega | (simp; done) | (simp; omega)) hn ty78) ?_
       refine xlz (op_fieldC rfl rfl rfl fl78_1) ?_
       refine xlz (op_loadC1 rfl rfl rfl ty3 rfl rfl) ?_
       refine xlz (op_max rfl rfl rfl rfl rfl) ?_
       refine xlz (o_ixR' ((out.length - 1)) rfl rfl rfl rfl ty49 ty78 (by first | rfl | omega | (simp; done) | (simp; omega)) (by first | omega | (simp at *; omega)) (Nat.zero_add _).symm) ?_
       refine xlz (op_fieldE rfl rfl rfl fl78_1) ?_
       refine xlz (op_storeE rfl rfl rfl rfl hzm rfl rfl rfl ty3 rfl rfl rfl) ?_
       refine lend (fun _ => by kernel_rfl) ?_
       refine awp_region mixed ?_
       refine xlz (o_mv rfl rfl rfl) ?_
       refine xlz (o_add rfl rfl rfl rfl (by first | omega | (simp; omega) | (simp at *; omega))) ?_
       refine xlz (o_as rfl rfl rfl) ?_
       refine lendF ?_
       refine ⟨(j + 1, out.set (out.length - 1) ⟨z.lo, if x.hi > z.hi then x.hi else z.hi⟩), ?_, ?_, ?_⟩
       ·
        exact ⟨rng_le hn, by show (out.set (out.length - 1) _).length ≤ j + 1; simp; omega, by show (l.drop (j + 1)).foldl mstep (out.set (out.length - 1) ⟨z.lo, _⟩) = _; rw [← hJ, drop_cons hn, List.foldl_cons, mstep_in hz (by first | omega | (simp at *; omega))]⟩
       ·
        exact ent_k [] rfl rfl (.cons rfl (k_arr rfl (by simp)) <| .cons rfl (k_i (by simp)) <| .cons rfl (k_eq rfl) <| .nil) (obs_cons rfl (ko_arr (by simp [D.upd, wrD, List.map_set])) obs_nil) rfl
       ·
        show l.length - (j + 1) < l.length - j; have := rng_le hn; omega
      ·
       refine awp_region mixed ?_
       refine xlz (o_mv rfl rfl rfl) ?_
       refine xlz (o_mv rfl rfl rfl) ?_
       refine xlz (o_mv rfl rfl rfl) ?_
       refine xlz (o_ixN (j) rfl rfl rfl rfl ty49 (by first | rfl | omega | (simp; done) | (simp; omega)) hn ty78) ?_
       refine xlz (op_loadCA rfl rfl rfl ty78 rfl (xlb rfl)) ?_
       refine xlz (o_bs rfl rfl rfl rfl rfl ty49 ty78 rfl rfl) ?_
       refine xlz (op_appendR rfl rfl (by decide) (.inr ⟨_, rfl, rfl, rfl⟩) rfl rfl rfl ty49 ty78 rfl (by decide) (by first | exact cl_map fun _ => rfl | exact cl_one rfl | exact cl_take (cl_drop (cl_map fun _ => rfl)) | exact cl_app (cl_one rfl) (cl_take (cl_drop (cl_map fun _ => rfl))) | exact cl_app (cl_map fun _ => rfl) (cl_one rfl)) (by simp) (by simp; omega) (by simp; omega)) ?_
       refine xlz (o_as rfl rfl rfl) ?_
       refine lendF ?_
       refine awp_region mixed ?_
       refine xlz (o_mv rfl rfl rfl) ?_
       refine xlz (o_add rfl rfl rfl rfl (by first | omega | (simp; omega) | (simp at *; omega))) ?_
       refine xlz (o_as rfl rfl rfl) ?_
       refine lendF ?_
       refine ⟨(j + 1, out ++ [x]), ?_, ?_, ?_⟩
       ·
        exact ⟨rng_le hn, by show (out ++ [x]).length ≤ j + 1; simp; omega, by show (l.drop (j + 1)).foldl mstep (out ++ [x]) = _; rw [← hJ, drop_cons hn, List.foldl_cons]; first | rw [mstep_nil (by first | omega | (simp at *; omega))] | rw [mstep_out hz (by first | omega | (simp at *; omega))]⟩
       ·
        exact ent_k [(500063, 111)] rfl rfl (.cons rfl (k_arr rfl (by simp)) <| .cons rfl (k_i (by simp)) <| .cons rfl (k_eq rfl) <| .nil) (obs_cons rfl (ko_arr (by simp; rfl)) obs_nil) rfl
       ·
        show l.length - (j + 1) < l.length - j; have := rng_le hn; omega
     ·
      have ho0 : ¬ 0 < out.length := by have := (g10 hg7); simp at this; simp [this]
      refine lskip rfl hg7 rfl ?_
      refine lskip rfl hg7 rfl ?_
      refine lskip rfl hg7 rfl ?_
      refine lskip rfl hg7 rfl ?_
      refine lskip rfl hg7 rfl ?_
      refine lskip rfl hg7 rfl ?_
      refine lskip rfl hg7 rfl ?_
      refine lskip rfl hg7 rfl ?_
      refine lskip rfl hg7 rfl ?_
      refine lskip rfl hg7 rfl ?_
      refine lskip rfl hg7 rfl ?_
      refine lskip rfl hg7 rfl ?_
      refine xlz (o_pF rfl rfl (g10 hg7) rfl rfl) ?_
      refine lend (fun _ => by kernel_rfl) ?_
      refine awp_condF rfl rfl rfl ?_
      refine awp_region mixed ?_
      refine xlz (o_mv rfl rfl rfl) ?_
      refine xlz (o_mv rfl rfl rfl) ?_
      refine xlz (o_mv rfl rfl rfl) ?_
      refine xlz (o_ixN (j) rfl rfl rfl rfl ty49 (by first | rfl | omega | (simp; done) | (simp; omega)) hn ty78) ?_
      refine xlz (op_loadCA rfl rfl rfl ty78 rfl (xlb rfl)) ?_
      refine xlz (o_bs rfl rfl rfl rfl rfl ty49 ty78 rfl rfl) ?_
      refine xlz (op_appendR rfl rfl (by decide) (.inr ⟨_, rfl, rfl, rfl⟩) rfl rfl rfl ty49 ty78 rfl (by decide) (by first | exact cl_map fun _ => rfl | exact cl_one rfl | exact cl_take (cl_drop (cl_map fun _ => rfl)) | exact cl_app (cl_one rfl) (cl_take (cl_drop (cl_map fun _ => rfl))) | exact cl_app (cl_map fun _ => rfl) (cl_one rfl)) (by simp) (by simp; omega) (by simp; omega)) ?_
      refine xlz (o_as rfl rfl rfl) ?_
      refine lendF ?_
      refine awp_region mixed ?_
      refine xlz (o_mv rfl rfl rfl) ?_
      refine xlz (o_add rfl rfl rfl rfl (by first | omega | (simp; omega) | (simp at *; omega))) ?_
      refine xlz (o_as rfl rfl rfl) ?_
      refine lendF ?_
      refine ⟨(j + 1, out ++ [x]), ?_, ?_, ?_⟩
      ·
       exact ⟨rng_le hn, by show (out ++ [x]).length ≤ j + 1; simp; omega, by show (l.drop (j + 1)).foldl mstep (out ++ [x]) = _; rw [← hJ, drop_cons hn, List.foldl_cons]; first | rw [mstep_nil (by first | omega | (simp at *; omega))] | rw [mstep_out hz (by first | omega | (simp at *; omega))]⟩
      ·
       exact ent_k [(500063, 111)] rfl rfl (.cons rfl (k_arr rfl (by simp)) <| .cons rfl (k_i (by simp)) <| .cons rfl (k_eq rfl) <| .nil) (obs_cons rfl (ko_arr (by simp; rfl)) obs_nil) rfl
      ·
       show l.length - (j + 1) < l.length - j; have := rng_le hn; omega
    ·
     obtain rfl := rng_ge (l := l) (by simpa using hc6) hj
     refine awp_exit ?_
     refine xsr ?_
     refine xlz (o_mv rfl rfl rfl) ?_
     refine xlz (o_as rfl rfl rfl) ?_
     refine lendF ?_
     refine awp_ret ?_
     refine ⟨[_], ⟨rfl, trivial⟩, ?_⟩
     exact ent_fz1 (ds := out.map Span.d) rfl (by simp) (by rw [← hJ, List.drop_length]; simp [List.take_of_length_le])

end Go.Pm

namespace Go.Pm
open Go.Proofs

set_option maxRecDepth 10000 in
theorem c95 (l : List Req) (hl : l.length < 4611686018427387904) (hq : ∀ q ∈ l, q.Sm) : Fn PR 95 [.d (reqsD l)] [] [.d (I (checkReqs l))] [] := by
 refine fn_of_awp Tryz.func95 rfl (N := 58) rfl ?_
 refine xsr ?_
 refine las rfl rfl rfl rfl rfl ?_
 refine lendF ?_
 refine awp_seq ?_
 refine xsr ?_
 refine lmv rfl rfl rfl rfl rfl ?_
 refine xlz (o_lenE (n := l.length) rfl rfl rfl ty26 (by simp)) ?_
 refine xlz (op_binI rfl rfl rfl rfl rfl (.inl rfl) rfl) ?_
 refine lendF ?_
 refine awp_cond rfl rfl (fun hc1 => ?_) (fun hc1 => ?_)
 ·
  have h16 : l.length > 16 := by have := hc1; simp at this; omega
  refine xsr ?_
  refine las rfl rfl rfl rfl rfl ?_
  refine lendF ?_
  refine awp_ret ?_
  refine ⟨[_], ⟨rfl, trivial⟩, ?_⟩
  exact ent_i rfl (by rw [checkReqs, if_pos h16])
 ·
  have h16 : ¬ l.length > 16 := by have := hc1; simp at this; omega
  refine awp_skip ?_
  refine awp_seq ?_
  refine xsr ?_
  refine las rfl rfl rfl rfl rfl ?_
  refine lendF ?_
  refine awp_block ?_
  refine awp_loop (fun i => ⟨58, [(3, .d (I (i : Nat))), (0, .d (reqsD l))], []⟩) (fun i => l.length - i) (fun i => i ≤ l.length ∧ reqsE (prevQ l i) (l.drop i) = reqsE none l) 0 ?_ ?_ ?_
  ·
   exact ent_k [] rfl rfl ((by repeat (first | exact .nil | refine xkc ?_))) obs_nil rfl
  ·
   exact ⟨Nat.zero_le _, rfl⟩
  ·
   rintro i ⟨hi, hI⟩
   refine awp_seq ?_
   refine xsr ?_
   iterate 2 refine lmv rfl rfl rfl rfl rfl ?_
   refine xlz (o_lenE (n := l.length) rfl rfl rfl ty26 (by simp)) ?_
   refine xlz (op_binI rfl rfl rfl rfl rfl (.inl rfl) rfl) ?_
   refine lendF ?_
   refine awp_cond rfl rfl (fun hc2 => ?_) (fun hc2 => ?_)
   ·
    obtain ⟨x, hn⟩ := rng_lt (l := l) (by simpa using hc2)
    have hlt := rng_le hn
    have hmem := List.mem_of_getElem? hn
    refine awp_skip ?_
    refine awp_seq ?_
    refine awp_block ?_
    refine awp_seq ?_
    refine xsr ?_
    iterate 2 refine lmv rfl rfl rfl rfl rfl ?_
    refine xlz (o_ixN (i) rfl rfl rfl rfl ty26 (by first | rfl | omega | (simp; done) | (simp; omega)) hn ty51) ?_
    refine xlz (op_fieldC rfl rfl rfl fl51_0) ?_
    refine xlz (op_loadC1 rfl rfl rfl ty9 rfl rfl) ?_
    refine xlz (o_call (c73 x.path (by have := (hq x hmem).path; omega)) rfl rfl rfl ca73 rfl rfl) ?_
    refine xlz (op_binI rfl rfl rfl rfl rfl (.inl rfl) rfl) ?_
    refine lendF ?_
    refine awp_cond rfl rfl (fun hc3 => ?_) (fun hc3 => ?_)
    ·
     have hmj : majN x.path < 0 := by simpa using hc3
     refine xsr ?_
     refine las rfl rfl rfl rfl rfl ?_
     refine lendF ?_
     refine awp_ret ?_
     refine ⟨[_], ⟨rfl, trivial⟩, ?_⟩
     first | exact ent_i rfl (reqsE_stop hI h16 hn (reqE_1 hmj) (by decide)) | exact ent_i rfl (reqsE_stop hI h16 hn (reqE_2 hmj hcs) (by decide)) | exact ent_i rfl (reqsE_stop hI h16 hn (reqE_3 hmj hcs hod) (by decide)) | exact ent_i rfl (reqsE_end hI h16)
    ·
     have hmj : ¬ majN x.path < 0 := by simpa using hc3
     refine awp_skip ?_
     refine awp_seq ?_
     refine xsr ?_
     iterate 2 refine lmv rfl rfl rfl rfl rfl ?_
     refine xlz (o_ixN (i) rfl rfl rfl rfl ty26 (by first | rfl | omega | (simp; done) | (simp; omega)) hn ty51) ?_
     refine xlz (op_fieldC rfl rfl rfl fl51_1) ?_
     refine xlz (op_loadC1 rfl rfl rfl ty49 rfl rfl) ?_
     refine xlz (o_lenE (n := x.set.length) rfl rfl rfl ty49 (by simp)) ?_
     refine xlz (op_binI rfl rfl rfl rfl rfl (.inl rfl) rfl) ?_
     refine lmv rfl rfl rfl rfl rfl ?_
     refine lsplit rfl (fun hg4 => ?_) (fun hg4 => ?_)
     ·
      have hs0 : ¬ x.set.length = 0 := by have := (g01 hg4); simp at this; simp [this]
      iterate 2 refine gmv hg4 rfl rfl rfl rfl rfl ?_
      refine lg (o_ixN (i) rfl rfl rfl rfl ty26 (by first | rfl | omega | (simp; done) | (simp; omega)) hn ty51) rfl hg4 rfl rfl ?_
      refine lg (op_fieldC rfl rfl rfl fl51_1) rfl hg4 rfl rfl ?_
      refine lg (op_loadC1 rfl rfl rfl ty49 rfl rfl) rfl hg4 rfl rfl ?_
      iterate 2 refine gmv hg4 rfl rfl rfl rfl rfl ?_
      refine lg (o_ixN (i) rfl rfl rfl rfl ty26 (by first | rfl | omega | (simp; done) | (simp; omega)) hn ty51) rfl hg4 rfl rfl ?_
      refine lg (op_fieldC rfl rfl rfl fl51_1) rfl hg4 rfl rfl ?_
      refine lg (op_loadC1 rfl rfl rfl ty49 rfl rfl) rfl hg4 rfl rfl ?_
      refine lg (o_call (c88 x.set (hq x hmem).set) rfl rfl rfl ca88 rfl rfl) rfl hg4 rfl rfl ?_
      refine lg (o_call (c42 x.set (canonS x.set) (by have := (hq x hmem).set; omega)) rfl rfl rfl ca42 rfl rfl) rfl hg4 rfl rfl ?_
      refine lg (op_not rfl rfl rfl) rfl hg4 rfl rfl ?_
      refine xlz (o_pF rfl rfl (g01 hg4) rfl rfl) ?_
      refine lend (fun _ => by kernel_rfl) ?_
      refine awp_cond rfl rfl (fun hc5 => ?_) (fun hc5 => ?_)
      ·
       have hcs : x.set.length = 0 ∨ x.set ≠ canonS x.set := .inr (by have := hc5; simp at this; exact this)
       refine xsr ?_
       refine las rfl rfl rfl rfl rfl ?_
       refine lendF ?_
       refine awp_ret ?_
       refine ⟨[_], ⟨rfl, trivial⟩, ?_⟩
       first | exact ent_i rfl (reqsE_stop hI h16 hn (reqE_1 hmj) (by decide)) | exact ent_i rfl (reqsE_stop hI h16 hn (reqE_2 hmj hcs) (by decide)) | exact ent_i rfl (reqsE_stop hI h16 hn (reqE_3 hmj hcs hod) (by decide)) | exact ent_i rfl (reqsE_end hI h16)
      ·
       have hcs : ¬ (x.set.length = 0 ∨ x.set ≠ canonS x.set) := by (have h := hc5); simp at h; rintro (h1 | h1); (exact hs0 h1); (exact h1 h)
       refine awp_skip ?_
       refine xsr ?_
       refine lmv rfl rfl rfl rfl rfl ?_
       refine xlz (op_binI rfl rfl rfl rfl rfl (.inl rfl) rfl) ?_
       refine lmv rfl rfl rfl rfl rfl ?_
       refine lsplit rfl (fun hg6 => ?_) (fun hg6 => ?_)
       ·
        have hi0 : 0 < i := by have := (g11 hg6); simp at this; omega
        obtain ⟨y, hy⟩ : ∃ y, l[i - 1]? = some y := ⟨_, List.getElem?_eq_getElem (by omega)⟩
        have hpv := prevQ_pos hi0 hy
        iterate 2 refine gmv hg6 rfl rfl rfl rfl rfl ?_
        refine lg (o_ixN (i) rfl rfl rfl rfl ty26 (by first | rfl | omega | (simp; done) | (simp; omega)) hn ty51) rfl hg6 rfl rfl ?_
        refine lg (op_fieldC rfl rfl rfl fl51_0) rfl hg6 rfl rfl ?_
        refine lg (op_loadC1 rfl rfl rfl ty9 rfl rfl) rfl hg6 rfl rfl ?_
        iterate 2 refine gmv hg6 rfl rfl rfl rfl rfl ?_
        refine lg (o_sub rfl rfl rfl rfl (by first | omega | (simp; omega) | (simp at *; omega))) rfl hg6 rfl rfl ?_
        refine lg (o_ixN ((i - 1)) rfl rfl rfl rfl ty26 (by first | rfl | omega | (simp; done) | (simp; omega)) hy ty51) rfl hg6 rfl rfl ?_
        refine lg (op_fieldC rfl rfl rfl fl51_0) rfl hg6 rfl rfl ?_
        refine lg (op_loadC1 rfl rfl rfl ty9 rfl rfl) rfl hg6 rfl rfl ?_
        refine lg (op_binS rfl rfl rfl rfl rfl (fun h => by first | cases h | (simp; omega)) rfl) rfl hg6 rfl rfl ?_
        refine xlz (o_pT rfl rfl (g11 hg6) rfl rfl) ?_
        refine lend (fun _ => by kernel_rfl) ?_
        refine awp_cond rfl rfl (fun hc7 => ?_) (fun hc7 => ?_)
        ·
         have hod := ordE_1 (q := x) hpv (b := false) (by have := hc7; rw [bytesLe_not] at this; simpa using this)
         refine xsr ?_
         refine las rfl rfl rfl rfl rfl ?_
         refine lendF ?_
         refine awp_ret ?_
         refine ⟨[_], ⟨rfl, trivial⟩, ?_⟩
         first | exact ent_i rfl (reqsE_stop hI h16 hn (reqE_1 hmj) (by decide)) | exact ent_i rfl (reqsE_stop hI h16 hn (reqE_2 hmj hcs) (by decide)) | exact ent_i rfl (reqsE_stop hI h16 hn (reqE_3 hmj hcs hod) (by decide)) | exact ent_i rfl (reqsE_end hI h16)
        ·
         have hod := ordE_1 (q := x) hpv (b := true) (by have := hc7; rw [bytesLe_not] at this; simpa using this)
         refine awp_skip ?_
         refine awp_region mixed ?_
         refine lmv rfl rfl rfl rfl rfl ?_
         refine xlz (o_add rfl rfl rfl rfl (by first | omega | (simp; omega) | (simp at *; omega))) ?_
         refine las rfl rfl rfl rfl rfl ?_
         refine lendF ?_
         refine ⟨i + 1, ?_, ?_, ?_⟩
         ·
          exact ⟨rng_le hn, reqsE_next hI hn (reqE_0 hmj hcs hod)⟩
         ·
          exact ent_k [] rfl rfl ((by repeat (first | exact .nil | refine xkc ?_))) obs_nil rfl
         ·
          omega
       ·
        have hi0 : i = 0 := by have := (g10 hg6); simp at this; omega
        have hod := ordE_0 (q := x) (l := l) hi0
        iterate 12 refine lskip rfl hg6 rfl ?_
        refine xlz (o_pF rfl rfl (g10 hg6) rfl rfl) ?_
        refine lend (fun _ => by kernel_rfl) ?_
        refine awp_condF rfl rfl rfl ?_
        refine awp_skip ?_
        refine awp_region mixed ?_
        refine lmv rfl rfl rfl rfl rfl ?_
        refine xlz (o_add rfl rfl rfl rfl (by first | omega | (simp; omega) | (simp at *; omega))) ?_
        refine las rfl rfl rfl rfl rfl ?_
        refine lendF ?_
        refine ⟨i + 1, ?_, ?_, ?_⟩
        ·
         exact ⟨rng_le hn, reqsE_next hI hn (reqE_0 hmj hcs hod)⟩
        ·
         exact ent_k [] rfl rfl ((by repeat (first | exact .nil | refine xkc ?_))) obs_nil rfl
        ·
         omega
     ·
      have hcs : x.set.length = 0 ∨ x.set ≠ canonS x.set := .inl (by have := (g00 hg4); simp at this; simp [this])
      iterate 13 refine lskip rfl hg4 rfl ?_
      refine xlz (o_pT rfl rfl (g00 hg4) rfl rfl) ?_
      refine lend (fun _ => by kernel_rfl) ?_
      refine awp_condT rfl rfl rfl ?_
      refine xsr ?_
      refine las rfl rfl rfl rfl rfl ?_
      refine lendF ?_
      refine awp_ret ?_
      refine ⟨[_], ⟨rfl, trivial⟩, ?_⟩
      first | exact ent_i rfl (reqsE_stop hI h16 hn (reqE_1 hmj) (by decide)) | exact ent_i rfl (reqsE_stop hI h16 hn (reqE_2 hmj hcs) (by decide)) | exact ent_i rfl (reqsE_stop hI h16 hn (reqE_3 hmj hcs hod) (by decide)) | exact ent_i rfl (reqsE_end hI h16)
   ·
    obtain rfl := rng_ge (l := l) (by simpa using hc2) hi
    refine awp_exit ?_
    refine xsr ?_
    refine las rfl rfl rfl rfl rfl ?_
    refine lendF ?_
    refine awp_ret ?_
    refine ⟨[_], ⟨rfl, trivial⟩, ?_⟩
    first | exact ent_i rfl (reqsE_stop hI h16 hn (reqE_1 hmj) (by decide)) | exact ent_i rfl (reqsE_stop hI h16 hn (reqE_2 hmj hcs) (by decide)) | exact ent_i rfl (reqsE_stop hI h16 hn (reqE_3 hmj hcs hod) (by decide)) | exact ent_i rfl (reqsE_end hI h16)

set_option maxRecDepth 10000 in
theorem c59 (r : Rls) (hr : r.Sm) : Fn PR 59 [.d r.d] [] [.d (I (relE r))] [] := by
 refine fn_of_awp Tryz.func59 rfl (N := 43) rfl ?_
 refine xsr ?_
 refine xlz (op_box rfl rfl (by decide) rfl rfl) ?_
 refine las rfl rfl rfl rfl rfl ?_
 refine lendF ?_
 refine xsr ?_
 refine xlz (op_fieldP rfl rfl rfl fl40_0) ?_
 refine xlz (op_load1 rfl rfl rfl rfl ty9 rfl rfl) ?_
 refine xlz (o_call (c73 r.path (by have := hr.path; omega)) rfl rfl rfl ca73 rfl rfl) ?_
 refine las rfl rfl rfl rfl rfl ?_
 refine lendF ?_
 refine awp_seq ?_
 refine xsr ?_
 refine lmv rfl rfl rfl rfl rfl ?_
 refine xlz (op_binI rfl rfl rfl rfl rfl (.inl rfl) rfl) ?_
 refine lendF ?_
 refine awp_cond rfl rfl (fun hc1 => ?_) (fun hc1 => ?_)
 ·
  have hmj : majN r.path < 0 := by simpa using hc1
  refine xsr ?_
  refine las rfl rfl rfl rfl rfl ?_
  refine lendF ?_
  refine awp_ret ?_
  refine ⟨[_], ⟨rfl, trivial⟩, ?_⟩
  first | exact ent_i rfl (relE_1 hmj).symm | exact ent_i rfl (relE_2 hmj hv).symm | exact ent_i rfl (relE_3 hmj hv hrq).symm | exact ent_i rfl (relE_4 hmj hv hrq (c := false) (by simp_all)).symm | exact ent_i rfl (relE_4 hmj hv hrq (c := true) (by simp_all)).symm
 ·
  have hmj : ¬ majN r.path < 0 := by simpa using hc1
  refine awp_skip ?_
  refine awp_seq ?_
  refine xsr ?_
  refine xlz (op_fieldP rfl rfl rfl fl40_1) ?_
  refine xlz (o_ldA rfl rfl rfl rfl ty38 rfl (xlb rfl) rfl) ?_
  refine xlz (o_call (c94 r.ver) rfl rfl rfl ca94 rfl rfl) ?_
  refine xlz (op_not rfl rfl rfl) ?_
  refine lmv rfl rfl rfl rfl rfl ?_
  refine lsplit rfl (fun hg2 => ?_) (fun hg2 => ?_)
  ·
   have hok : r.ver.ok = true := by have := (g01 hg2); simpa using this
   refine lg (op_fieldP rfl rfl rfl fl40_1) rfl hg2 rfl rfl ?_
   refine lg (op_fieldP rfl rfl rfl fl38_0) rfl hg2 rfl rfl ?_
   refine lg (op_load1 rfl rfl rfl rfl ty3 rfl rfl) rfl hg2 rfl rfl ?_
   refine gmv hg2 rfl rfl rfl rfl rfl ?_
   refine lg (op_binI rfl rfl rfl rfl rfl (.inl rfl) rfl) rfl hg2 rfl rfl ?_
   refine xlz (o_pF rfl rfl (g01 hg2) rfl rfl) ?_
   refine lendF ?_
   refine awp_cond rfl rfl (fun hc3 => ?_) (fun hc3 => ?_)
   ·
    have hv : r.ver.ok = false ∨ r.ver.maj ≠ majN r.path := .inr (by simpa using hc3)
    refine xsr ?_
    refine las rfl rfl rfl rfl rfl ?_
    refine lendF ?_
    refine awp_ret ?_
    refine ⟨[_], ⟨rfl, trivial⟩, ?_⟩
    first | exact ent_i rfl (relE_1 hmj).symm | exact ent_i rfl (relE_2 hmj hv).symm | exact ent_i rfl (relE_3 hmj hv hrq).symm | exact ent_i rfl (relE_4 hmj hv hrq (c := false) (by simp_all)).symm | exact ent_i rfl (relE_4 hmj hv hrq (c := true) (by simp_all)).symm
   ·
    have hv : ¬ (r.ver.ok = false ∨ r.ver.maj ≠ majN r.path) := by (have h := hc3); simp at h; simp [hok, h]
    refine awp_skip ?_
    refine awp_seq ?_
    refine xsr ?_
    refine xlz (op_fieldP rfl rfl rfl fl40_2) ?_
    refine xlz (op_load1 rfl rfl rfl rfl ty26 rfl rfl) ?_
    refine xlz (o_call (c95 r.reqs hr.len hr.reqs) rfl rfl rfl ca95 rfl rfl) ?_
    refine las rfl rfl rfl rfl rfl ?_
    refine lendF ?_
    refine xsr ?_
    refine lmv rfl rfl rfl rfl rfl ?_
    refine xlz (op_binI rfl rfl rfl rfl rfl (.inl rfl) rfl) ?_
    refine lendF ?_
    refine awp_cond rfl rfl (fun hc4 => ?_) (fun hc4 => ?_)
    ·
     have hrq : checkReqs r.reqs ≠ 0 := by simpa using hc4
     refine xsr ?_
     refine lmv rfl rfl rfl rfl rfl ?_
     refine las rfl rfl rfl rfl rfl ?_
     refine lendF ?_
     refine awp_ret ?_
     refine ⟨[_], ⟨rfl, trivial⟩, ?_⟩
     first | exact ent_i rfl (relE_1 hmj).symm | exact ent_i rfl (relE_2 hmj hv).symm | exact ent_i rfl (relE_3 hmj hv hrq).symm | exact ent_i rfl (relE_4 hmj hv hrq (c := false) (by simp_all)).symm | exact ent_i rfl (relE_4 hmj hv hrq (c := true) (by simp_all)).symm
    ·
     have hrq : checkReqs r.reqs = 0 := by simpa using hc4
     refine awp_skip ?_
     refine awp_seq ?_
     refine xsr ?_
     refine xlz (op_fieldP rfl rfl rfl fl40_3) ?_
     refine xlz (op_load1 rfl rfl rfl rfl ty9 rfl rfl) ?_
     refine xlz (o_call (c96 r.arch) rfl rfl rfl ca96 rfl rfl) ?_
     refine xlz (op_not rfl rfl rfl) ?_
     refine lmv rfl rfl rfl rfl rfl ?_
     refine lsplit rfl (fun hg5 => ?_) (fun hg5 => ?_)
     ·
      have hd1 : isDig r.arch = true := by (have h : (!isDig r.arch) = false := (g01 hg5)); simpa using h
      refine lg (op_fieldP rfl rfl rfl fl40_4) rfl hg5 rfl rfl ?_
      refine lg (op_load1 rfl rfl rfl rfl ty9 rfl rfl) rfl hg5 rfl rfl ?_
      refine lg (o_call (c96 r.iface) rfl rfl rfl ca96 rfl rfl) rfl hg5 rfl rfl ?_
      refine lg (op_not rfl rfl rfl) rfl hg5 rfl rfl ?_
      refine xlz (o_pF rfl rfl (g01 hg5) rfl rfl) ?_
      refine lmv rfl rfl rfl rfl rfl ?_
      refine lsplit rfl (fun hg6 => ?_) (fun hg6 => ?_)
      ·
       have hd2 : isDig r.iface = true := by (have h : (!isDig r.iface) = false := (g01 hg6)); simpa using h
       refine lg (op_fieldP rfl rfl rfl fl40_5) rfl hg6 rfl rfl ?_
       refine lg (op_load1 rfl rfl rfl rfl ty9 rfl rfl) rfl hg6 rfl rfl ?_
       refine lg (o_call (c96 r.cert) rfl rfl rfl ca96 rfl rfl) rfl hg6 rfl rfl ?_
       refine lg (op_not rfl rfl rfl) rfl hg6 rfl rfl ?_
       refine xlz (o_pF rfl rfl (g01 hg6) rfl rfl) ?_
       refine lendF ?_
       refine awp_cond rfl rfl (fun hc7 => ?_) (fun hc7 => ?_)
       ·
        have hd3 : isDig r.cert = false := by (have h : (!isDig r.cert) = true := hc7); simpa using h
        refine xsr ?_
        refine las rfl rfl rfl rfl rfl ?_
        refine lendF ?_
        refine awp_ret ?_
        refine ⟨[_], ⟨rfl, trivial⟩, ?_⟩
        first | exact ent_i rfl (relE_1 hmj).symm | exact ent_i rfl (relE_2 hmj hv).symm | exact ent_i rfl (relE_3 hmj hv hrq).symm | exact ent_i rfl (relE_4 hmj hv hrq (c := false) (by simp_all)).symm | exact ent_i rfl (relE_4 hmj hv hrq (c := true) (by simp_all)).symm
       ·
        have hd3 : isDig r.cert = true := by (have h : (!isDig r.cert) = false := hc7); simpa using h
        refine awp_skip ?_
        refine xsr ?_
        refine las rfl rfl rfl rfl rfl ?_
        refine lendF ?_
        refine awp_ret ?_
        refine ⟨[_], ⟨rfl, trivial⟩, ?_⟩
        first | exact ent_i rfl (relE_1 hmj).symm | exact ent_i rfl (relE_2 hmj hv).symm | exact ent_i rfl (relE_3 hmj hv hrq).symm | exact ent_i rfl (relE_4 hmj hv hrq (c := false) (by simp_all)).symm | exact ent_i rfl (relE_4 hmj hv hrq (c := true) (by simp_all)).symm
      ·
       have hd2 : isDig r.iface = false := by (have h : (!isDig r.iface) = true := (g00 hg6)); simpa using h
       iterate 4 refine lskip rfl hg6 rfl ?_
       refine xlz (o_pT rfl rfl (g00 hg6) rfl rfl) ?_
       refine lendF ?_
       refine awp_condT rfl rfl rfl ?_
       refine xsr ?_
       refine las rfl rfl rfl rfl rfl ?_
       refine lendF ?_
       refine awp_ret ?_
       refine ⟨[_], ⟨rfl, trivial⟩, ?_⟩
       first | exact ent_i rfl (relE_1 hmj).symm | exact ent_i rfl (relE_2 hmj hv).symm | exact ent_i rfl (relE_3 hmj hv hrq).symm | exact ent_i rfl (relE_4 hmj hv hrq (c := false) (by simp_all)).symm | exact ent_i rfl (relE_4 hmj hv hrq (c := true) (by simp_all)).symm
     ·
      have hd1 : isDig r.arch = false := by (have h : (!isDig r.arch) = true := (g00 hg5)); simpa using h
      iterate 4 refine lskip rfl hg5 rfl ?_
      refine xlz (o_pT rfl rfl (g00 hg5) rfl rfl) ?_
      refine lmv rfl rfl rfl rfl rfl ?_
      iterate 4 refine lskip rfl rfl rfl ?_
      refine xlz (o_pT rfl rfl rfl rfl rfl) ?_
      refine lendF ?_
      refine awp_condT rfl rfl rfl ?_
      refine xsr ?_
      refine las rfl rfl rfl rfl rfl ?_
      refine lendF ?_
      refine awp_ret ?_
      refine ⟨[_], ⟨rfl, trivial⟩, ?_⟩
      first | exact ent_i rfl (relE_1 hmj).symm | exact ent_i rfl (relE_2 hmj hv).symm | exact ent_i rfl (relE_3 hmj hv hrq).symm | exact ent_i rfl (relE_4 hmj hv hrq (c := false) (by simp_all)).symm | exact ent_i rfl (relE_4 hmj hv hrq (c := true) (by simp_all)).symm
  ·
   have hv : r.ver.ok = false ∨ r.ver.maj ≠ majN r.path := .inl (by have := (g00 hg2); simpa using this)
   iterate 5 refine lskip rfl hg2 rfl ?_
   refine xlz (o_pT rfl rfl (g00 hg2) rfl rfl) ?_
   refine lendF ?_
   refine awp_condT rfl rfl rfl ?_
   refine xsr ?_
   refine las rfl rfl rfl rfl rfl ?_
   refine lendF ?_
   refine awp_ret ?_
   refine ⟨[_], ⟨rfl, trivial⟩, ?_⟩
   first | exact ent_i rfl (relE_1 hmj).symm | exact ent_i rfl (relE_2 hmj hv).symm | exact ent_i rfl (relE_3 hmj hv hrq).symm | exact ent_i rfl (relE_4 hmj hv hrq (c := false) (by simp_all)).symm | exact ent_i rfl (relE_4 hmj hv hrq (c := true) (by simp_all)).symm

set_option maxRecDepth 10000 in
theorem c49 (x : Idx) (hl : x.rels.length < 4611686018427387904) (hr : ∀ r ∈ x.rels, r.Sm) : Fn PR 49 [.d x.d] [] [.d (I (checkI x.rels))] [] := by
 refine fn_of_awp Tryz.func49 rfl (N := 55) rfl ?_
 refine xsr ?_
 refine xlz (op_box rfl rfl (by decide) rfl rfl) ?_
 refine las rfl rfl rfl rfl rfl ?_
 refine lendF ?_
 refine xsr ?_
 refine xlz (op_fieldP rfl rfl rfl fl25_0) ?_
 refine xlz (op_load1 rfl rfl rfl rfl ty22 rfl rfl) ?_
 refine las rfl rfl rfl rfl rfl ?_
 refine lendF ?_
 refine awp_seq ?_
 refine xsr ?_
 refine lmv rfl rfl rfl rfl rfl ?_
 refine xlz (o_lenE (n := x.rels.length) rfl rfl rfl ty22 (by simp)) ?_
 refine xlz (op_binI rfl rfl rfl rfl rfl (.inl rfl) rfl) ?_
 refine lendF ?_
 refine awp_cond rfl rfl (fun hc1 => ?_) (fun hc1 => ?_)
 ·
  have h16 : x.rels.length > 256 := by have := hc1; simp at this; omega
  refine xsr ?_
  refine las rfl rfl rfl rfl rfl ?_
  refine lendF ?_
  refine awp_ret ?_
  refine ⟨[_], ⟨rfl, trivial⟩, ?_⟩
  exact ent_i rfl (by rw [checkI, if_pos h16])
 ·
  have h16 : ¬ x.rels.length > 256 := by have := hc1; simp at this; omega
  refine awp_skip ?_
  refine awp_seq ?_
  refine xsr ?_
  refine las rfl rfl rfl rfl rfl ?_
  refine lendF ?_
  refine awp_block ?_
  refine awp_loop (fun i => ⟨55, [(4, .d (I (i : Nat))), (3, .d (relsD x.rels))], []⟩) (fun i => x.rels.length - i) (fun i => i ≤ x.rels.length ∧ relsE (prevQ x.rels i) (x.rels.drop i) = relsE none x.rels) 0 ?_ ?_ ?_
  ·
   exact ent_k [] rfl rfl ((by repeat (first | exact .nil | refine xkc ?_))) obs_nil rfl
  ·
   exact ⟨Nat.zero_le _, rfl⟩
  ·
   rintro i ⟨hi, hI⟩
   refine awp_seq ?_
   refine xsr ?_
   iterate 2 refine lmv rfl rfl rfl rfl rfl ?_
   refine xlz (o_lenE (n := x.rels.length) rfl rfl rfl ty22 (by simp)) ?_
   refine xlz (op_binI rfl rfl rfl rfl rfl (.inl rfl) rfl) ?_
   refine lendF ?_
   refine awp_cond rfl rfl (fun hc2 => ?_) (fun hc2 => ?_)
   ·
    obtain ⟨z, hn⟩ := rng_lt (l := x.rels) (by simpa using hc2)
    have hlt := rng_le hn
    have hmem := List.mem_of_getElem? hn
    refine awp_skip ?_
    refine awp_seq ?_
    refine awp_block ?_
    refine awp_seq ?_
    refine xsr ?_
    iterate 2 refine lmv rfl rfl rfl rfl rfl ?_
    refine xlz (o_ixN (i) rfl rfl rfl rfl ty22 (by first | rfl | omega | (simp; done) | (simp; omega)) hn ty40) ?_
    refine xlz (op_loadCA rfl rfl rfl ty40 rfl (xlb rfl)) ?_
    refine xlz (o_call (c59 z (hr z hmem)) rfl rfl rfl ca59 rfl rfl) ?_
    refine las rfl rfl rfl rfl rfl ?_
    refine lendF ?_
    refine xsr ?_
    refine lmv rfl rfl rfl rfl rfl ?_
    refine xlz (op_binI rfl rfl rfl rfl rfl (.inl rfl) rfl) ?_
    refine lendF ?_
    refine awp_cond rfl rfl (fun hc3 => ?_) (fun hc3 => ?_)
    ·
     have hz0 : relE z ≠ 0 := by simpa using hc3
     refine xsr ?_
     refine lmv rfl rfl rfl rfl rfl ?_
     refine las rfl rfl rfl rfl rfl ?_
     refine lendF ?_
     refine awp_ret ?_
     refine ⟨[_], ⟨rfl, trivial⟩, ?_⟩
     first | exact ent_i rfl (relsE_stop hI h16 hn rfl hz0) | exact ent_i rfl (relsE_stop2 hI h16 hn hz0 hst (by decide)) | exact ent_i rfl (relsE_end hI h16)
    ·
     have hz0 : relE z = 0 := by simpa using hc3
     refine awp_skip ?_
     refine awp_seq ?_
     refine xsr ?_
     refine lmv rfl rfl rfl rfl rfl ?_
     refine xlz (op_binI rfl rfl rfl rfl rfl (.inl rfl) rfl) ?_
     refine lmv rfl rfl rfl rfl rfl ?_
     refine lsplit rfl (fun hg4 => ?_) (fun hg4 => ?_)
     ·
      have hi0 : 0 < i := by have := (g11 hg4); simp at this; omega
      obtain ⟨y, hy⟩ : ∃ y, x.rels[i - 1]? = some y := ⟨_, List.getElem?_eq_getElem (by omega)⟩
      have hpv := prevQ_pos hi0 hy
      iterate 2 refine gmv hg4 rfl rfl rfl rfl rfl ?_
      refine lg (o_sub rfl rfl rfl rfl (by first | omega | (simp; omega) | (simp at *; omega))) rfl hg4 rfl rfl ?_
      refine lg (o_ixN ((i - 1)) rfl rfl rfl rfl ty22 (by first | rfl | omega | (simp; done) | (simp; omega)) hy ty40) rfl hg4 rfl rfl ?_
      refine lg (op_loadCA rfl rfl rfl ty40 rfl (xlb rfl)) rfl hg4 rfl rfl ?_
      iterate 2 refine gmv hg4 rfl rfl rfl rfl rfl ?_
      refine lg (o_ixN (i) rfl rfl rfl rfl ty22 (by first | rfl | omega | (simp; done) | (simp; omega)) hn ty40) rfl hg4 rfl rfl ?_
      refine lg (op_loadCA rfl rfl rfl ty40 rfl (xlb rfl)) rfl hg4 rfl rfl ?_
      refine lg (o_call (c90 y z) rfl rfl rfl ca90 rfl rfl) rfl hg4 rfl rfl ?_
      refine lg (op_binI rfl rfl rfl rfl rfl (.inl rfl) rfl) rfl hg4 rfl rfl ?_
      refine xlz (o_pT rfl rfl (g11 hg4) rfl rfl) ?_
      refine lend (fun _ => by kernel_rfl) ?_
      refine awp_cond rfl rfl (fun hc5 => ?_) (fun hc5 => ?_)
      ·
       have hst := stepE_5 (r := z) hpv (by simpa using hc5)
       refine xsr ?_
       refine las rfl rfl rfl rfl rfl ?_
       refine lendF ?_
       refine awp_ret ?_
       refine ⟨[_], ⟨rfl, trivial⟩, ?_⟩
       first | exact ent_i rfl (relsE_stop hI h16 hn rfl hz0) | exact ent_i rfl (relsE_stop2 hI h16 hn hz0 hst (by decide)) | exact ent_i rfl (relsE_end hI h16)
      ·
       have hne : ¬ cmpR y z = 0 := by simpa using hc5
       refine awp_skip ?_
       refine xsr ?_
       refine lmv rfl rfl rfl rfl rfl ?_
       refine xlz (op_binI rfl rfl rfl rfl rfl (.inl rfl) rfl) ?_
       refine lmv rfl rfl rfl rfl rfl ?_
       iterate 2 refine gmv hg4 rfl rfl rfl rfl rfl ?_
       refine lg (o_sub rfl rfl rfl rfl (by first | omega | (simp; omega) | (simp at *; omega))) rfl hg4 rfl rfl ?_
       refine lg (o_ixN ((i - 1)) rfl rfl rfl rfl ty22 (by first | rfl | omega | (simp; done) | (simp; omega)) hy ty40) rfl hg4 rfl rfl ?_
       refine lg (op_loadCA rfl rfl rfl ty40 rfl (xlb rfl)) rfl hg4 rfl rfl ?_
       iterate 2 refine gmv hg4 rfl rfl rfl rfl rfl ?_
       refine lg (o_ixN (i) rfl rfl rfl rfl ty22 (by first | rfl | omega | (simp; done) | (simp; omega)) hn ty40) rfl hg4 rfl rfl ?_
       refine lg (op_loadCA rfl rfl rfl ty40 rfl (xlb rfl)) rfl hg4 rfl rfl ?_
       refine lg (o_call (c90 y z) rfl rfl rfl ca90 rfl rfl) rfl hg4 rfl rfl ?_
       refine lg (op_binI rfl rfl rfl rfl rfl (.inl rfl) rfl) rfl hg4 rfl rfl ?_
       refine xlz (o_pT rfl rfl (g11 hg4) rfl rfl) ?_
       refine lend (fun _ => by kernel_rfl) ?_
       refine awp_cond rfl rfl (fun hc6 => ?_) (fun hc6 => ?_)
       ·
        have hst := stepE_1 (r := z) hpv hne (by simpa using hc6)
        refine xsr ?_
        refine las rfl rfl rfl rfl rfl ?_
        refine lendF ?_
        refine awp_ret ?_
        refine ⟨[_], ⟨rfl, trivial⟩, ?_⟩
        first | exact ent_i rfl (relsE_stop hI h16 hn rfl hz0) | exact ent_i rfl (relsE_stop2 hI h16 hn hz0 hst (by decide)) | exact ent_i rfl (relsE_end hI h16)
       ·
        have hst := stepE_0 (r := z) hpv hne (by simpa using hc6)
        refine awp_skip ?_
        refine awp_region mixed ?_
        refine lmv rfl rfl rfl rfl rfl ?_
        refine xlz (o_add rfl rfl rfl rfl (by first | omega | (simp; omega) | (simp at *; omega))) ?_
        refine las rfl rfl rfl rfl rfl ?_
        refine lendF ?_
        refine ⟨i + 1, ?_, ?_, ?_⟩
        ·
         exact ⟨rng_le hn, relsE_next hI hn hz0 hst⟩
        ·
         exact ent_k [] rfl rfl ((by repeat (first | exact .nil | refine xkc ?_))) obs_nil rfl
        ·
         omega
     ·
      have hi0 : i = 0 := by have := (g10 hg4); simp at this; omega
      have hst := stepE_z (r := z) (l := x.rels) hi0
      iterate 11 refine lskip rfl hg4 rfl ?_
      refine xlz (o_pF rfl rfl (g10 hg4) rfl rfl) ?_
      refine lend (fun _ => by kernel_rfl) ?_
      refine awp_condF rfl rfl rfl ?_
      refine awp_skip ?_
      refine xsr ?_
      refine lmv rfl rfl rfl rfl rfl ?_
      refine xlz (op_binI rfl rfl rfl rfl rfl (.inl rfl) rfl) ?_
      refine lmv rfl rfl rfl rfl rfl ?_
      iterate 11 refine lskip rfl hg4 rfl ?_
      refine xlz (o_pF rfl rfl (g10 hg4) rfl rfl) ?_
      refine lend (fun _ => by kernel_rfl) ?_
      refine awp_condF rfl rfl rfl ?_
      refine awp_skip ?_
      refine awp_region mixed ?_
      refine lmv rfl rfl rfl rfl rfl ?_
      refine xlz (o_add rfl rfl rfl rfl (by first | omega | (simp; omega) | (simp at *; omega))) ?_
      refine las rfl rfl rfl rfl rfl ?_
      refine lendF ?_
      refine ⟨i + 1, ?_, ?_, ?_⟩
      ·
       exact ⟨rng_le hn, relsE_next hI hn hz0 hst⟩
      ·
       exact ent_k [] rfl rfl ((by repeat (first | exact .nil | refine xkc ?_))) obs_nil rfl
      ·
       omega
   ·
    obtain rfl := rng_ge (l := x.rels) (by simpa using hc2) hi
    refine awp_exit ?_
    refine xsr ?_
    refine las rfl rfl rfl rfl rfl ?_
    refine lendF ?_
    refine awp_ret ?_
    refine ⟨[_], ⟨rfl, trivial⟩, ?_⟩
    first | exact ent_i rfl (relsE_stop hI h16 hn rfl hz0) | exact ent_i rfl (relsE_stop2 hI h16 hn hz0 hst (by decide)) | exact ent_i rfl (relsE_end hI h16)

end Go.Pm

namespace Go.Pm
open Go.Proofs

set_option maxRecDepth 10000 in
set_option maxHeartbeats 2000000 in
theorem c35 (x : Idx) (hl : x.rels.length < 4611686018427387904) (hr : ∀ r ∈ x.rels, r.Sm) (p : Bytes) (v : Ver) : Fn PR 35 [.d x.d, .d (.str p), .d v.d] [] [.d (getR x ⟨p, v⟩).d, .d (.bool (findR (okR x) ⟨p, v⟩).isSome)] [] := by
 refine fn_of_awp Tryz.func35 rfl (N := 44) rfl ?_
 refine xsr ?_
 refine xlz (op_box rfl rfl (by decide) rfl rfl) ?_
 refine xlz (op_box rfl rfl (by decide) rfl rfl) ?_
 refine xlz (op_alloc rfl rfl (by decide) ty40 zk40 rfl) ?_
 refine las rfl rfl rfl rfl rfl ?_
 refine lendF ?_
 refine awp_seq ?_
 refine xsr ?_
 refine xlz (o_ldA rfl rfl rfl rfl ty25 rfl (xlb rfl) rfl) ?_
 refine xlz (o_call (c49 x hl hr) rfl rfl rfl ca49 rfl rfl) ?_
 refine xlz (op_binI rfl rfl rfl rfl rfl (.inl rfl) rfl) ?_
 refine lendF ?_
 refine awp_cond rfl rfl (fun hc1 => ?_) (fun hc1 => ?_)
 ·
  have hok := okR_no (x := x) (by simpa using hc1)
  refine xsr ?_
  refine xlz (o_bld rfl rfl rfl bl40 ty40 zk40 rfl rfl rfl) ?_
  refine xlz (op_store rfl rfl rfl rfl rfl rfl ty40 rfl (xlb rfl)) ?_
  refine las rfl rfl rfl rfl rfl ?_
  refine lendF ?_
  refine awp_ret ?_
  refine ⟨[_, _], ⟨⟨_, _, _, _, _, _, _, rfl, rfl, ty40, (xlb rfl), rfl⟩, rfl, trivial⟩, ?_⟩
  exact ent_d2 rfl (by unfold getR; rw [hok]; rfl) rfl (by rw [hok]; rfl)
 ·
  have h0 : checkI x.rels = 0 := by simpa using hc1
  have hok := okR_yes h0
  refine awp_skip ?_
  refine awp_seq ?_
  refine xsr ?_
  refine las rfl rfl rfl rfl rfl ?_
  refine lendF ?_
  refine awp_block ?_
  refine awp_loop (fun i => ⟨44, [(8, .d (I (i : Nat))), (1, .d (.str p)), (3, .ptr 3 0), (5, .ptr 5 0), (6, .ptr 6 0)], [(6, .cells [.d (.str []), .d (I 0), .d (I 0), .d (I 0), .nils, .d (.str []), .d (.str []), .d (.str []), .d (.bool false)]), (5, .cells [.d (I v.maj), .d (I v.min), .d (I v.pat)]), (3, .cells [.d (relsD x.rels), .d (.list x.ifs)])]⟩) (fun i => x.rels.length - i) (fun i => i ≤ x.rels.length ∧ findR (x.rels.drop i) ⟨p, v⟩ = findR x.rels ⟨p, v⟩) 0 ?_ ?_ ?_
  ·
   exact ent_k [] rfl rfl ((by repeat (first | exact .nil | refine xkc ?_))) (obs_cons rfl (o_eq rfl) (obs_cons rfl (o_eq rfl) (obs_cons rfl (o_eq rfl) obs_nil))) rfl
  ·
   exact ⟨Nat.zero_le _, rfl⟩
  ·
   rintro i ⟨hi, hI⟩
   refine awp_seq ?_
   refine xsr ?_
   refine lmv rfl rfl rfl rfl rfl ?_
   refine xlz (op_fieldP rfl rfl rfl fl25_0) ?_
   refine xlz (op_load1 rfl rfl rfl rfl ty22 rfl rfl) ?_
   refine xlz (o_lenE (n := x.rels.length) rfl rfl rfl ty22 (by simp)) ?_
   refine xlz (op_binI rfl rfl rfl rfl rfl (.inl rfl) rfl) ?_
   refine lendF ?_
   refine awp_cond rfl rfl (fun hc2 => ?_) (fun hc2 => ?_)
   ·
    obtain ⟨z, hn⟩ := rng_lt (l := x.rels) (by simpa using hc2)
    have hlt := rng_le hn
    have hmem := List.mem_of_getElem? hn
    refine awp_skip ?_
    refine awp_seq ?_
    refine awp_block ?_
    refine xsr ?_
    refine xlz (op_fieldP rfl rfl rfl fl25_0) ?_
    refine xlz (op_load1 rfl rfl rfl rfl ty22 rfl rfl) ?_
    refine lmv rfl rfl rfl rfl rfl ?_
    refine xlz (o_ixN (i) rfl rfl rfl rfl ty22 (by first | rfl | omega | (simp; done) | (simp; omega)) hn ty40) ?_
    refine xlz (op_fieldC rfl rfl rfl fl40_0) ?_
    refine xlz (op_loadC1 rfl rfl rfl ty9 rfl rfl) ?_
    refine lmv rfl rfl rfl rfl rfl ?_
    refine xlz (op_binS rfl rfl rfl rfl rfl (fun h => by first | cases h | (simp; omega)) rfl) ?_
    refine lmv rfl rfl rfl rfl rfl ?_
    refine lsplit rfl (fun hg3 => ?_) (fun hg3 => ?_)
    ·
     have hp : z.path = p := by simpa using (g11 hg3)
     refine lg (op_fieldP rfl rfl rfl fl25_0) rfl hg3 rfl rfl ?_
     refine lg (op_load1 rfl rfl rfl rfl ty22 rfl rfl) rfl hg3 rfl rfl ?_
     refine gmv hg3 rfl rfl rfl rfl rfl ?_
     refine lg (o_ixN (i) rfl rfl rfl rfl ty22 (by first | rfl | omega | (simp; done) | (simp; omega)) hn ty40) rfl hg3 rfl rfl ?_
     refine lg (op_fieldC rfl rfl rfl fl40_1) rfl hg3 rfl rfl ?_
     refine lg (op_loadCA rfl rfl rfl ty38 rfl (xlb rfl)) rfl hg3 rfl rfl ?_
     refine lg (o_ldA rfl rfl rfl rfl ty38 rfl (xlb rfl) rfl) rfl hg3 rfl rfl ?_
     refine lg (op_eqlA rfl (.inl rfl) rfl rfl rfl rfl ty38 es38 rfl rfl eg38) rfl hg3 rfl rfl ?_
     refine xlz (o_pT rfl rfl (g11 hg3) rfl rfl) ?_
     refine lend (fun _ => by kernel_rfl) ?_
     refine awp_cond rfl rfl (fun hc4 => ?_) (fun hc4 => ?_)
     ·
      have hk : z.sel = ⟨p, v⟩ := by (have h : eqDs [I z.ver.maj, I z.ver.min, I z.ver.pat] [I v.maj, I v.min, I v.pat] = true := hc4); rw [eqDs_ver] at h; simp at h; simp [Rls.sel, hp, h]
      refine xsr ?_
      refine xlz (op_fieldP rfl rfl rfl fl25_0) ?_
      refine xlz (op_load1 rfl rfl rfl rfl ty22 rfl rfl) ?_
      refine lmv rfl rfl rfl rfl rfl ?_
      refine xlz (o_ixN (i) rfl rfl rfl rfl ty22 (by first | rfl | omega | (simp; done) | (simp; omega)) hn ty40) ?_
      refine xlz (op_loadCA rfl rfl rfl ty40 rfl (xlb rfl)) ?_
      refine xlz (op_store rfl rfl rfl rfl rfl rfl ty40 rfl (xlb rfl)) ?_
      refine las rfl rfl rfl rfl rfl ?_
      refine lendF ?_
      refine awp_ret ?_
      refine ⟨[_, _], ⟨⟨_, _, _, _, _, _, _, rfl, rfl, ty40, (xlb rfl), rfl⟩, rfl, trivial⟩, ?_⟩
      have hf : findR x.rels ⟨p, v⟩ = some z := by rw [← hI, drop_cons hn, findR_yes hk]
      exact ent_d2 rfl (by unfold getR; rw [hok, hf]; rfl) rfl (by rw [hok, hf]; rfl)
     ·
      have hk : ¬ z.sel = ⟨p, v⟩ := by (have h : eqDs [I z.ver.maj, I z.ver.min, I z.ver.pat] [I v.maj, I v.min, I v.pat] = false := hc4); rw [eqDs_ver] at h; simp at h; intro e; simp [Rls.sel] at e; exact h e.2
      refine awp_skip ?_
      refine awp_region mixed ?_
      refine lmv rfl rfl rfl rfl rfl ?_
      refine xlz (o_add rfl rfl rfl rfl (by first | omega | (simp; omega) | (simp at *; omega))) ?_
      refine las rfl rfl rfl rfl rfl ?_
      refine lendF ?_
      refine ⟨i + 1, ?_, ?_, ?_⟩
      ·
       exact ⟨rng_le hn, by rw [← hI, drop_cons hn, findR_no hk]⟩
      ·
       exact ent_k [] rfl rfl ((by repeat (first | exact .nil | refine xkc ?_))) (obs_cons rfl (o_eq rfl) (obs_cons rfl (o_eq rfl) (obs_cons rfl (o_eq rfl) obs_nil))) rfl
      ·
       omega
    ·
     have hk : ¬ z.sel = ⟨p, v⟩ := by (have h := (g10 hg3)); simp at h; intro e; simp [Rls.sel] at e; exact h e.1
     iterate 8 refine lskip rfl hg3 rfl ?_
     refine xlz (o_pF rfl rfl (g10 hg3) rfl rfl) ?_
     refine lend (fun _ => by kernel_rfl) ?_
     refine awp_condF rfl rfl rfl ?_
     refine awp_skip ?_
     refine awp_region mixed ?_
     refine lmv rfl rfl rfl rfl rfl ?_
     refine xlz (o_add rfl rfl rfl rfl (by first | omega | (simp; omega) | (simp at *; omega))) ?_
     refine las rfl rfl rfl rfl rfl ?_
     refine lendF ?_
     refine ⟨i + 1, ?_, ?_, ?_⟩
     ·
      exact ⟨rng_le hn, by rw [← hI, drop_cons hn, findR_no hk]⟩
     ·
      exact ent_k [] rfl rfl ((by repeat (first | exact .nil | refine xkc ?_))) (obs_cons rfl (o_eq rfl) (obs_cons rfl (o_eq rfl) (obs_cons rfl (o_eq rfl) obs_nil))) rfl
     ·
      omega
   ·
    obtain rfl := rng_ge (l := x.rels) (by simpa using hc2) hi
    refine awp_exit ?_
    refine xsr ?_
    refine xlz (o_bld rfl rfl rfl bl40 ty40 zk40 rfl rfl rfl) ?_
    refine xlz (op_store rfl rfl rfl rfl rfl rfl ty40 rfl (xlb rfl)) ?_
    refine las rfl rfl rfl rfl rfl ?_
    refine lendF ?_
    refine awp_ret ?_
    refine ⟨[_, _], ⟨⟨_, _, _, _, _, _, _, rfl, rfl, ty40, (xlb rfl), rfl⟩, rfl, trivial⟩, ?_⟩
    have hf : findR x.rels ⟨p, v⟩ = none := by rw [← hI, List.drop_length]; rfl
    exact ent_d2 rfl (by unfold getR; rw [hok, hf]; rfl) rfl (by rw [hok, hf]; rfl)

end Go.Pm
