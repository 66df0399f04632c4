/- Part 4 of a proof about the index of a registry: plain functions, and walks through the program that show that it computes them (W15 .. W30). Own work. -/
import Derived.Test.YtffkffapcffhcaaGreatDoorQc
set_option autoImplicit false
set_option linter.unusedVariables false
set_option linter.unusedSimpArgs false
namespace Go.Pm
open Go.Proofs

set_option maxRecDepth 10000 in
theorem c201 (s : Bytes) (hs : s.length < 4611686018427387904) : Fn PR 201 [.d (.str s)] [] [.d (.int .u32 (hashN s % M32)), .d (.int .u32 ((16777619 : Int) ^ s.length % M32))] [] := by
 refine fn_of_awp Tryz.func201 rfl (N := 39) rfl ?_
 refine xsr ?_
 refine xlz (o_as rfl rfl rfl) ?_
 refine xlz (o_as rfl rfl rfl) ?_
 refine lendF ?_
 refine xsr ?_
 refine xlz (o_as rfl rfl rfl) ?_
 refine lendF ?_
 refine awp_seq ?_
 refine xsr ?_
 refine xlz (o_as rfl rfl rfl) ?_
 refine lendF ?_
 refine awp_block ?_
 refine awp_loop (fun i => ⟨39, [(4, .d (.int .u32 (hashN (s.take i) % M32))), (5, .d (I (i : Nat))), (0, .d (.str s))], []⟩) (fun i => s.length - i) (fun i => i ≤ s.length) 0 ?_ ?_ ?_
 ·
  exact ent_k [] rfl rfl (.cons rfl (k_i (by simp [hashN])) <| xkc <| xkc <| .nil) obs_nil rfl
 ·
  exact Nat.zero_le _
 ·
  intro i hi
  refine awp_seq ?_
  refine xsr ?_
  refine xlz (o_mv rfl rfl rfl) ?_
  refine xlz (o_mv rfl rfl rfl) ?_
  refine xlz (op_lenS rfl rfl rfl ty9) ?_
  refine xlz (op_binI rfl rfl rfl rfl rfl (.inl rfl) rfl) ?_
  refine lendF ?_
  refine awp_cond rfl rfl (fun hc1 => ?_) (fun hc1 => ?_)
  ·
   obtain ⟨x, hn⟩ := rng_lt (l := s) (by simpa using hc1)
   have hlt := rng_le hn
   refine awp_skip ?_
   refine awp_seq ?_
   refine awp_block ?_
   refine awp_region mixed ?_
   refine xlz (o_mv rfl rfl rfl) ?_
   refine xlz (op_binI rfl rfl rfl rfl rfl (.inl rfl) rfl) ?_
   refine xlz (o_mv rfl rfl rfl) ?_
   refine xlz (o_mv rfl rfl rfl) ?_
   refine xlz (o_idxS (i) rfl rfl rfl rfl ty9 (by first | rfl | omega | (simp; done) | (simp; omega)) hn) ?_
   refine xlz (op_convI rfl rfl rfl ty5 ty180) ?_
   refine xlz (o_eqI (op_binI rfl rfl rfl rfl rfl (.inl rfl) rfl) (hash_next hn)) ?_
   refine xlz (o_as rfl rfl rfl) ?_
   refine lendF ?_
   refine awp_region mixed ?_
   refine xlz (o_mv rfl rfl rfl) ?_
   refine xlz (o_add rfl rfl rfl rfl (by first | omega | (simp; omega) | (simp at *; omega))) ?_
   refine xlz (o_as rfl rfl rfl) ?_
   refine lendF ?_
   refine ⟨i + 1, ?_, ?_, ?_⟩
   ·
    exact rng_le hn
   ·
    exact ent_k [] rfl rfl (xkc <| xkc <| xkc <| .nil) obs_nil rfl
   ·
    omega
  ·
   have hie := rng_ge (l := s) (by simpa using hc1) hi
   refine awp_exit ?_
   refine xsr ?_
   refine xlz (o_as rfl rfl rfl) ?_
   refine xlz (o_as rfl rfl rfl) ?_
   refine lendF ?_
   refine awp_seq ?_
   refine xsr ?_
   refine xlz (o_mv rfl rfl rfl) ?_
   refine xlz (op_lenS rfl rfl rfl ty9) ?_
   refine xlz (o_as rfl rfl rfl) ?_
   refine lendF ?_
   refine awp_block ?_
   refine awp_loop (fun x => ⟨39, [(6, .d (.int .u32 (x.2.1))), (7, .d (.int .u32 (x.2.2))), (8, .d (I (x.1 : Nat))), (4, .d (.int .u32 (hashN (s.take i) % M32)))], []⟩) (fun x => x.1) (fun x => x.1 ≤ s.length ∧ x.2.1 % M32 = x.2.1 ∧ (x.2.1 * x.2.2 ^ x.1) % M32 = 16777619 ^ s.length % M32) (s.length, 1, 16777619) ?_ ?_ ?_
   ·
    exact ent_k [] rfl rfl (xkc <| xkc <| xkc <| xkc <| .nil) obs_nil rfl
   ·
    exact ⟨Nat.le_refl _, rfl, by simp⟩
   ·
    rintro ⟨k, pw, sq⟩ ⟨hk, h1, h2⟩
    dsimp only at hk h1 h2 ⊢
    refine awp_seq ?_
    refine xsr ?_
    refine xlz (o_mv rfl rfl rfl) ?_
    refine xlz (op_binI rfl rfl rfl rfl rfl (.inl rfl) rfl) ?_
    refine lendF ?_
    refine awp_cond rfl rfl (fun hc2 => ?_) (fun hc2 => ?_)
    ·
     have hk0 : 0 < k := by have := hc2; simp at this; omega
     refine awp_skip ?_
     refine awp_seq ?_
     refine awp_block ?_
     refine awp_seq ?_
     refine xsr ?_
     refine xlz (o_mv rfl rfl rfl) ?_
     refine xlz (o_eqI (op_binI rfl rfl rfl rfl rfl (.inl rfl) rfl) (and1 k (by omega))) ?_
     refine xlz (op_binI rfl rfl rfl rfl rfl (.inl rfl) rfl) ?_
     refine lendF ?_
     refine awp_cond rfl rfl (fun hc3 => ?_) (fun hc3 => ?_)
     ·
      have hodd : k % 2 = 1 := by have := hc3; simp at this; omega
      refine awp_region mixed ?_
      refine xlz (o_mv rfl rfl rfl) ?_
      refine xlz (o_mv rfl rfl rfl) ?_
      refine xlz (o_eqI (op_binI rfl rfl rfl rfl rfl (.inl rfl) rfl) (wrapU32 _)) ?_
      refine xlz (o_as rfl rfl rfl) ?_
      refine lendF ?_
      refine awp_region mixed ?_
      refine xlz (o_mv rfl rfl rfl) ?_
      refine xlz (o_mv rfl rfl rfl) ?_
      refine xlz (o_eqI (op_binI rfl rfl rfl rfl rfl (.inl rfl) rfl) (wrapU32 _)) ?_
      refine xlz (o_as rfl rfl rfl) ?_
      refine lendF ?_
      refine awp_region mixed ?_
      refine xlz (o_mv rfl rfl rfl) ?_
      refine xlz (o_eqI (op_binI rfl rfl rfl rfl rfl (.inr (.inr rfl)) rfl) (shr1 k)) ?_
      refine xlz (o_as rfl rfl rfl) ?_
      refine lendF ?_
      refine ⟨(k / 2, (pw * sq) % M32, (sq * sq) % M32), ?_, ?_, ?_⟩
      ·
       exact ⟨by show k / 2 ≤ s.length; omega, by simp only [M32]; omega, by rw [← h2]; exact pm_odd hodd⟩
      ·
       exact ent_k [] rfl rfl (xkc <| xkc <| xkc <| xkc <| .nil) obs_nil rfl
      ·
       show k / 2 < k; omega
     ·
      have hodd : k % 2 = 0 := by have := hc3; simp at this; omega
      refine awp_skip ?_
      refine awp_region mixed ?_
      refine xlz (o_mv rfl rfl rfl) ?_
      refine xlz (o_mv rfl rfl rfl) ?_
      refine xlz (o_eqI (op_binI rfl rfl rfl rfl rfl (.inl rfl) rfl) (wrapU32 _)) ?_
      refine xlz (o_as rfl rfl rfl) ?_
      refine lendF ?_
      refine awp_region mixed ?_
      refine xlz (o_mv rfl rfl rfl) ?_
      refine xlz (o_eqI (op_binI rfl rfl rfl rfl rfl (.inr (.inr rfl)) rfl) (shr1 k)) ?_
      refine xlz (o_as rfl rfl rfl) ?_
      refine lendF ?_
      refine ⟨(k / 2, pw, (sq * sq) % M32), ?_, ?_, ?_⟩
      ·
       exact ⟨by show k / 2 ≤ s.length; omega, h1, by rw [← h2]; exact pm_even hodd⟩
      ·
       exact ent_k [] rfl rfl (xkc <| xkc <| xkc <| xkc <| .nil) obs_nil rfl
      ·
       show k / 2 < k; omega
    ·
     have hk0 : k = 0 := by have := hc2; simp at this; omega
     subst hk0
     refine awp_exit ?_
     refine xsr ?_
     refine xlz (o_mv rfl rfl rfl) ?_
     refine xlz (o_mv rfl rfl rfl) ?_
     refine xlz (o_as rfl rfl rfl) ?_
     refine xlz (o_as rfl rfl rfl) ?_
     refine lendF ?_
     refine awp_ret ?_
     refine ⟨[_, _], ⟨rfl, rfl, trivial⟩, ?_⟩
     exact ent_d2 rfl (by rw [hie, List.take_length]) rfl (by congr 1; rw [← h2, ← h1]; simp)

set_option maxRecDepth 10000 in
theorem c198 (s m : Bytes) (hs : s.length < 4611686018427387904) (h0 : 0 < m.length) (hle : m.length ≤ s.length) : Fn PR 198 [.d (.str s), .d (.str m)] [] [.d (I (ixS s m))] [] := by
 refine fn_of_awp Tryz.func198 rfl (N := 81) rfl ?_
 refine xsr ?_
 refine xlz (o_as rfl rfl rfl) ?_
 refine lendF ?_
 refine xsr ?_
 refine xlz (o_mv rfl rfl rfl) ?_
 refine xlz (o_call (c201 m (by omega)) rfl rfl rfl ca201 rfl rfl) ?_
 refine xlz (o_mv rfl rfl rfl) ?_
 refine xlz (op_extract rfl rfl rfl rfl) ?_
 refine xlz (op_extract rfl rfl rfl rfl) ?_
 refine xlz (o_as rfl rfl rfl) ?_
 refine xlz (o_as rfl rfl rfl) ?_
 refine lendF ?_
 refine xsr ?_
 refine xlz (o_mv rfl rfl rfl) ?_
 refine xlz (op_lenS rfl rfl rfl ty9) ?_
 refine xlz (o_as rfl rfl rfl) ?_
 refine lendF ?_
 refine xsr ?_
 refine xlz (o_as rfl rfl rfl) ?_
 refine lendF ?_
 refine awp_seq ?_
 refine xsr ?_
 refine xlz (o_as rfl rfl rfl) ?_
 refine lendF ?_
 refine awp_block ?_
 refine awp_loop (fun i => ⟨81, [(8, .d (.int .u32 (hashN (s.take i) % M32))), (9, .d (I (i : Nat))), (0, .d (.str s)), (1, .d (.str m)), (5, .d (.int .u32 (hashN m % M32))), (6, .d (.int .u32 ((16777619 : Int) ^ m.length % M32))), (7, .d (I m.length))], []⟩) (fun i => m.length - i) (fun i => i ≤ m.length) 0 ?_ ?_ ?_
 ·
  exact ent_k [] rfl rfl (.cons rfl (k_i (by simp [hashN])) <| xkc <| xkc <| xkc <| xkc <| xkc <| xkc <| .nil) obs_nil rfl
 ·
  exact Nat.zero_le _
 ·
  intro i hi
  refine awp_seq ?_
  refine xsr ?_
  refine xlz (o_mv rfl rfl rfl) ?_
  refine xlz (o_mv rfl rfl rfl) ?_
  refine xlz (op_binI rfl rfl rfl rfl rfl (.inl rfl) rfl) ?_
  refine lendF ?_
  refine awp_cond rfl rfl (fun hc1 => ?_) (fun hc1 => ?_)
  ·
   have hlt : i < m.length := by have := hc1; simp at this; omega
   obtain ⟨x, hn⟩ : ∃ x, s[i]? = some x := ⟨_, List.getElem?_eq_getElem (by omega)⟩
   refine awp_skip ?_
   refine awp_seq ?_
   refine awp_block ?_
   refine awp_region mixed ?_
   refine xlz (o_mv rfl rfl rfl) ?_
   refine xlz (op_binI rfl rfl rfl rfl rfl (.inl rfl) rfl) ?_
   refine xlz (o_mv rfl rfl rfl) ?_
   refine xlz (o_mv rfl rfl rfl) ?_
   refine xlz (o_idxS (i) rfl rfl rfl rfl ty9 (by first | rfl | omega | (simp; done) | (simp; omega)) hn) ?_
   refine xlz (op_convI rfl rfl rfl ty5 ty180) ?_
   refine xlz (o_eqI (op_binI rfl rfl rfl rfl rfl (.inl rfl) rfl) (hash_next hn)) ?_
   refine xlz (o_as rfl rfl rfl) ?_
   refine lendF ?_
   refine awp_region mixed ?_
   refine xlz (o_mv rfl rfl rfl) ?_
   refine xlz (o_add rfl rfl rfl rfl (by first | omega | (simp; omega) | (simp at *; omega))) ?_
   refine xlz (o_as rfl rfl rfl) ?_
   refine lendF ?_
   refine ⟨i + 1, ?_, ?_, ?_⟩
   ·
    exact hlt
   ·
    exact ent_k [] rfl rfl (xkc <| xkc <| xkc <| xkc <| xkc <| xkc <| xkc <| .nil) obs_nil rfl
   ·
    omega
  ·
   have hie : i = m.length := by have := hc1; simp at this; omega
   refine awp_exit ?_
   refine awp_seq ?_
   refine xsr ?_
   refine xlz (o_mv rfl rfl rfl) ?_
   refine xlz (o_mv rfl rfl rfl) ?_
   refine xlz (op_binI rfl rfl rfl rfl rfl (.inl rfl) rfl) ?_
   refine xlz (o_mv rfl rfl rfl) ?_
   refine lsplit rfl (fun hg2 => ?_) (fun hg2 => ?_)
   ·
    refine lg (o_mv rfl rfl rfl) rfl hg2 rfl rfl ?_
    refine lg (o_mv rfl rfl rfl) rfl hg2 rfl rfl ?_
    refine lg (o_slS rfl rfl rfl ty9 .none (.some rfl rfl (n := m.length) (by first | rfl | omega | (simp; done) | (simp; omega))) (Nat.zero_le _) hle) rfl hg2 rfl rfl ?_
    refine lg (o_mv rfl rfl rfl) rfl hg2 rfl rfl ?_
    refine lg (op_binS rfl rfl rfl rfl rfl (fun h => by first | cases h | (simp; omega)) rfl) rfl hg2 rfl rfl ?_
    refine xlz (o_pT rfl rfl (g11 hg2) rfl rfl) ?_
    refine lendF ?_
    refine awp_cond rfl rfl (fun hc3 => ?_) (fun hc3 => ?_)
    ·
     have hm0 : mAt s m 0 = true := by have := hc3; simpa [mAt] using this
     refine xsr ?_
     refine xlz (o_as rfl rfl rfl) ?_
     refine lendF ?_
     refine awp_ret ?_
     refine ⟨[_], ⟨rfl, trivial⟩, ?_⟩
     first | exact ent_i rfl (ixS_found (k := 0) (by omega) (fun j hj => by omega) hm0).symm | exact ent_i rfl (by rw [ixS_found (k := i + 1 - m.length) (by omega) (fun j hj => hno j (by omega)) hm2]; omega) | exact ent_i rfl (ixS_none fun j hj => hno j (by omega)).symm
    ·
     have hnm : mAt s m 0 = false := by have := hc3; simpa [mAt] using this
     refine awp_skip ?_
     refine awp_seq ?_
     refine xsr ?_
     refine xlz (o_mv rfl rfl rfl) ?_
     refine xlz (o_as rfl rfl rfl) ?_
     refine lendF ?_
     refine awp_block ?_
     have hno0 : mAt s m 0 = false := by first | exact hash_ne (l := s) (k := 0) hnh | exact hnm
     refine awp_loop (fun i => ⟨81, [(8, .d (.int .u32 (hashN ((s.drop (i - m.length)).take m.length) % M32))), (10, .d (I (i : Nat))), (0, .d (.str s)), (1, .d (.str m)), (5, .d (.int .u32 (hashN m % M32))), (6, .d (.int .u32 ((16777619 : Int) ^ m.length % M32))), (7, .d (I m.length))], []⟩) (fun i => s.length - i) (fun i => m.length ≤ i ∧ i ≤ s.length ∧ (∀ j, j < (i - m.length + 1) → mAt s m j = false)) m.length ?_ ?_ ?_
     ·
      exact ent_k [] rfl rfl (.cons rfl (k_i (by rw [Nat.sub_self, List.drop_zero, hie])) <| .cons rfl (k_i rfl) <| xkc <| xkc <| xkc <| xkc <| xkc <| .nil) obs_nil rfl
     ·
      exact ⟨Nat.le_refl _, hle, fun j hj => by (have : j = 0 := by omega); subst this; exact hno0⟩
     ·
      rintro i ⟨hmi, hi, hno⟩
      refine awp_seq ?_
      refine xsr ?_
      refine xlz (o_mv rfl rfl rfl) ?_
      refine xlz (o_mv rfl rfl rfl) ?_
      refine xlz (op_lenS rfl rfl rfl ty9) ?_
      refine xlz (op_binI rfl rfl rfl rfl rfl (.inl rfl) rfl) ?_
      refine lendF ?_
      refine awp_cond rfl rfl (fun hc4 => ?_) (fun hc4 => ?_)
      ·
       obtain ⟨x, hn⟩ := rng_lt (l := s) hc4
       have hlt := rng_le hn
       obtain ⟨a, ha⟩ : ∃ a, s[i - m.length]? = some a := ⟨_, List.getElem?_eq_getElem (by omega)⟩
       refine awp_skip ?_
       refine awp_block ?_
       refine xsr ?_
       refine xlz (o_mv rfl rfl rfl) ?_
       refine xlz (op_binI rfl rfl rfl rfl rfl (.inl rfl) rfl) ?_
       refine xlz (o_as rfl rfl rfl) ?_
       refine lendF ?_
       refine xsr ?_
       refine xlz (o_mv rfl rfl rfl) ?_
       refine xlz (o_mv rfl rfl rfl) ?_
       refine xlz (o_mv rfl rfl rfl) ?_
       refine xlz (o_idxS (i) rfl rfl rfl rfl ty9 (by first | rfl | omega | (simp; done) | (simp; omega)) hn) ?_
       refine xlz (op_convI rfl rfl rfl ty5 ty180) ?_
       refine xlz (op_binI rfl rfl rfl rfl rfl (.inl rfl) rfl) ?_
       refine xlz (o_as rfl rfl rfl) ?_
       refine lendF ?_
       refine xsr ?_
       refine xlz (o_mv rfl rfl rfl) ?_
       refine xlz (o_mv rfl rfl rfl) ?_
       refine xlz (o_mv rfl rfl rfl) ?_
       refine xlz (o_mv rfl rfl rfl) ?_
       refine xlz (o_mv rfl rfl rfl) ?_
       refine xlz (o_sub rfl rfl rfl rfl (by first | omega | (simp; omega) | (simp at *; omega))) ?_
       refine xlz (o_idxS ((i - m.length)) rfl rfl rfl rfl ty9 (by first | rfl | omega | (simp; done) | (simp; omega)) ha) ?_
       refine xlz (op_convI rfl rfl rfl ty5 ty180) ?_
       refine xlz (op_binI rfl rfl rfl rfl rfl (.inl rfl) rfl) ?_
       refine xlz (o_eqI (op_binI rfl rfl rfl rfl rfl (.inl rfl) rfl) (roll_next hn ha h0 hmi)) ?_
       refine xlz (o_as rfl rfl rfl) ?_
       refine lendF ?_
       refine xsr ?_
       refine xlz (o_mv rfl rfl rfl) ?_
       refine xlz (o_add rfl rfl rfl rfl (by first | omega | (simp; omega) | (simp at *; omega))) ?_
       refine xlz (o_as rfl rfl rfl) ?_
       refine lendF ?_
       refine xsr ?_
       refine xlz (o_mv rfl rfl rfl) ?_
       refine xlz (o_mv rfl rfl rfl) ?_
       refine xlz (op_binI rfl rfl rfl rfl rfl (.inl rfl) rfl) ?_
       refine xlz (o_mv rfl rfl rfl) ?_
       refine lsplit rfl (fun hg5 => ?_) (fun hg5 => ?_)
       ·
        refine lg (o_mv rfl rfl rfl) rfl hg5 rfl rfl ?_
        refine lg (o_mv rfl rfl rfl) rfl hg5 rfl rfl ?_
        refine lg (o_mv rfl rfl rfl) rfl hg5 rfl rfl ?_
        refine lg (o_sub rfl rfl rfl rfl (by first | omega | (simp; omega) | (simp at *; omega))) rfl hg5 rfl rfl ?_
        refine lg (o_mv rfl rfl rfl) rfl hg5 rfl rfl ?_
        refine lg (o_slS rfl rfl rfl ty9 (.some rfl rfl (n := (i + 1 - m.length)) (by first | rfl | omega | (simp; done) | (simp; omega))) (.some rfl rfl (n := (i + 1)) (by first | rfl | omega | (simp; done) | (simp; omega))) (by first | omega | (simp; omega) | (simp at *; omega)) (by first | omega | (simp; omega) | (simp at *; omega))) rfl hg5 rfl rfl ?_
        refine lg (o_mv rfl rfl rfl) rfl hg5 rfl rfl ?_
        refine lg (op_binS rfl rfl rfl rfl rfl (fun h => by first | cases h | (simp; omega)) rfl) rfl hg5 rfl rfl ?_
        refine xlz (o_pT rfl rfl (g11 hg5) rfl rfl) ?_
        refine lendF ?_
        refine awp_cond rfl rfl (fun hc6 => ?_) (fun hc6 => ?_)
        ·
         have hm2 : mAt s m (i + 1 - m.length) = true := by have := hc6; rw [show i + 1 - (i + 1 - m.length) = m.length from by omega] at this; exact this
         refine xsr ?_
         refine xlz (o_mv rfl rfl rfl) ?_
         refine xlz (o_mv rfl rfl rfl) ?_
         refine xlz (o_sub rfl rfl rfl rfl (by first | omega | (simp; omega) | (simp at *; omega))) ?_
         refine xlz (o_as rfl rfl rfl) ?_
         refine lendF ?_
         refine awp_ret ?_
         refine ⟨[_], ⟨rfl, trivial⟩, ?_⟩
         first | exact ent_i rfl (ixS_found (k := 0) (by omega) (fun j hj => by omega) hm0).symm | exact ent_i rfl (by rw [ixS_found (k := i + 1 - m.length) (by omega) (fun j hj => hno j (by omega)) hm2]; omega) | exact ent_i rfl (ixS_none fun j hj => hno j (by omega)).symm
        ·
         have hnm2 : mAt s m (i + 1 - m.length) = false := by have := hc6; rw [show i + 1 - (i + 1 - m.length) = m.length from by omega] at this; exact this
         refine awp_skip ?_
         refine ⟨i + 1, ?_, ?_, ?_⟩
         ·
          exact ⟨by omega, rng_le hn, fun j hj => by rcases Nat.lt_or_ge j (i - m.length + 1) with h | h; (exact hno j h); ((have : j = i + 1 - m.length := by omega); subst this; first | exact hash_ne hnh2 | exact hnm2)⟩
         ·
          exact ent_k [] rfl rfl (xkc <| xkc <| xkc <| xkc <| xkc <| xkc <| xkc <| .nil) obs_nil rfl
         ·
          have := rng_le hn; omega
       ·
        have hnh2 : ((hashN ((s.drop (i + 1 - m.length)).take m.length) % M32) == (hashN m % M32)) = false := (g10 hg5)
        refine lskip rfl hg5 rfl ?_
        refine lskip rfl hg5 rfl ?_
        refine lskip rfl hg5 rfl ?_
        refine lskip rfl hg5 rfl ?_
        refine lskip rfl hg5 rfl ?_
        refine lskip rfl hg5 rfl ?_
        refine lskip rfl hg5 rfl ?_
        refine lskip rfl hg5 rfl ?_
        refine xlz (o_pF rfl rfl (g10 hg5) rfl rfl) ?_
        refine lendF ?_
        refine awp_condF rfl rfl rfl ?_
        refine awp_skip ?_
        refine ⟨i + 1, ?_, ?_, ?_⟩
        ·
         exact ⟨by omega, rng_le hn, fun j hj => by rcases Nat.lt_or_ge j (i - m.length + 1) with h | h; (exact hno j h); ((have : j = i + 1 - m.length := by omega); subst this; first | exact hash_ne hnh2 | exact hnm2)⟩
        ·
         exact ent_k [] rfl rfl (xkc <| xkc <| xkc <| xkc <| xkc <| xkc <| xkc <| .nil) obs_nil rfl
        ·
         have := rng_le hn; omega
      ·
       obtain rfl := rng_ge (l := s) hc4 hi
       refine awp_exit ?_
       refine xsr ?_
       refine xlz (o_as rfl rfl rfl) ?_
       refine lendF ?_
       refine awp_ret ?_
       refine ⟨[_], ⟨rfl, trivial⟩, ?_⟩
       first | exact ent_i rfl (ixS_found (k := 0) (by omega) (fun j hj => by omega) hm0).symm | exact ent_i rfl (by rw [ixS_found (k := i + 1 - m.length) (by omega) (fun j hj => hno j (by omega)) hm2]; omega) | exact ent_i rfl (ixS_none fun j hj => hno j (by omega)).symm
   ·
    have hnh : ((hashN ((s.drop 0).take m.length) % M32) == (hashN m % M32)) = false := by rw [List.drop_zero, ← hie]; exact (g10 hg2)
    refine lskip rfl hg2 rfl ?_
    refine lskip rfl hg2 rfl ?_
    refine lskip rfl hg2 rfl ?_
    refine lskip rfl hg2 rfl ?_
    refine lskip rfl hg2 rfl ?_
    refine xlz (o_pF rfl rfl (g10 hg2) rfl rfl) ?_
    refine lendF ?_
    refine awp_condF rfl rfl rfl ?_
    refine awp_skip ?_
    refine awp_seq ?_
    refine xsr ?_
    refine xlz (o_mv rfl rfl rfl) ?_
    refine xlz (o_as rfl rfl rfl) ?_
    refine lendF ?_
    refine awp_block ?_
    have hno0 : mAt s m 0 = false := by first | exact hash_ne (l := s) (k := 0) hnh | exact hnm
    refine awp_loop (fun i => ⟨81, [(8, .d (.int .u32 (hashN ((s.drop (i - m.length)).take m.length) % M32))), (10, .d (I (i : Nat))), (0, .d (.str s)), (1, .d (.str m)), (5, .d (.int .u32 (hashN m % M32))), (6, .d (.int .u32 ((16777619 : Int) ^ m.length % M32))), (7, .d (I m.length))], []⟩) (fun i => s.length - i) (fun i => m.length ≤ i ∧ i ≤ s.length ∧ (∀ j, j < (i - m.length + 1) → mAt s m j = false)) m.length ?_ ?_ ?_
    ·
     exact ent_k [] rfl rfl (.cons rfl (k_i (by rw [Nat.sub_self, List.drop_zero, hie])) <| .cons rfl (k_i rfl) <| xkc <| xkc <| xkc <| xkc <| xkc <| .nil) obs_nil rfl
    ·
     exact ⟨Nat.le_refl _, hle, fun j hj => by (have : j = 0 := by omega); subst this; exact hno0⟩
    ·
     rintro i ⟨hmi, hi, hno⟩
     refine awp_seq ?_
     refine xsr ?_
     refine xlz (o_mv rfl rfl rfl) ?_
     refine xlz (o_mv rfl rfl rfl) ?_
     refine xlz (op_lenS rfl rfl rfl ty9) ?_
     refine xlz (op_binI rfl rfl rfl rfl rfl (.inl rfl) rfl) ?_
     refine lendF ?_
     refine awp_cond rfl rfl (fun hc9 => ?_) (fun hc9 => ?_)
     ·
      obtain ⟨x, hn⟩ := rng_lt (l := s) hc9
      have hlt := rng_le hn
      obtain ⟨a, ha⟩ : ∃ a, s[i - m.length]? = some a := ⟨_, List.getElem?_eq_getElem (by omega)⟩
      refine awp_skip ?_
      refine awp_block ?_
      refine xsr ?_
      refine xlz (o_mv rfl rfl rfl) ?_
      refine xlz (op_binI rfl rfl rfl rfl rfl (.inl rfl) rfl) ?_
      refine xlz (o_as rfl rfl rfl) ?_
      refine lendF ?_
      refine xsr ?_
      refine xlz (o_mv rfl rfl rfl) ?_
      refine xlz (o_mv rfl rfl rfl) ?_
      refine xlz (o_mv rfl rfl rfl) ?_
      refine xlz (o_idxS (i) rfl rfl rfl rfl ty9 (by first | rfl | omega | (simp; done) | (simp; omega)) hn) ?_
      refine xlz (op_convI rfl rfl rfl ty5 ty180) ?_
      refine xlz (op_binI rfl rfl rfl rfl rfl (.inl rfl) rfl) ?_
      refine xlz (o_as rfl rfl rfl) ?_
      refine lendF ?_
      refine xsr ?_
      refine xlz (o_mv rfl rfl rfl) ?_
      refine xlz (o_mv rfl rfl rfl) ?_
      refine xlz (o_mv rfl rfl rfl) ?_
      refine xlz (o_mv rfl rfl rfl) ?_
      refine xlz (o_mv rfl rfl rfl) ?_
      refine xlz (o_sub rfl rfl rfl rfl (by first | omega | (simp; omega) | (simp at *; omega))) ?_
      refine xlz (o_idxS ((i - m.length)) rfl rfl rfl rfl ty9 (by first | rfl | omega | (simp; done) | (simp; omega)) ha) ?_
      refine xlz (op_convI rfl rfl rfl ty5 ty180) ?_
      refine xlz (op_binI rfl rfl rfl rfl rfl (.inl rfl) rfl) ?_
      refine xlz (o_eqI (op_binI rfl rfl rfl rfl rfl (.inl rfl) rfl) (roll_next hn ha h0 hmi)) ?_
      refine xlz (o_as rfl rfl rfl) ?_
      refine lendF ?_
      refine xsr ?_
      refine xlz (o_mv rfl rfl rfl) ?_
      refine xlz (o_add rfl rfl rfl rfl (by first | omega | (simp; omega) | (simp at *; omega))) ?_
      refine xlz (o_as rfl rfl rfl) ?_
      refine lendF ?_
      refine xsr ?_
      refine xlz (o_mv rfl rfl rfl) ?_
      refine xlz (o_mv rfl rfl rfl) ?_
      refine xlz (op_binI rfl rfl rfl rfl rfl (.inl rfl) rfl) ?_
      refine xlz (o_mv rfl rfl rfl) ?_
      refine lsplit rfl (fun hg10 => ?_) (fun hg10 => ?_)
      ·
       refine lg (o_mv rfl rfl rfl) rfl hg10 rfl rfl ?_
       refine lg (o_mv rfl rfl rfl) rfl hg10 rfl rfl ?_
       refine lg (o_mv rfl rfl rfl) rfl hg10 rfl rfl ?_
       refine lg (o_sub rfl rfl rfl rfl (by first | omega | (simp; omega) | (simp at *; omega))) rfl hg10 rfl rfl ?_
       refine lg (o_mv rfl rfl rfl) rfl hg10 rfl rfl ?_
       refine lg (o_slS rfl rfl rfl ty9 (.some rfl rfl (n := (i + 1 - m.length)) (by first | rfl | omega | (simp; done) | (simp; omega))) (.some rfl rfl (n := (i + 1)) (by first | rfl | omega | (simp; done) | (simp; omega))) (by first | omega | (simp; omega) | (simp at *; omega)) (by first | omega | (simp; omega) | (simp at *; omega))) rfl hg10 rfl rfl ?_
       refine lg (o_mv rfl rfl rfl) rfl hg10 rfl rfl ?_
       refine lg (op_binS rfl rfl rfl rfl rfl (fun h => by first | cases h | (simp; omega)) rfl) rfl hg10 rfl rfl ?_
       refine xlz (o_pT rfl rfl (g11 hg10) rfl rfl) ?_
       refine lendF ?_
       refine awp_cond rfl rfl (fun hc11 => ?_) (fun hc11 => ?_)
       ·
        have hm2 : mAt s m (i + 1 - m.length) = true := by have := hc11; rw [show i + 1 - (i + 1 - m.length) = m.length from by omega] at this; exact this
        refine xsr ?_
        refine xlz (o_mv rfl rfl rfl) ?_
        refine xlz (o_mv rfl rfl rfl) ?_
        refine xlz (o_sub rfl rfl rfl rfl (by first | omega | (simp; omega) | (simp at *; omega))) ?_
        refine xlz (o_as rfl rfl rfl) ?_
        refine lendF ?_
        refine awp_ret ?_
        refine ⟨[_], ⟨rfl, trivial⟩, ?_⟩
        first | exact ent_i rfl (ixS_found (k := 0) (by omega) (fun j hj => by omega) hm0).symm | exact ent_i rfl (by rw [ixS_found (k := i + 1 - m.length) (by omega) (fun j hj => hno j (by omega)) hm2]; omega) | exact ent_i rfl (ixS_none fun j hj => hno j (by omega)).symm
       ·
        have hnm2 : mAt s m (i + 1 - m.length) = false := by have := hc11; rw [show i + 1 - (i + 1 - m.length) = m.length from by omega] at this; exact this
        refine awp_skip ?_
        refine ⟨i + 1, ?_, ?_, ?_⟩
        ·
         exact ⟨by omega, rng_le hn, fun j hj => by rcases Nat.lt_or_ge j (i - m.length + 1) with h | h; (exact hno j h); ((have : j = i + 1 - m.length := by omega); subst this; first | exact hash_ne hnh2 | exact hnm2)⟩
        ·
         exact ent_k [] rfl rfl (xkc <| xkc <| xkc <| xkc <| xkc <| xkc <| xkc <| .nil) obs_nil rfl
        ·
         have := rng_le hn; omega
      ·
       have hnh2 : ((hashN ((s.drop (i + 1 - m.length)).take m.length) % M32) == (hashN m % M32)) = false := (g10 hg10)
       refine lskip rfl hg10 rfl ?_
       refine lskip rfl hg10 rfl ?_
       refine lskip rfl hg10 rfl ?_
       refine lskip rfl hg10 rfl ?_
       refine lskip rfl hg10 rfl ?_
       refine lskip rfl hg10 rfl ?_
       refine lskip rfl hg10 rfl ?_
       refine lskip rfl hg10 rfl ?_
       refine xlz (o_pF rfl rfl (g10 hg10) rfl rfl) ?_
       refine lendF ?_
       refine awp_condF rfl rfl rfl ?_
       refine awp_skip ?_
       refine ⟨i + 1, ?_, ?_, ?_⟩
       ·
        exact ⟨by omega, rng_le hn, fun j hj => by rcases Nat.lt_or_ge j (i - m.length + 1) with h | h; (exact hno j h); ((have : j = i + 1 - m.length := by omega); subst this; first | exact hash_ne hnh2 | exact hnm2)⟩
       ·
        exact ent_k [] rfl rfl (xkc <| xkc <| xkc <| xkc <| xkc <| xkc <| xkc <| .nil) obs_nil rfl
       ·
        have := rng_le hn; omega
     ·
      obtain rfl := rng_ge (l := s) hc9 hi
      refine awp_exit ?_
      refine xsr ?_
      refine xlz (o_as rfl rfl rfl) ?_
      refine lendF ?_
      refine awp_ret ?_
      refine ⟨[_], ⟨rfl, trivial⟩, ?_⟩
      first | exact ent_i rfl (ixS_found (k := 0) (by omega) (fun j hj => by omega) hm0).symm | exact ent_i rfl (by rw [ixS_found (k := i + 1 - m.length) (by omega) (fun j hj => hno j (by omega)) hm2]; omega) | exact ent_i rfl (ixS_none fun j hj => hno j (by omega)).symm

set_option maxRecDepth 10000 in
theorem c197 (n : Int) (h1 : 0 ≤ n) (h2 : n < 4611686018427387904) : Fn PR 197 [.d (I n)] [] [.d (I ((n + 16) / 8))] [] := by
 refine fn_of_awp Tryz.func197 rfl (N := 6) rfl ?_
 refine xsr ?_
 refine xlz (o_as rfl rfl rfl) ?_
 refine lendF ?_
 refine xsr ?_
 refine xlz (o_mv rfl rfl rfl) ?_
 refine xlz (o_add rfl rfl rfl rfl (by first | omega | (simp; omega) | (simp at *; omega))) ?_
 refine xlz (o_eqI (op_binI rfl rfl rfl rfl rfl (.inl rfl) rfl) (show IntKind.i64.wrap ((n + 16).tdiv 8) = (n + 16) / 8 by rw [Int.tdiv_eq_ediv_of_nonneg (by omega), wrap64 (by omega) (by omega)])) ?_
 refine xlz (o_as rfl rfl rfl) ?_
 refine lendF ?_
 refine awp_ret ?_
 refine ⟨[_], ⟨rfl, trivial⟩, ?_⟩
 exact ent_d1 rfl (by first | rfl | simp_all)

set_option maxRecDepth 10000 in
theorem c195 (s : Bytes) (c : UInt8) : Fn PR 195 [.d (.str s), .d (.int .u8 c.toNat)] [] [.d (I (Lib.indexByte s c))] [] := by
 refine fn_of_awp Tryz.func195 rfl (N := 8) rfl ?_
 refine xsr ?_
 refine xlz (o_as rfl rfl rfl) ?_
 refine lendF ?_
 refine xsr ?_
 refine xlz (o_mv rfl rfl rfl) ?_
 refine xlz (o_mv rfl rfl rfl) ?_
 refine xlz (op_ixB rfl ext200 rfl rfl rfl rfl rfl) ?_
 refine xlz (o_as rfl rfl rfl) ?_
 refine lendF ?_
 refine awp_ret ?_
 refine ⟨[_], ⟨rfl, trivial⟩, ?_⟩
 exact ent_d1 rfl (by first | rfl | simp_all)

end Go.Pm

namespace Go.Pm
open Go.Proofs

set_option maxRecDepth 100000 in
set_option maxHeartbeats 8000000 in
theorem c188 (s m : Bytes) (hs : s.length ≤ 1000000) : Fn PR 188 [.d (.str s), .d (.str m)] [] [.d (I (ixS s m))] [] := by
 refine fn_of_awp Tryz.func188 rfl (N := 143) rfl ?_
 refine awp_glob 900000 rfl (by decide) fun n => ?_
 refine xsr ?_
 refine las rfl rfl rfl rfl rfl ?_
 refine lendF ?_
 refine xsr ?_
 refine lmv rfl rfl rfl rfl rfl ?_
 refine xlz (op_lenS rfl rfl rfl ty9) ?_
 refine las rfl rfl rfl rfl rfl ?_
 refine lendF ?_
 refine awp_seq ?_
 refine awp_block ?_
 refine xsr ?_
 refine lmv rfl rfl rfl rfl rfl ?_
 refine xlz (op_binI rfl rfl rfl rfl rfl (.inl rfl) rfl) ?_
 refine lmv rfl rfl rfl rfl rfl ?_
 refine lsplit rfl (fun hg1 => ?_) (fun hg1 => ?_)
 ·
  have hm0 : 0 < m.length := by have := (g01 hg1); simp at this; exact List.length_pos_iff.2 this
  iterate 2 refine gmv hg1 rfl rfl rfl rfl rfl ?_
  refine lg (op_binS rfl rfl rfl rfl rfl (fun h => by first | cases h | (simp; omega)) rfl) rfl hg1 rfl rfl ?_
  refine xlz (o_pF rfl rfl (g01 hg1) rfl rfl) ?_
  refine las rfl rfl rfl rfl rfl ?_
  refine lendF ?_
  refine awp_cond rfl rfl (fun hc2 => ?_) (fun hc2 => ?_)
  ·
   have hms : m = s := by have := hc2; simpa using this
   refine xsr ?_
   refine las rfl rfl rfl rfl rfl ?_
   refine lendF ?_
   refine awp_ret ?_
   refine ⟨[_], ⟨rfl, trivial⟩, ?_⟩
   first | exact ent_i rfl (by rw [hT, if_pos hr]; omega) | exact ent_i rfl (by rw [hT, if_neg hr]) | exact ent_i rfl (ixS_found hiT hno2 hm).symm | exact ent_i rfl (ixS_none hnone).symm | exact ent_i rfl (by rw [hm0, ixS_nil]) | exact ent_i rfl (by rw [hms, ixS_self]) | exact ent_i rfl (by rw [ixS_one]) | exact ent_i rfl (ixS_long hge hms).symm | exact ent_i rfl rfl | exact ent_i rfl (ixS_none fun j hj => hno j (by omega)).symm
  ·
   have hms : ¬ m = s := by have := hc2; simpa using this
   refine xsr ?_
   refine lmv rfl rfl rfl rfl rfl ?_
   refine xlz (op_binI rfl rfl rfl rfl rfl (.inl rfl) rfl) ?_
   refine las rfl rfl rfl rfl rfl ?_
   refine lendF ?_
   refine awp_cond rfl rfl (fun hc3 => ?_) (fun hc3 => ?_)
   ·
    have h1 : m.length = 1 := by have := hc3; simp at this; omega
    obtain ⟨c, rfl⟩ : ∃ c, m = [c] := List.length_eq_one_iff.1 h1
    refine xsr ?_
    iterate 2 refine lmv rfl rfl rfl rfl rfl ?_
    refine xlz (o_idxS (0) rfl rfl rfl rfl ty9 (by first | rfl | omega | (simp; done) | (simp; omega)) rfl) ?_
    refine xlz (o_call (c195 s c) rfl rfl rfl ca195 rfl rfl) ?_
    refine las rfl rfl rfl rfl rfl ?_
    refine lendF ?_
    refine awp_ret ?_
    refine ⟨[_], ⟨rfl, trivial⟩, ?_⟩
    first | exact ent_i rfl (by rw [hT, if_pos hr]; omega) | exact ent_i rfl (by rw [hT, if_neg hr]) | exact ent_i rfl (ixS_found hiT hno2 hm).symm | exact ent_i rfl (ixS_none hnone).symm | exact ent_i rfl (by rw [hm0, ixS_nil]) | exact ent_i rfl (by rw [hms, ixS_self]) | exact ent_i rfl (by rw [ixS_one]) | exact ent_i rfl (ixS_long hge hms).symm | exact ent_i rfl rfl | exact ent_i rfl (ixS_none fun j hj => hno j (by omega)).symm
   ·
    have h2 : 2 ≤ m.length := by have := hc3; simp at this; omega
    refine xsr ?_
    iterate 2 refine lmv rfl rfl rfl rfl rfl ?_
    refine xlz (op_lenS rfl rfl rfl ty9) ?_
    refine xlz (op_binI rfl rfl rfl rfl rfl (.inl rfl) rfl) ?_
    refine las rfl rfl rfl rfl rfl ?_
    refine lendF ?_
    refine awp_cond rfl rfl (fun hc4 => ?_) (fun hc4 => ?_)
    ·
     have hge : m.length ≥ s.length := by have := hc4; simp at this; omega
     refine xsr ?_
     refine las rfl rfl rfl rfl rfl ?_
     refine lendF ?_
     refine awp_ret ?_
     refine ⟨[_], ⟨rfl, trivial⟩, ?_⟩
     first | exact ent_i rfl (by rw [hT, if_pos hr]; omega) | exact ent_i rfl (by rw [hT, if_neg hr]) | exact ent_i rfl (ixS_found hiT hno2 hm).symm | exact ent_i rfl (ixS_none hnone).symm | exact ent_i rfl (by rw [hm0, ixS_nil]) | exact ent_i rfl (by rw [hms, ixS_self]) | exact ent_i rfl (by rw [ixS_one]) | exact ent_i rfl (ixS_long hge hms).symm | exact ent_i rfl rfl | exact ent_i rfl (ixS_none fun j hj => hno j (by omega)).symm
    ·
     have hlt : m.length < s.length := by have := hc4; simp at this; omega
     obtain ⟨c0, hc0⟩ : ∃ c, m[0]? = some c := ⟨_, List.getElem?_eq_getElem (by omega)⟩
     obtain ⟨c1, hc1⟩ : ∃ c, m[1]? = some c := ⟨_, List.getElem?_eq_getElem (by omega)⟩
     refine xsr ?_
     refine lmv rfl rfl rfl rfl rfl ?_
     refine xlz (op_gload (X := 900000) rfl rfl ty3 rfl) ?_
     refine xlz (op_binI rfl rfl rfl rfl rfl (.inl rfl) rfl) ?_
     refine lmv rfl rfl rfl rfl rfl ?_
     refine lsplit rfl (fun hg5 => ?_) (fun hg5 => ?_)
     ·
      have hml : (m.length : Int) ≤ n := by have := (g11 hg5); simpa using this
      refine gmv hg5 rfl rfl rfl rfl rfl ?_
      refine lg (op_lenS rfl rfl rfl ty9) rfl hg5 rfl rfl ?_
      refine lg (op_binI rfl rfl rfl rfl rfl (.inl rfl) rfl) rfl hg5 rfl rfl ?_
      refine xlz (o_pT rfl rfl (g11 hg5) rfl rfl) ?_
      refine las rfl rfl rfl rfl rfl ?_
      refine lendF ?_
      refine awp_cond rfl rfl (fun hc6 => ?_) (fun hc6 => ?_)
      ·
       refine xsr ?_
       iterate 2 refine lmv rfl rfl rfl rfl rfl ?_
       refine xlz (op_ixS (X := 900000) rfl ext196 gix rfl rfl rfl h2 hml (by omega) rfl rfl) ?_
       refine las rfl rfl rfl rfl rfl ?_
       refine lendF ?_
       refine awp_ret ?_
       refine ⟨[_], ⟨rfl, trivial⟩, ?_⟩
       first | exact ent_i rfl (by rw [hT, if_pos hr]; omega) | exact ent_i rfl (by rw [hT, if_neg hr]) | exact ent_i rfl (ixS_found hiT hno2 hm).symm | exact ent_i rfl (ixS_none hnone).symm | exact ent_i rfl (by rw [hm0, ixS_nil]) | exact ent_i rfl (by rw [hms, ixS_self]) | exact ent_i rfl (by rw [ixS_one]) | exact ent_i rfl (ixS_long hge hms).symm | exact ent_i rfl rfl | exact ent_i rfl (ixS_none fun j hj => hno j (by omega)).symm
      ·
       refine awp_skip ?_
       refine xsr ?_
       refine lmv rfl rfl rfl rfl rfl ?_
       refine xlz (o_idxS (0) rfl rfl rfl rfl ty9 (by first | rfl | omega | (simp; done) | (simp; omega)) hc0) ?_
       refine las rfl rfl rfl rfl rfl ?_
       refine lendF ?_
       refine xsr ?_
       refine lmv rfl rfl rfl rfl rfl ?_
       refine xlz (o_idxS (1) rfl rfl rfl rfl ty9 (by first | rfl | omega | (simp; done) | (simp; omega)) hc1) ?_
       refine las rfl rfl rfl rfl rfl ?_
       refine lendF ?_
       refine xsr ?_
       refine las rfl rfl rfl rfl rfl ?_
       refine lendF ?_
       refine xsr ?_
       refine lmv rfl rfl rfl rfl rfl ?_
       refine xlz (op_lenS rfl rfl rfl ty9) ?_
       refine lmv rfl rfl rfl rfl rfl ?_
       refine xlz (o_sub rfl rfl rfl rfl (by first | omega | (simp; omega) | (simp at *; omega))) ?_
       refine xlz (o_add rfl rfl rfl rfl (by first | omega | (simp; omega) | (simp at *; omega))) ?_
       refine las rfl rfl rfl rfl rfl ?_
       refine lendF ?_
       refine xsr ?_
       refine las rfl rfl rfl rfl rfl ?_
       refine lendF ?_
       refine awp_seq ?_
       refine awp_block ?_
       refine awp_loop (fun x => ⟨143, [(8, .d (I (x.1 : Nat))), (10, .d (I (x.2 : Nat))), (0, .d (.str s)), (1, .d (.str m)), (5, .d (I m.length)), (6, .d (.int .u8 c0.toNat)), (7, .d (.int .u8 c1.toNat)), (9, .d (I ((s.length - m.length) + 1)))], [(900000, .glob n)]⟩) (fun x => s.length - x.1) (fun x => x.1 ≤ s.length ∧ x.2 ≤ x.1 ∧ ∀ j, j < x.1 → mAt s m j = false) (0, 0) ?_ ?_ ?_
       ·
        exact ent_k [] rfl rfl ((by repeat (first | exact .nil | refine xkc ?_))) (obs_cons rfl (o_eq rfl) obs_nil) rfl
       ·
        exact ⟨Nat.zero_le _, Nat.le_refl _, fun j hj => absurd hj (Nat.not_lt_zero _)⟩
       ·
        rintro ⟨i0, f⟩ ⟨hi, hf, hno⟩
        dsimp only at hi hf hno ⊢
        refine awp_seq ?_
        refine xsr ?_
        iterate 2 refine lmv rfl rfl rfl rfl rfl ?_
        refine xlz (op_binI rfl rfl rfl rfl rfl (.inl rfl) rfl) ?_
        refine lendF ?_
        refine awp_cond rfl rfl (fun hc7 => ?_) (fun hc7 => ?_)
        ·
         have hit : i0 < (s.length + 1 - m.length) := by have := hc7; simp at this; omega
         obtain ⟨x, hn⟩ : ∃ x, s[i0]? = some x := ⟨_, List.getElem?_eq_getElem (by omega)⟩
         refine awp_skip ?_
         refine awp_block ?_
         refine awp_joinX (fun i => ⟨143, [(8, .d (I (i : Nat))), (0, .d (.str s)), (1, .d (.str m)), (5, .d (I m.length)), (6, .d (.int .u8 c0.toNat)), (7, .d (.int .u8 c1.toNat)), (9, .d (I ((s.length - m.length) + 1))), (10, .d (I (f : Nat))), (57, .d (I (i0 : Nat))), (58, .d (I ((s.length - m.length) + 1)))], [(900000, .glob n)]⟩) (fun i => i0 ≤ i ∧ i < (s.length + 1 - m.length) ∧ ∀ j, j < i → mAt s m j = false) ?_ ?_
         ·
          refine xsr ?_
          iterate 2 refine lmv rfl rfl rfl rfl rfl ?_
          refine xlz (o_idxS (i0) rfl rfl rfl rfl ty9 (by first | rfl | omega | (simp; done) | (simp; omega)) hn) ?_
          refine lmv rfl rfl rfl rfl rfl ?_
          refine xlz (op_binI rfl rfl rfl rfl rfl (.inl rfl) rfl) ?_
          refine lendF ?_
          refine awp_cond rfl rfl (fun hc8 => ?_) (fun hc8 => ?_)
          ·
           have hx : ¬ x = c0 := by have := hc8; rw [neB] at this; simpa using this
           refine xsr ?_
           iterate 2 refine lmv rfl rfl rfl rfl rfl ?_
           refine xlz (o_add rfl rfl rfl rfl (by first | omega | (simp; omega) | (simp at *; omega))) ?_
           refine lmv rfl rfl rfl rfl rfl ?_
           refine xlz (o_slS rfl rfl rfl ty9 (.some rfl rfl (n := (i0 + 1)) (by first | rfl | omega | (simp; done) | (simp; omega))) (.some rfl rfl (n := (s.length + 1 - m.length)) (by first | rfl | omega | (simp; done) | (simp; omega))) (by first | omega | (simp; omega) | (simp at *; omega)) (by first | omega | (simp; omega) | (simp at *; omega))) ?_
           refine lmv rfl rfl rfl rfl rfl ?_
           refine xlz (o_call (c195 ((s.drop (i0 + 1)).take ((s.length + 1 - m.length) - (i0 + 1))) c0) rfl rfl rfl ca195 rfl rfl) ?_
           refine las rfl rfl rfl rfl rfl ?_
           refine lendF ?_
           refine awp_seq ?_
           refine xsr ?_
           refine lmv rfl rfl rfl rfl rfl ?_
           refine xlz (op_binI rfl rfl rfl rfl rfl (.inl rfl) rfl) ?_
           refine lendF ?_
           refine awp_cond rfl rfl (fun hc9 => ?_) (fun hc9 => ?_)
           ·
            have hnone : ∀ j, j < (s.length + 1 - m.length) → mAt s m j = false := fun j hj => by rcases Nat.lt_or_ge j i0 with h | h; (exact hno j h); (cases hh : mAt s m j with | false => rfl | true => (have h0 := mAt_head hc0 hh; rcases Nat.lt_or_ge i0 j with h3 | h3; (have h4 := ixB_none (by simpa using hc9) (j - (i0 + 1)); rw [List.getElem?_take, if_pos (by omega), List.getElem?_drop, show i0 + 1 + (j - (i0 + 1)) = j from by omega] at h4; exact absurd h0 h4); ((have : j = i0 := by omega); subst this; rw [hn] at h0; injection h0 with h0; exact absurd h0 hx)))
            refine xsr ?_
            refine las rfl rfl rfl rfl rfl ?_
            refine lendF ?_
            refine awp_ret ?_
            refine ⟨[_], ⟨rfl, trivial⟩, ?_⟩
            first | exact ent_i rfl (by rw [hT, if_pos hr]; omega) | exact ent_i rfl (by rw [hT, if_neg hr]) | exact ent_i rfl (ixS_found hiT hno2 hm).symm | exact ent_i rfl (ixS_none hnone).symm | exact ent_i rfl (by rw [hm0, ixS_nil]) | exact ent_i rfl (by rw [hms, ixS_self]) | exact ent_i rfl (by rw [ixS_one]) | exact ent_i rfl (ixS_long hge hms).symm | exact ent_i rfl rfl | exact ent_i rfl (ixS_none fun j hj => hno j (by omega)).symm
           ·
            obtain ⟨o, ho, ho2, ho3⟩ := ixB_some (by have := hc9; simp at this; exact this)
            have hol := rng_le ho2
            rw [List.length_take, List.length_drop] at hol
            have hno2 : ∀ j, j < i0 + o + 1 → mAt s m j = false := fun j hj => by rcases Nat.lt_or_ge j i0 with h | h; (exact hno j h); (cases hh : mAt s m j with | false => rfl | true => (have h0 := mAt_head hc0 hh; rcases Nat.lt_or_ge i0 j with h3 | h3; (have h4 := ho3 (j - (i0 + 1)) (by omega); rw [List.getElem?_take, if_pos (by omega), List.getElem?_drop, show i0 + 1 + (j - (i0 + 1)) = j from by omega] at h4; exact absurd h0 h4); ((have : j = i0 := by omega); subst this; rw [hn] at h0; injection h0 with h0; exact absurd h0 hx)))
            refine awp_skip ?_
            refine awp_region mixed ?_
            iterate 2 refine lmv rfl rfl rfl rfl rfl ?_
            refine xlz (o_add rfl rfl rfl rfl (by rw [ho]; omega)) ?_
            refine xlz (o_add rfl rfl rfl rfl (by rw [ho]; omega)) ?_
            refine las rfl rfl rfl rfl rfl ?_
            refine lendF ?_
            refine ⟨(i0 + o + 1), ?_, ?_⟩
            ·
             exact ⟨by omega, by omega, hno2⟩
            ·
             exact ent_k [] rfl rfl (.cons rfl (k_i (by rw [ho]; omega)) <| (by repeat (first | exact .nil | refine xkc ?_))) (obs_cons rfl (o_eq rfl) obs_nil) rfl
          ·
           have hx : x = c0 := by have := hc8; rw [neB] at this; simpa using this
           refine awp_skip ?_
           refine ⟨i0, ?_, ?_⟩
           ·
            exact ⟨Nat.le_refl _, hit, hno⟩
           ·
            exact ent_k [] rfl rfl (.cons rfl (k_i rfl) <| (by repeat (first | exact .nil | refine xkc ?_))) (obs_cons rfl (o_eq rfl) obs_nil) rfl
         ·
          rintro i ⟨hii, hiT, hno2⟩
          refine awp_seq ?_
          refine awp_joinX (fun _ : Unit => ⟨143, [(93, .d (.bool (mAt s m i))), (0, .d (.str s)), (1, .d (.str m)), (5, .d (I m.length)), (6, .d (.int .u8 c0.toNat)), (7, .d (.int .u8 c1.toNat)), (8, .d (I (i : Nat))), (9, .d (I ((s.length - m.length) + 1))), (10, .d (I (f : Nat))), (57, .d (I (i0 : Nat))), (58, .d (I ((s.length - m.length) + 1)))], [(900000, .glob n)]⟩) (fun _ : Unit => True) ?_ ?_
          ·
           obtain ⟨y, hn1⟩ : ∃ y, s[i + 1]? = some y := ⟨_, List.getElem?_eq_getElem (by omega)⟩
           refine awp_region mixed ?_
           iterate 2 refine lmv rfl rfl rfl rfl rfl ?_
           refine xlz (o_add rfl rfl rfl rfl (by first | omega | (simp; omega) | (simp at *; omega))) ?_
           refine xlz (o_idxS ((i + 1)) rfl rfl rfl rfl ty9 (by first | rfl | omega | (simp; done) | (simp; omega)) hn1) ?_
           refine lmv rfl rfl rfl rfl rfl ?_
           refine xlz (op_binI rfl rfl rfl rfl rfl (.inl rfl) rfl) ?_
           refine lmv rfl rfl rfl rfl rfl ?_
           refine lsplit rfl (fun hg10 => ?_) (fun hg10 => ?_)
           ·
            iterate 4 refine gmv hg10 rfl rfl rfl rfl rfl ?_
            refine lg (o_add rfl rfl rfl rfl (by first | omega | (simp; omega) | (simp at *; omega))) rfl hg10 rfl rfl ?_
            refine lg (o_eqS (o_slS rfl rfl rfl ty9 (.some rfl rfl (n := i) (by first | rfl | omega | (simp; done) | (simp; omega))) (.some rfl rfl (n := (i + m.length)) (by first | rfl | omega | (simp; done) | (simp; omega))) (by first | omega | (simp; omega) | (simp at *; omega)) (by first | omega | (simp; omega) | (simp at *; omega))) (l' := (s.drop i).take m.length) (by rw [Nat.add_sub_cancel_left])) rfl hg10 rfl rfl ?_
            refine gmv hg10 rfl rfl rfl rfl rfl ?_
            refine lg (op_binS rfl rfl rfl rfl rfl (fun h => by first | cases h | (simp; omega)) rfl) rfl hg10 rfl rfl ?_
            refine xlz (o_pT rfl rfl (g11 hg10) rfl rfl) ?_
            refine lendF ?_
            refine ⟨(), ?_, ?_⟩
            ·
             exact True.intro
            ·
             exact ent_k [] rfl rfl (.cons rfl (k_b rfl) <| (by repeat (first | exact .nil | refine xkc ?_))) (obs_cons rfl (o_eq rfl) obs_nil) rfl
           ·
            have hnm : mAt s m i = false := by cases hh : mAt s m i with | false => rfl | true => (have h2 := mAt_second hc1 hh); rw [hn1] at h2; injection h2 with h2; subst h2; have := (g10 hg10); simp at this
            iterate 8 refine lskip rfl hg10 rfl ?_
            refine xlz (o_pF rfl rfl (g10 hg10) rfl rfl) ?_
            refine lendF ?_
            refine ⟨(), ?_, ?_⟩
            ·
             exact True.intro
            ·
             exact ent_k [] rfl rfl (.cons rfl (k_b hnm.symm) <| (by repeat (first | exact .nil | refine xkc ?_))) (obs_cons rfl (o_eq rfl) obs_nil) rfl
          ·
           rintro _ _
           refine awp_cond rfl rfl (fun hc11 => ?_) (fun hc11 => ?_)
           ·
            have hm : mAt s m i = true := hc11
            refine xsr ?_
            refine lmv rfl rfl rfl rfl rfl ?_
            refine las rfl rfl rfl rfl rfl ?_
            refine lendF ?_
            refine awp_ret ?_
            refine ⟨[_], ⟨rfl, trivial⟩, ?_⟩
            first | exact ent_i rfl (by rw [hT, if_pos hr]; omega) | exact ent_i rfl (by rw [hT, if_neg hr]) | exact ent_i rfl (ixS_found hiT hno2 hm).symm | exact ent_i rfl (ixS_none hnone).symm | exact ent_i rfl (by rw [hm0, ixS_nil]) | exact ent_i rfl (by rw [hms, ixS_self]) | exact ent_i rfl (by rw [ixS_one]) | exact ent_i rfl (ixS_long hge hms).symm | exact ent_i rfl rfl | exact ent_i rfl (ixS_none fun j hj => hno j (by omega)).symm
           ·
            have hnm : mAt s m i = false := hc11
            refine awp_skip ?_
            refine awp_seq ?_
            have hno3 : ∀ j, j < i + 1 → mAt s m j = false := fun j hj => by rcases Nat.lt_or_ge j i with h | h; (exact hno2 j h); ((have : j = i := by omega); subst this; exact hnm)
            have hT := ixS_tail (l := s) (m := m) hno3 (by omega) hm0
            refine awp_region mixed ?_
            refine lmv rfl rfl rfl rfl rfl ?_
            refine xlz (o_add rfl rfl rfl rfl (by first | omega | (simp; omega) | (simp at *; omega))) ?_
            refine las rfl rfl rfl rfl rfl ?_
            refine lendF ?_
            refine xsr ?_
            refine lmv rfl rfl rfl rfl rfl ?_
            refine xlz (o_add rfl rfl rfl rfl (by first | omega | (simp; omega) | (simp at *; omega))) ?_
            refine las rfl rfl rfl rfl rfl ?_
            refine lendF ?_
            refine awp_joinX (fun _ : Unit => ⟨143, [(107, .d (.bool (decide ((m.length : Int) ≤ n) && decide (((f : Nat) : Int) + 1 > (((i : Nat) : Int) + 1 + 16) / 8)))), (0, .d (.str s)), (1, .d (.str m)), (5, .d (I m.length)), (6, .d (.int .u8 c0.toNat)), (7, .d (.int .u8 c1.toNat)), (8, .d (I ((i : Nat) + 1))), (9, .d (I ((s.length - m.length) + 1))), (10, .d (I ((f : Nat) + 1))), (57, .d (I (i0 : Nat))), (58, .d (I ((s.length - m.length) + 1))), (93, .d (.bool (mAt s m i))), (95, .d (I (i : Nat))), (96, .d (I ((i : Nat) + 1))), (97, .d (I (f : Nat))), (98, .d (I ((f : Nat) + 1)))], [(900000, .glob n)]⟩) (fun _ : Unit => True) ?_ ?_
            ·
             refine awp_region mixed ?_
             refine lmv rfl rfl rfl rfl rfl ?_
             refine xlz (op_gload (X := 900000) rfl rfl ty3 rfl) ?_
             refine xlz (op_binI rfl rfl rfl rfl rfl (.inl rfl) rfl) ?_
             refine lmv rfl rfl rfl rfl rfl ?_
             refine lsplit rfl (fun hg12 => ?_) (fun hg12 => ?_)
             ·
              have hml : (m.length : Int) ≤ n := by have := (g11 hg12); simpa using this
              iterate 2 refine gmv hg12 rfl rfl rfl rfl rfl ?_
              refine lg (o_call (c197 (((i : Nat) : Int) + 1) (by omega) (by omega)) rfl rfl rfl ca197 rfl rfl) rfl hg12 rfl rfl ?_
              refine lg (op_binI rfl rfl rfl rfl rfl (.inl rfl) rfl) rfl hg12 rfl rfl ?_
              refine xlz (o_pT rfl rfl (g11 hg12) rfl rfl) ?_
              refine lendF ?_
              refine ⟨(), ?_, ?_⟩
              ·
               exact True.intro
              ·
               exact ent_k [] rfl rfl (.cons rfl (k_b (by first | (simp_all; done) | (simp_all <;> (intros; omega)))) <| (by repeat (first | exact .nil | refine xkc ?_))) (obs_cons rfl (o_eq rfl) obs_nil) rfl
             ·
              iterate 4 refine lskip rfl hg12 rfl ?_
              refine xlz (o_pF rfl rfl (g10 hg12) rfl rfl) ?_
              refine lendF ?_
              refine ⟨(), ?_, ?_⟩
              ·
               exact True.intro
              ·
               exact ent_k [] rfl rfl (.cons rfl (k_b (by first | (simp_all; done) | (simp_all <;> (intros; omega)))) <| (by repeat (first | exact .nil | refine xkc ?_))) (obs_cons rfl (o_eq rfl) obs_nil) rfl
            ·
             rintro _ _
             refine awp_cond rfl rfl (fun hc13 => ?_) (fun hc13 => ?_)
             ·
              have hml : (m.length : Int) ≤ n := by have := hc13; simp at this; omega
              refine xsr ?_
              iterate 2 refine lmv rfl rfl rfl rfl rfl ?_
              refine xlz (o_eqS (o_slS rfl rfl rfl ty9 (.some rfl rfl (n := (i + 1)) (by first | rfl | omega | (simp; done) | (simp; omega))) .none (by first | omega | (simp; omega) | (simp at *; omega)) (by first | omega | (simp; omega) | (simp at *; omega))) (l' := s.drop (i + 1)) (by simp [List.take_of_length_le])) ?_
              refine lmv rfl rfl rfl rfl rfl ?_
              refine xlz (op_ixS (X := 900000) rfl ext196 gix rfl rfl rfl h2 hml (by simp; omega) rfl rfl) ?_
              refine las rfl rfl rfl rfl rfl ?_
              refine lendF ?_
              refine awp_seq ?_
              refine xsr ?_
              refine lmv rfl rfl rfl rfl rfl ?_
              refine xlz (op_binI rfl rfl rfl rfl rfl (.inl rfl) rfl) ?_
              refine lendF ?_
              refine awp_cond rfl rfl (fun hc14 => ?_) (fun hc14 => ?_)
              ·
               have hr : ixS (s.drop (i + 1)) m ≥ 0 := by simpa using hc14
               refine xsr ?_
               iterate 2 refine lmv rfl rfl rfl rfl rfl ?_
               refine xlz (o_add rfl rfl rfl rfl (by have := ixS_ge (s.drop (i + 1)) m; have h9 := ixS_le (s.drop (i + 1)) m; rw [List.length_drop] at h9; omega)) ?_
               refine las rfl rfl rfl rfl rfl ?_
               refine lendF ?_
               refine awp_ret ?_
               refine ⟨[_], ⟨rfl, trivial⟩, ?_⟩
               first | exact ent_i rfl (by rw [hT, if_pos hr]; omega) | exact ent_i rfl (by rw [hT, if_neg hr]) | exact ent_i rfl (ixS_found hiT hno2 hm).symm | exact ent_i rfl (ixS_none hnone).symm | exact ent_i rfl (by rw [hm0, ixS_nil]) | exact ent_i rfl (by rw [hms, ixS_self]) | exact ent_i rfl (by rw [ixS_one]) | exact ent_i rfl (ixS_long hge hms).symm | exact ent_i rfl rfl | exact ent_i rfl (ixS_none fun j hj => hno j (by omega)).symm
              ·
               have hr : ¬ ixS (s.drop (i + 1)) m ≥ 0 := by have := hc14; simp at this; omega
               refine awp_skip ?_
               refine xsr ?_
               refine las rfl rfl rfl rfl rfl ?_
               refine lendF ?_
               refine awp_ret ?_
               refine ⟨[_], ⟨rfl, trivial⟩, ?_⟩
               first | exact ent_i rfl (by rw [hT, if_pos hr]; omega) | exact ent_i rfl (by rw [hT, if_neg hr]) | exact ent_i rfl (ixS_found hiT hno2 hm).symm | exact ent_i rfl (ixS_none hnone).symm | exact ent_i rfl (by rw [hm0, ixS_nil]) | exact ent_i rfl (by rw [hms, ixS_self]) | exact ent_i rfl (by rw [ixS_one]) | exact ent_i rfl (ixS_long hge hms).symm | exact ent_i rfl rfl | exact ent_i rfl (ixS_none fun j hj => hno j (by omega)).symm
             ·
              refine awp_joinX (fun _ : Unit => ⟨143, [(132, .d (.bool (decide ((m.length : Int) > n) && decide (((f : Nat) : Int) + 1 ≥ 4 + (((i + 1) / 16 : Nat) : Int)) && decide (((i : Nat) : Int) + 1 < (s.length : Int) - (m.length : Int) + 1)))), (0, .d (.str s)), (1, .d (.str m)), (5, .d (I m.length)), (6, .d (.int .u8 c0.toNat)), (7, .d (.int .u8 c1.toNat)), (8, .d (I ((i : Nat) + 1))), (9, .d (I ((s.length - m.length) + 1))), (10, .d (I ((f : Nat) + 1))), (57, .d (I (i0 : Nat))), (58, .d (I ((s.length - m.length) + 1))), (93, .d (.bool (mAt s m i))), (95, .d (I (i : Nat))), (96, .d (I ((i : Nat) + 1))), (97, .d (I (f : Nat))), (98, .d (I ((f : Nat) + 1))), (107, .d (.bool (decide ((m.length : Int) ≤ n) && decide (((f : Nat) : Int) + 1 > (((i : Nat) : Int) + 1 + 16) / 8))))], [(900000, .glob n)]⟩) (fun _ : Unit => True) ?_ ?_
              ·
               refine awp_region mixed ?_
               refine lmv rfl rfl rfl rfl rfl ?_
               refine xlz (op_gload (X := 900000) rfl rfl ty3 rfl) ?_
               refine xlz (op_binI rfl rfl rfl rfl rfl (.inl rfl) rfl) ?_
               refine lmv rfl rfl rfl rfl rfl ?_
               refine lsplit rfl (fun hg15 => ?_) (fun hg15 => ?_)
               ·
                iterate 2 refine gmv hg15 rfl rfl rfl rfl rfl ?_
                refine lg (o_eqI (op_binI rfl rfl rfl rfl rfl (.inr (.inr rfl)) rfl) (m' := (((i + 1) / 16 : Nat) : Int)) (shr4 (i + 1))) rfl hg15 rfl rfl ?_
                refine lg (o_add rfl rfl rfl rfl (by first | omega | (simp; omega) | (simp at *; omega))) rfl hg15 rfl rfl ?_
                refine lg (op_binI rfl rfl rfl rfl rfl (.inl rfl) rfl) rfl hg15 rfl rfl ?_
                refine xlz (o_pT rfl rfl (g11 hg15) rfl rfl) ?_
                refine lmv rfl rfl rfl rfl rfl ?_
                refine lsplit rfl (fun hg16 => ?_) (fun hg16 => ?_)
                ·
                 iterate 2 refine gmv hg16 rfl rfl rfl rfl rfl ?_
                 refine lg (op_binI rfl rfl rfl rfl rfl (.inl rfl) rfl) rfl hg16 rfl rfl ?_
                 refine xlz (o_pT rfl rfl (g11 hg16) rfl rfl) ?_
                 refine lendF ?_
                 refine ⟨(), ?_, ?_⟩
                 ·
                  exact True.intro
                 ·
                  exact ent_k [] rfl rfl (.cons rfl (k_b (by first | (simp_all; done) | (simp_all <;> (intros; omega)))) <| (by repeat (first | exact .nil | refine xkc ?_))) (obs_cons rfl (o_eq rfl) obs_nil) rfl
                ·
                 iterate 3 refine lskip rfl hg16 rfl ?_
                 refine xlz (o_pF rfl rfl (g10 hg16) rfl rfl) ?_
                 refine lendF ?_
                 refine ⟨(), ?_, ?_⟩
                 ·
                  exact True.intro
                 ·
                  exact ent_k [] rfl rfl (.cons rfl (k_b (by first | (simp_all; done) | (simp_all <;> (intros; omega)))) <| (by repeat (first | exact .nil | refine xkc ?_))) (obs_cons rfl (o_eq rfl) obs_nil) rfl
               ·
                iterate 5 refine lskip rfl hg15 rfl ?_
                refine xlz (o_pF rfl rfl (g10 hg15) rfl rfl) ?_
                refine lmv rfl rfl rfl rfl rfl ?_
                iterate 3 refine lskip rfl rfl rfl ?_
                refine xlz (o_pF rfl rfl rfl rfl rfl) ?_
                refine lendF ?_
                refine ⟨(), ?_, ?_⟩
                ·
                 exact True.intro
                ·
                 exact ent_k [] rfl rfl (.cons rfl (k_b (by first | (simp_all; done) | (simp_all <;> (intros; omega)))) <| (by repeat (first | exact .nil | refine xkc ?_))) (obs_cons rfl (o_eq rfl) obs_nil) rfl
              ·
               rintro _ _
               refine awp_cond rfl rfl (fun hc17 => ?_) (fun hc17 => ?_)
               ·
                have hrk : m.length ≤ (s.drop (i + 1)).length := by have := hc17; simp at this; rw [List.length_drop]; omega
                refine xsr ?_
                iterate 2 refine lmv rfl rfl rfl rfl rfl ?_
                refine xlz (o_eqS (o_slS rfl rfl rfl ty9 (.some rfl rfl (n := (i + 1)) (by first | rfl | omega | (simp; done) | (simp; omega))) .none (by first | omega | (simp; omega) | (simp at *; omega)) (by first | omega | (simp; omega) | (simp at *; omega))) (l' := s.drop (i + 1)) (by simp [List.take_of_length_le])) ?_
                refine lmv rfl rfl rfl rfl rfl ?_
                refine xlz (o_call (c198 (s.drop (i + 1)) m (by simp; omega) hm0 hrk) rfl rfl rfl ca198 rfl rfl) ?_
                refine las rfl rfl rfl rfl rfl ?_
                refine lendF ?_
                refine awp_seq ?_
                refine xsr ?_
                refine lmv rfl rfl rfl rfl rfl ?_
                refine xlz (op_binI rfl rfl rfl rfl rfl (.inl rfl) rfl) ?_
                refine lendF ?_
                refine awp_cond rfl rfl (fun hc18 => ?_) (fun hc18 => ?_)
                ·
                 have hr : ¬ ixS (s.drop (i + 1)) m ≥ 0 := by have := hc18; simp at this; omega
                 refine xsr ?_
                 refine las rfl rfl rfl rfl rfl ?_
                 refine lendF ?_
                 refine awp_ret ?_
                 refine ⟨[_], ⟨rfl, trivial⟩, ?_⟩
                 first | exact ent_i rfl (by rw [hT, if_pos hr]; omega) | exact ent_i rfl (by rw [hT, if_neg hr]) | exact ent_i rfl (ixS_found hiT hno2 hm).symm | exact ent_i rfl (ixS_none hnone).symm | exact ent_i rfl (by rw [hm0, ixS_nil]) | exact ent_i rfl (by rw [hms, ixS_self]) | exact ent_i rfl (by rw [ixS_one]) | exact ent_i rfl (ixS_long hge hms).symm | exact ent_i rfl rfl | exact ent_i rfl (ixS_none fun j hj => hno j (by omega)).symm
                ·
                 have hr : ixS (s.drop (i + 1)) m ≥ 0 := by have := hc18; simp at this; omega
                 refine awp_skip ?_
                 refine xsr ?_
                 iterate 2 refine lmv rfl rfl rfl rfl rfl ?_
                 refine xlz (o_add rfl rfl rfl rfl (by have := ixS_ge (s.drop (i + 1)) m; have h9 := ixS_le (s.drop (i + 1)) m; rw [List.length_drop] at h9; omega)) ?_
                 refine las rfl rfl rfl rfl rfl ?_
                 refine lendF ?_
                 refine awp_ret ?_
                 refine ⟨[_], ⟨rfl, trivial⟩, ?_⟩
                 first | exact ent_i rfl (by rw [hT, if_pos hr]; omega) | exact ent_i rfl (by rw [hT, if_neg hr]) | exact ent_i rfl (ixS_found hiT hno2 hm).symm | exact ent_i rfl (ixS_none hnone).symm | exact ent_i rfl (by rw [hm0, ixS_nil]) | exact ent_i rfl (by rw [hms, ixS_self]) | exact ent_i rfl (by rw [ixS_one]) | exact ent_i rfl (ixS_long hge hms).symm | exact ent_i rfl rfl | exact ent_i rfl (ixS_none fun j hj => hno j (by omega)).symm
               ·
                refine awp_skip ?_
                refine ⟨(i + 1, f + 1), ?_, ?_, ?_⟩
                ·
                 exact ⟨by show i + 1 ≤ s.length; omega, by show f + 1 ≤ i + 1; omega, hno3⟩
                ·
                 exact ent_k [] rfl rfl ((by repeat (first | exact .nil | refine xkc ?_))) (obs_cons rfl (o_eq rfl) obs_nil) rfl
                ·
                 show s.length - (i + 1) < s.length - i0; omega
        ·
         have hit : (s.length + 1 - m.length) ≤ i0 := by have := hc7; simp at this; omega
         refine awp_exit ?_
         refine xsr ?_
         refine las rfl rfl rfl rfl rfl ?_
         refine lendF ?_
         refine awp_ret ?_
         refine ⟨[_], ⟨rfl, trivial⟩, ?_⟩
         first | exact ent_i rfl (by rw [hT, if_pos hr]; omega) | exact ent_i rfl (by rw [hT, if_neg hr]) | exact ent_i rfl (ixS_found hiT hno2 hm).symm | exact ent_i rfl (ixS_none hnone).symm | exact ent_i rfl (by rw [hm0, ixS_nil]) | exact ent_i rfl (by rw [hms, ixS_self]) | exact ent_i rfl (by rw [ixS_one]) | exact ent_i rfl (ixS_long hge hms).symm | exact ent_i rfl rfl | exact ent_i rfl (ixS_none fun j hj => hno j (by omega)).symm
     ·
      iterate 3 refine lskip rfl hg5 rfl ?_
      refine xlz (o_pF rfl rfl (g10 hg5) rfl rfl) ?_
      refine las rfl rfl rfl rfl rfl ?_
      refine lendF ?_
      refine awp_condF rfl rfl rfl ?_
      refine awp_skip ?_
      refine xsr ?_
      refine lmv rfl rfl rfl rfl rfl ?_
      refine xlz (o_idxS (0) rfl rfl rfl rfl ty9 (by first | rfl | omega | (simp; done) | (simp; omega)) hc0) ?_
      refine las rfl rfl rfl rfl rfl ?_
      refine lendF ?_
      refine xsr ?_
      refine lmv rfl rfl rfl rfl rfl ?_
      refine xlz (o_idxS (1) rfl rfl rfl rfl ty9 (by first | rfl | omega | (simp; done) | (simp; omega)) hc1) ?_
      refine las rfl rfl rfl rfl rfl ?_
      refine lendF ?_
      refine xsr ?_
      refine las rfl rfl rfl rfl rfl ?_
      refine lendF ?_
      refine xsr ?_
      refine lmv rfl rfl rfl rfl rfl ?_
      refine xlz (op_lenS rfl rfl rfl ty9) ?_
      refine lmv rfl rfl rfl rfl rfl ?_
      refine xlz (o_sub rfl rfl rfl rfl (by first | omega | (simp; omega) | (simp at *; omega))) ?_
      refine xlz (o_add rfl rfl rfl rfl (by first | omega | (simp; omega) | (simp at *; omega))) ?_
      refine las rfl rfl rfl rfl rfl ?_
      refine lendF ?_
      refine xsr ?_
      refine las rfl rfl rfl rfl rfl ?_
      refine lendF ?_
      refine awp_seq ?_
      refine awp_block ?_
      refine awp_loop (fun x => ⟨143, [(8, .d (I (x.1 : Nat))), (10, .d (I (x.2 : Nat))), (0, .d (.str s)), (1, .d (.str m)), (5, .d (I m.length)), (6, .d (.int .u8 c0.toNat)), (7, .d (.int .u8 c1.toNat)), (9, .d (I ((s.length - m.length) + 1)))], [(900000, .glob n)]⟩) (fun x => s.length - x.1) (fun x => x.1 ≤ s.length ∧ x.2 ≤ x.1 ∧ ∀ j, j < x.1 → mAt s m j = false) (0, 0) ?_ ?_ ?_
      ·
       exact ent_k [] rfl rfl ((by repeat (first | exact .nil | refine xkc ?_))) (obs_cons rfl (o_eq rfl) obs_nil) rfl
      ·
       exact ⟨Nat.zero_le _, Nat.le_refl _, fun j hj => absurd hj (Nat.not_lt_zero _)⟩
      ·
       rintro ⟨i0, f⟩ ⟨hi, hf, hno⟩
       dsimp only at hi hf hno ⊢
       refine awp_seq ?_
       refine xsr ?_
       iterate 2 refine lmv rfl rfl rfl rfl rfl ?_
       refine xlz (op_binI rfl rfl rfl rfl rfl (.inl rfl) rfl) ?_
       refine lendF ?_
       refine awp_cond rfl rfl (fun hc20 => ?_) (fun hc20 => ?_)
       ·
        have hit : i0 < (s.length + 1 - m.length) := by have := hc20; simp at this; omega
        obtain ⟨x, hn⟩ : ∃ x, s[i0]? = some x := ⟨_, List.getElem?_eq_getElem (by omega)⟩
        refine awp_skip ?_
        refine awp_block ?_
        refine awp_joinX (fun i => ⟨143, [(8, .d (I (i : Nat))), (0, .d (.str s)), (1, .d (.str m)), (5, .d (I m.length)), (6, .d (.int .u8 c0.toNat)), (7, .d (.int .u8 c1.toNat)), (9, .d (I ((s.length - m.length) + 1))), (10, .d (I (f : Nat))), (57, .d (I (i0 : Nat))), (58, .d (I ((s.length - m.length) + 1)))], [(900000, .glob n)]⟩) (fun i => i0 ≤ i ∧ i < (s.length + 1 - m.length) ∧ ∀ j, j < i → mAt s m j = false) ?_ ?_
        ·
         refine xsr ?_
         iterate 2 refine lmv rfl rfl rfl rfl rfl ?_
         refine xlz (o_idxS (i0) rfl rfl rfl rfl ty9 (by first | rfl | omega | (simp; done) | (simp; omega)) hn) ?_
         refine lmv rfl rfl rfl rfl rfl ?_
         refine xlz (op_binI rfl rfl rfl rfl rfl (.inl rfl) rfl) ?_
         refine lendF ?_
         refine awp_cond rfl rfl (fun hc21 => ?_) (fun hc21 => ?_)
         ·
          have hx : ¬ x = c0 := by have := hc21; rw [neB] at this; simpa using this
          refine xsr ?_
          iterate 2 refine lmv rfl rfl rfl rfl rfl ?_
          refine xlz (o_add rfl rfl rfl rfl (by first | omega | (simp; omega) | (simp at *; omega))) ?_
          refine lmv rfl rfl rfl rfl rfl ?_
          refine xlz (o_slS rfl rfl rfl ty9 (.some rfl rfl (n := (i0 + 1)) (by first | rfl | omega | (simp; done) | (simp; omega))) (.some rfl rfl (n := (s.length + 1 - m.length)) (by first | rfl | omega | (simp; done) | (simp; omega))) (by first | omega | (simp; omega) | (simp at *; omega)) (by first | omega | (simp; omega) | (simp at *; omega))) ?_
          refine lmv rfl rfl rfl rfl rfl ?_
          refine xlz (o_call (c195 ((s.drop (i0 + 1)).take ((s.length + 1 - m.length) - (i0 + 1))) c0) rfl rfl rfl ca195 rfl rfl) ?_
          refine las rfl rfl rfl rfl rfl ?_
          refine lendF ?_
          refine awp_seq ?_
          refine xsr ?_
          refine lmv rfl rfl rfl rfl rfl ?_
          refine xlz (op_binI rfl rfl rfl rfl rfl (.inl rfl) rfl) ?_
          refine lendF ?_
          refine awp_cond rfl rfl (fun hc22 => ?_) (fun hc22 => ?_)
          ·
           have hnone : ∀ j, j < (s.length + 1 - m.length) → mAt s m j = false := fun j hj => by rcases Nat.lt_or_ge j i0 with h | h; (exact hno j h); (cases hh : mAt s m j with | false => rfl | true => (have h0 := mAt_head hc0 hh; rcases Nat.lt_or_ge i0 j with h3 | h3; (have h4 := ixB_none (by simpa using hc22) (j - (i0 + 1)); rw [List.getElem?_take, if_pos (by omega), List.getElem?_drop, show i0 + 1 + (j - (i0 + 1)) = j from by omega] at h4; exact absurd h0 h4); ((have : j = i0 := by omega); subst this; rw [hn] at h0; injection h0 with h0; exact absurd h0 hx)))
           refine xsr ?_
           refine las rfl rfl rfl rfl rfl ?_
           refine lendF ?_
           refine awp_ret ?_
           refine ⟨[_], ⟨rfl, trivial⟩, ?_⟩
           first | exact ent_i rfl (by rw [hT, if_pos hr]; omega) | exact ent_i rfl (by rw [hT, if_neg hr]) | exact ent_i rfl (ixS_found hiT hno2 hm).symm | exact ent_i rfl (ixS_none hnone).symm | exact ent_i rfl (by rw [hm0, ixS_nil]) | exact ent_i rfl (by rw [hms, ixS_self]) | exact ent_i rfl (by rw [ixS_one]) | exact ent_i rfl (ixS_long hge hms).symm | exact ent_i rfl rfl | exact ent_i rfl (ixS_none fun j hj => hno j (by omega)).symm
          ·
           obtain ⟨o, ho, ho2, ho3⟩ := ixB_some (by have := hc22; simp at this; exact this)
           have hol := rng_le ho2
           rw [List.length_take, List.length_drop] at hol
           have hno2 : ∀ j, j < i0 + o + 1 → mAt s m j = false := fun j hj => by rcases Nat.lt_or_ge j i0 with h | h; (exact hno j h); (cases hh : mAt s m j with | false => rfl | true => (have h0 := mAt_head hc0 hh; rcases Nat.lt_or_ge i0 j with h3 | h3; (have h4 := ho3 (j - (i0 + 1)) (by omega); rw [List.getElem?_take, if_pos (by omega), List.getElem?_drop, show i0 + 1 + (j - (i0 + 1)) = j from by omega] at h4; exact absurd h0 h4); ((have : j = i0 := by omega); subst this; rw [hn] at h0; injection h0 with h0; exact absurd h0 hx)))
           refine awp_skip ?_
           refine awp_region mixed ?_
           iterate 2 refine lmv rfl rfl rfl rfl rfl ?_
           refine xlz (o_add rfl rfl rfl rfl (by rw [ho]; omega)) ?_
           refine xlz (o_add rfl rfl rfl rfl (by rw [ho]; omega)) ?_
           refine las rfl rfl rfl rfl rfl ?_
           refine lendF ?_
           refine ⟨(i0 + o + 1), ?_, ?_⟩
           ·
            exact ⟨by omega, by omega, hno2⟩
           ·
            exact ent_k [] rfl rfl (.cons rfl (k_i (by rw [ho]; omega)) <| (by repeat (first | exact .nil | refine xkc ?_))) (obs_cons rfl (o_eq rfl) obs_nil) rfl
         ·
          have hx : x = c0 := by have := hc21; rw [neB] at this; simpa using this
          refine awp_skip ?_
          refine ⟨i0, ?_, ?_⟩
          ·
           exact ⟨Nat.le_refl _, hit, hno⟩
          ·
           exact ent_k [] rfl rfl (.cons rfl (k_i rfl) <| (by repeat (first | exact .nil | refine xkc ?_))) (obs_cons rfl (o_eq rfl) obs_nil) rfl
        ·
         rintro i ⟨hii, hiT, hno2⟩
         refine awp_seq ?_
         refine awp_joinX (fun _ : Unit => ⟨143, [(93, .d (.bool (mAt s m i))), (0, .d (.str s)), (1, .d (.str m)), (5, .d (I m.length)), (6, .d (.int .u8 c0.toNat)), (7, .d (.int .u8 c1.toNat)), (8, .d (I (i : Nat))), (9, .d (I ((s.length - m.length) + 1))), (10, .d (I (f : Nat))), (57, .d (I (i0 : Nat))), (58, .d (I ((s.length - m.length) + 1)))], [(900000, .glob n)]⟩) (fun _ : Unit => True) ?_ ?_
         ·
          obtain ⟨y, hn1⟩ : ∃ y, s[i + 1]? = some y := ⟨_, List.getElem?_eq_getElem (by omega)⟩
          refine awp_region mixed ?_
          iterate 2 refine lmv rfl rfl rfl rfl rfl ?_
          refine xlz (o_add rfl rfl rfl rfl (by first | omega | (simp; omega) | (simp at *; omega))) ?_
          refine xlz (o_idxS ((i + 1)) rfl rfl rfl rfl ty9 (by first | rfl | omega | (simp; done) | (simp; omega)) hn1) ?_
          refine lmv rfl rfl rfl rfl rfl ?_
          refine xlz (op_binI rfl rfl rfl rfl rfl (.inl rfl) rfl) ?_
          refine lmv rfl rfl rfl rfl rfl ?_
          refine lsplit rfl (fun hg23 => ?_) (fun hg23 => ?_)
          ·
           iterate 4 refine gmv hg23 rfl rfl rfl rfl rfl ?_
           refine lg (o_add rfl rfl rfl rfl (by first | omega | (simp; omega) | (simp at *; omega))) rfl hg23 rfl rfl ?_
           refine lg (o_eqS (o_slS rfl rfl rfl ty9 (.some rfl rfl (n := i) (by first | rfl | omega | (simp; done) | (simp; omega))) (.some rfl rfl (n := (i + m.length)) (by first | rfl | omega | (simp; done) | (simp; omega))) (by first | omega | (simp; omega) | (simp at *; omega)) (by first | omega | (simp; omega) | (simp at *; omega))) (l' := (s.drop i).take m.length) (by rw [Nat.add_sub_cancel_left])) rfl hg23 rfl rfl ?_
           refine gmv hg23 rfl rfl rfl rfl rfl ?_
           refine lg (op_binS rfl rfl rfl rfl rfl (fun h => by first | cases h | (simp; omega)) rfl) rfl hg23 rfl rfl ?_
           refine xlz (o_pT rfl rfl (g11 hg23) rfl rfl) ?_
           refine lendF ?_
           refine ⟨(), ?_, ?_⟩
           ·
            exact True.intro
           ·
            exact ent_k [] rfl rfl (.cons rfl (k_b rfl) <| (by repeat (first | exact .nil | refine xkc ?_))) (obs_cons rfl (o_eq rfl) obs_nil) rfl
          ·
           have hnm : mAt s m i = false := by cases hh : mAt s m i with | false => rfl | true => (have h2 := mAt_second hc1 hh); rw [hn1] at h2; injection h2 with h2; subst h2; have := (g10 hg23); simp at this
           iterate 8 refine lskip rfl hg23 rfl ?_
           refine xlz (o_pF rfl rfl (g10 hg23) rfl rfl) ?_
           refine lendF ?_
           refine ⟨(), ?_, ?_⟩
           ·
            exact True.intro
           ·
            exact ent_k [] rfl rfl (.cons rfl (k_b hnm.symm) <| (by repeat (first | exact .nil | refine xkc ?_))) (obs_cons rfl (o_eq rfl) obs_nil) rfl
         ·
          rintro _ _
          refine awp_cond rfl rfl (fun hc24 => ?_) (fun hc24 => ?_)
          ·
           have hm : mAt s m i = true := hc24
           refine xsr ?_
           refine lmv rfl rfl rfl rfl rfl ?_
           refine las rfl rfl rfl rfl rfl ?_
           refine lendF ?_
           refine awp_ret ?_
           refine ⟨[_], ⟨rfl, trivial⟩, ?_⟩
           first | exact ent_i rfl (by rw [hT, if_pos hr]; omega) | exact ent_i rfl (by rw [hT, if_neg hr]) | exact ent_i rfl (ixS_found hiT hno2 hm).symm | exact ent_i rfl (ixS_none hnone).symm | exact ent_i rfl (by rw [hm0, ixS_nil]) | exact ent_i rfl (by rw [hms, ixS_self]) | exact ent_i rfl (by rw [ixS_one]) | exact ent_i rfl (ixS_long hge hms).symm | exact ent_i rfl rfl | exact ent_i rfl (ixS_none fun j hj => hno j (by omega)).symm
          ·
           have hnm : mAt s m i = false := hc24
           refine awp_skip ?_
           refine awp_seq ?_
           have hno3 : ∀ j, j < i + 1 → mAt s m j = false := fun j hj => by rcases Nat.lt_or_ge j i with h | h; (exact hno2 j h); ((have : j = i := by omega); subst this; exact hnm)
           have hT := ixS_tail (l := s) (m := m) hno3 (by omega) hm0
           refine awp_region mixed ?_
           refine lmv rfl rfl rfl rfl rfl ?_
           refine xlz (o_add rfl rfl rfl rfl (by first | omega | (simp; omega) | (simp at *; omega))) ?_
           refine las rfl rfl rfl rfl rfl ?_
           refine lendF ?_
           refine xsr ?_
           refine lmv rfl rfl rfl rfl rfl ?_
           refine xlz (o_add rfl rfl rfl rfl (by first | omega | (simp; omega) | (simp at *; omega))) ?_
           refine las rfl rfl rfl rfl rfl ?_
           refine lendF ?_
           refine awp_joinX (fun _ : Unit => ⟨143, [(107, .d (.bool (decide ((m.length : Int) ≤ n) && decide (((f : Nat) : Int) + 1 > (((i : Nat) : Int) + 1 + 16) / 8)))), (0, .d (.str s)), (1, .d (.str m)), (5, .d (I m.length)), (6, .d (.int .u8 c0.toNat)), (7, .d (.int .u8 c1.toNat)), (8, .d (I ((i : Nat) + 1))), (9, .d (I ((s.length - m.length) + 1))), (10, .d (I ((f : Nat) + 1))), (57, .d (I (i0 : Nat))), (58, .d (I ((s.length - m.length) + 1))), (93, .d (.bool (mAt s m i))), (95, .d (I (i : Nat))), (96, .d (I ((i : Nat) + 1))), (97, .d (I (f : Nat))), (98, .d (I ((f : Nat) + 1)))], [(900000, .glob n)]⟩) (fun _ : Unit => True) ?_ ?_
           ·
            refine awp_region mixed ?_
            refine lmv rfl rfl rfl rfl rfl ?_
            refine xlz (op_gload (X := 900000) rfl rfl ty3 rfl) ?_
            refine xlz (op_binI rfl rfl rfl rfl rfl (.inl rfl) rfl) ?_
            refine lmv rfl rfl rfl rfl rfl ?_
            refine lsplit rfl (fun hg25 => ?_) (fun hg25 => ?_)
            ·
             have hml : (m.length : Int) ≤ n := by have := (g11 hg25); simpa using this
             iterate 2 refine gmv hg25 rfl rfl rfl rfl rfl ?_
             refine lg (o_call (c197 (((i : Nat) : Int) + 1) (by omega) (by omega)) rfl rfl rfl ca197 rfl rfl) rfl hg25 rfl rfl ?_
             refine lg (op_binI rfl rfl rfl rfl rfl (.inl rfl) rfl) rfl hg25 rfl rfl ?_
             refine xlz (o_pT rfl rfl (g11 hg25) rfl rfl) ?_
             refine lendF ?_
             refine ⟨(), ?_, ?_⟩
             ·
              exact True.intro
             ·
              exact ent_k [] rfl rfl (.cons rfl (k_b (by first | (simp_all; done) | (simp_all <;> (intros; omega)))) <| (by repeat (first | exact .nil | refine xkc ?_))) (obs_cons rfl (o_eq rfl) obs_nil) rfl
            ·
             iterate 4 refine lskip rfl hg25 rfl ?_
             refine xlz (o_pF rfl rfl (g10 hg25) rfl rfl) ?_
             refine lendF ?_
             refine ⟨(), ?_, ?_⟩
             ·
              exact True.intro
             ·
              exact ent_k [] rfl rfl (.cons rfl (k_b (by first | (simp_all; done) | (simp_all <;> (intros; omega)))) <| (by repeat (first | exact .nil | refine xkc ?_))) (obs_cons rfl (o_eq rfl) obs_nil) rfl
           ·
            rintro _ _
            refine awp_cond rfl rfl (fun hc26 => ?_) (fun hc26 => ?_)
            ·
             have hml : (m.length : Int) ≤ n := by have := hc26; simp at this; omega
             refine xsr ?_
             iterate 2 refine lmv rfl rfl rfl rfl rfl ?_
             refine xlz (o_eqS (o_slS rfl rfl rfl ty9 (.some rfl rfl (n := (i + 1)) (by first | rfl | omega | (simp; done) | (simp; omega))) .none (by first | omega | (simp; omega) | (simp at *; omega)) (by first | omega | (simp; omega) | (simp at *; omega))) (l' := s.drop (i + 1)) (by simp [List.take_of_length_le])) ?_
             refine lmv rfl rfl rfl rfl rfl ?_
             refine xlz (op_ixS (X := 900000) rfl ext196 gix rfl rfl rfl h2 hml (by simp; omega) rfl rfl) ?_
             refine las rfl rfl rfl rfl rfl ?_
             refine lendF ?_
             refine awp_seq ?_
             refine xsr ?_
             refine lmv rfl rfl rfl rfl rfl ?_
             refine xlz (op_binI rfl rfl rfl rfl rfl (.inl rfl) rfl) ?_
             refine lendF ?_
             refine awp_cond rfl rfl (fun hc27 => ?_) (fun hc27 => ?_)
             ·
              have hr : ixS (s.drop (i + 1)) m ≥ 0 := by simpa using hc27
              refine xsr ?_
              iterate 2 refine lmv rfl rfl rfl rfl rfl ?_
              refine xlz (o_add rfl rfl rfl rfl (by have := ixS_ge (s.drop (i + 1)) m; have h9 := ixS_le (s.drop (i + 1)) m; rw [List.length_drop] at h9; omega)) ?_
              refine las rfl rfl rfl rfl rfl ?_
              refine lendF ?_
              refine awp_ret ?_
              refine ⟨[_], ⟨rfl, trivial⟩, ?_⟩
              first | exact ent_i rfl (by rw [hT, if_pos hr]; omega) | exact ent_i rfl (by rw [hT, if_neg hr]) | exact ent_i rfl (ixS_found hiT hno2 hm).symm | exact ent_i rfl (ixS_none hnone).symm | exact ent_i rfl (by rw [hm0, ixS_nil]) | exact ent_i rfl (by rw [hms, ixS_self]) | exact ent_i rfl (by rw [ixS_one]) | exact ent_i rfl (ixS_long hge hms).symm | exact ent_i rfl rfl | exact ent_i rfl (ixS_none fun j hj => hno j (by omega)).symm
             ·
              have hr : ¬ ixS (s.drop (i + 1)) m ≥ 0 := by have := hc27; simp at this; omega
              refine awp_skip ?_
              refine xsr ?_
              refine las rfl rfl rfl rfl rfl ?_
              refine lendF ?_
              refine awp_ret ?_
              refine ⟨[_], ⟨rfl, trivial⟩, ?_⟩
              first | exact ent_i rfl (by rw [hT, if_pos hr]; omega) | exact ent_i rfl (by rw [hT, if_neg hr]) | exact ent_i rfl (ixS_found hiT hno2 hm).symm | exact ent_i rfl (ixS_none hnone).symm | exact ent_i rfl (by rw [hm0, ixS_nil]) | exact ent_i rfl (by rw [hms, ixS_self]) | exact ent_i rfl (by rw [ixS_one]) | exact ent_i rfl (ixS_long hge hms).symm | exact ent_i rfl rfl | exact ent_i rfl (ixS_none fun j hj => hno j (by omega)).symm
            ·
             refine awp_joinX (fun _ : Unit => ⟨143, [(132, .d (.bool (decide ((m.length : Int) > n) && decide (((f : Nat) : Int) + 1 ≥ 4 + (((i + 1) / 16 : Nat) : Int)) && decide (((i : Nat) : Int) + 1 < (s.length : Int) - (m.length : Int) + 1)))), (0, .d (.str s)), (1, .d (.str m)), (5, .d (I m.length)), (6, .d (.int .u8 c0.toNat)), (7, .d (.int .u8 c1.toNat)), (8, .d (I ((i : Nat) + 1))), (9, .d (I ((s.length - m.length) + 1))), (10, .d (I ((f : Nat) + 1))), (57, .d (I (i0 : Nat))), (58, .d (I ((s.length - m.length) + 1))), (93, .d (.bool (mAt s m i))), (95, .d (I (i : Nat))), (96, .d (I ((i : Nat) + 1))), (97, .d (I (f : Nat))), (98, .d (I ((f : Nat) + 1))), (107, .d (.bool (decide ((m.length : Int) ≤ n) && decide (((f : Nat) : Int) + 1 > (((i : Nat) : Int) + 1 + 16) / 8))))], [(900000, .glob n)]⟩) (fun _ : Unit => True) ?_ ?_
             ·
              refine awp_region mixed ?_
              refine lmv rfl rfl rfl rfl rfl ?_
              refine xlz (op_gload (X := 900000) rfl rfl ty3 rfl) ?_
              refine xlz (op_binI rfl rfl rfl rfl rfl (.inl rfl) rfl) ?_
              refine lmv rfl rfl rfl rfl rfl ?_
              refine lsplit rfl (fun hg28 => ?_) (fun hg28 => ?_)
              ·
               iterate 2 refine gmv hg28 rfl rfl rfl rfl rfl ?_
               refine lg (o_eqI (op_binI rfl rfl rfl rfl rfl (.inr (.inr rfl)) rfl) (m' := (((i + 1) / 16 : Nat) : Int)) (shr4 (i + 1))) rfl hg28 rfl rfl ?_
               refine lg (o_add rfl rfl rfl rfl (by first | omega | (simp; omega) | (simp at *; omega))) rfl hg28 rfl rfl ?_
               refine lg (op_binI rfl rfl rfl rfl rfl (.inl rfl) rfl) rfl hg28 rfl rfl ?_
               refine xlz (o_pT rfl rfl (g11 hg28) rfl rfl) ?_
               refine lmv rfl rfl rfl rfl rfl ?_
               refine lsplit rfl (fun hg29 => ?_) (fun hg29 => ?_)
               ·
                iterate 2 refine gmv hg29 rfl rfl rfl rfl rfl ?_
                refine lg (op_binI rfl rfl rfl rfl rfl (.inl rfl) rfl) rfl hg29 rfl rfl ?_
                refine xlz (o_pT rfl rfl (g11 hg29) rfl rfl) ?_
                refine lendF ?_
                refine ⟨(), ?_, ?_⟩
                ·
                 exact True.intro
                ·
                 exact ent_k [] rfl rfl (.cons rfl (k_b (by first | (simp_all; done) | (simp_all <;> (intros; omega)))) <| (by repeat (first | exact .nil | refine xkc ?_))) (obs_cons rfl (o_eq rfl) obs_nil) rfl
               ·
                iterate 3 refine lskip rfl hg29 rfl ?_
                refine xlz (o_pF rfl rfl (g10 hg29) rfl rfl) ?_
                refine lendF ?_
                refine ⟨(), ?_, ?_⟩
                ·
                 exact True.intro
                ·
                 exact ent_k [] rfl rfl (.cons rfl (k_b (by first | (simp_all; done) | (simp_all <;> (intros; omega)))) <| (by repeat (first | exact .nil | refine xkc ?_))) (obs_cons rfl (o_eq rfl) obs_nil) rfl
              ·
               iterate 5 refine lskip rfl hg28 rfl ?_
               refine xlz (o_pF rfl rfl (g10 hg28) rfl rfl) ?_
               refine lmv rfl rfl rfl rfl rfl ?_
               iterate 3 refine lskip rfl rfl rfl ?_
               refine xlz (o_pF rfl rfl rfl rfl rfl) ?_
               refine lendF ?_
               refine ⟨(), ?_, ?_⟩
               ·
                exact True.intro
               ·
                exact ent_k [] rfl rfl (.cons rfl (k_b (by first | (simp_all; done) | (simp_all <;> (intros; omega)))) <| (by repeat (first | exact .nil | refine xkc ?_))) (obs_cons rfl (o_eq rfl) obs_nil) rfl
             ·
              rintro _ _
              refine awp_cond rfl rfl (fun hc30 => ?_) (fun hc30 => ?_)
              ·
               have hrk : m.length ≤ (s.drop (i + 1)).length := by have := hc30; simp at this; rw [List.length_drop]; omega
               refine xsr ?_
               iterate 2 refine lmv rfl rfl rfl rfl rfl ?_
               refine xlz (o_eqS (o_slS rfl rfl rfl ty9 (.some rfl rfl (n := (i + 1)) (by first | rfl | omega | (simp; done) | (simp; omega))) .none (by first | omega | (simp; omega) | (simp at *; omega)) (by first | omega | (simp; omega) | (simp at *; omega))) (l' := s.drop (i + 1)) (by simp [List.take_of_length_le])) ?_
               refine lmv rfl rfl rfl rfl rfl ?_
               refine xlz (o_call (c198 (s.drop (i + 1)) m (by simp; omega) hm0 hrk) rfl rfl rfl ca198 rfl rfl) ?_
               refine las rfl rfl rfl rfl rfl ?_
               refine lendF ?_
               refine awp_seq ?_
               refine xsr ?_
               refine lmv rfl rfl rfl rfl rfl ?_
               refine xlz (op_binI rfl rfl rfl rfl rfl (.inl rfl) rfl) ?_
               refine lendF ?_
               refine awp_cond rfl rfl (fun hc31 => ?_) (fun hc31 => ?_)
               ·
                have hr : ¬ ixS (s.drop (i + 1)) m ≥ 0 := by have := hc31; simp at this; omega
                refine xsr ?_
                refine las rfl rfl rfl rfl rfl ?_
                refine lendF ?_
                refine awp_ret ?_
                refine ⟨[_], ⟨rfl, trivial⟩, ?_⟩
                first | exact ent_i rfl (by rw [hT, if_pos hr]; omega) | exact ent_i rfl (by rw [hT, if_neg hr]) | exact ent_i rfl (ixS_found hiT hno2 hm).symm | exact ent_i rfl (ixS_none hnone).symm | exact ent_i rfl (by rw [hm0, ixS_nil]) | exact ent_i rfl (by rw [hms, ixS_self]) | exact ent_i rfl (by rw [ixS_one]) | exact ent_i rfl (ixS_long hge hms).symm | exact ent_i rfl rfl | exact ent_i rfl (ixS_none fun j hj => hno j (by omega)).symm
               ·
                have hr : ixS (s.drop (i + 1)) m ≥ 0 := by have := hc31; simp at this; omega
                refine awp_skip ?_
                refine xsr ?_
                iterate 2 refine lmv rfl rfl rfl rfl rfl ?_
                refine xlz (o_add rfl rfl rfl rfl (by have := ixS_ge (s.drop (i + 1)) m; have h9 := ixS_le (s.drop (i + 1)) m; rw [List.length_drop] at h9; omega)) ?_
                refine las rfl rfl rfl rfl rfl ?_
                refine lendF ?_
                refine awp_ret ?_
                refine ⟨[_], ⟨rfl, trivial⟩, ?_⟩
                first | exact ent_i rfl (by rw [hT, if_pos hr]; omega) | exact ent_i rfl (by rw [hT, if_neg hr]) | exact ent_i rfl (ixS_found hiT hno2 hm).symm | exact ent_i rfl (ixS_none hnone).symm | exact ent_i rfl (by rw [hm0, ixS_nil]) | exact ent_i rfl (by rw [hms, ixS_self]) | exact ent_i rfl (by rw [ixS_one]) | exact ent_i rfl (ixS_long hge hms).symm | exact ent_i rfl rfl | exact ent_i rfl (ixS_none fun j hj => hno j (by omega)).symm
              ·
               refine awp_skip ?_
               refine ⟨(i + 1, f + 1), ?_, ?_, ?_⟩
               ·
                exact ⟨by show i + 1 ≤ s.length; omega, by show f + 1 ≤ i + 1; omega, hno3⟩
               ·
                exact ent_k [] rfl rfl ((by repeat (first | exact .nil | refine xkc ?_))) (obs_cons rfl (o_eq rfl) obs_nil) rfl
               ·
                show s.length - (i + 1) < s.length - i0; omega
       ·
        have hit : (s.length + 1 - m.length) ≤ i0 := by have := hc20; simp at this; omega
        refine awp_exit ?_
        refine xsr ?_
        refine las rfl rfl rfl rfl rfl ?_
        refine lendF ?_
        refine awp_ret ?_
        refine ⟨[_], ⟨rfl, trivial⟩, ?_⟩
        first | exact ent_i rfl (by rw [hT, if_pos hr]; omega) | exact ent_i rfl (by rw [hT, if_neg hr]) | exact ent_i rfl (ixS_found hiT hno2 hm).symm | exact ent_i rfl (ixS_none hnone).symm | exact ent_i rfl (by rw [hm0, ixS_nil]) | exact ent_i rfl (by rw [hms, ixS_self]) | exact ent_i rfl (by rw [ixS_one]) | exact ent_i rfl (ixS_long hge hms).symm | exact ent_i rfl rfl | exact ent_i rfl (ixS_none fun j hj => hno j (by omega)).symm
 ·
  have hm0 : m = [] := by have := (g00 hg1); simp at this; exact this
  iterate 3 refine lskip rfl hg1 rfl ?_
  refine xlz (o_pT rfl rfl (g00 hg1) rfl rfl) ?_
  refine las rfl rfl rfl rfl rfl ?_
  refine lendF ?_
  refine awp_condT rfl rfl rfl ?_
  refine xsr ?_
  refine las rfl rfl rfl rfl rfl ?_
  refine lendF ?_
  refine awp_ret ?_
  refine ⟨[_], ⟨rfl, trivial⟩, ?_⟩
  first | exact ent_i rfl (by rw [hT, if_pos hr]; omega) | exact ent_i rfl (by rw [hT, if_neg hr]) | exact ent_i rfl (ixS_found hiT hno2 hm).symm | exact ent_i rfl (ixS_none hnone).symm | exact ent_i rfl (by rw [hm0, ixS_nil]) | exact ent_i rfl (by rw [hms, ixS_self]) | exact ent_i rfl (by rw [ixS_one]) | exact ent_i rfl (ixS_long hge hms).symm | exact ent_i rfl rfl | exact ent_i rfl (ixS_none fun j hj => hno j (by omega)).symm

set_option maxRecDepth 10000 in
theorem c174 (s m : Bytes) (hs : s.length ≤ 1000000) : Fn PR 174 [.d (.str s), .d (.str m)] [] [.d (I (ixS s m))] [] := by
 refine fn_of_awp Tryz.func174 rfl (N := 8) rfl ?_
 refine xsr ?_
 refine las rfl rfl rfl rfl rfl ?_
 refine lendF ?_
 refine xsr ?_
 iterate 2 refine lmv rfl rfl rfl rfl rfl ?_
 refine xlz (o_call (c188 s m hs) rfl rfl rfl ca188 rfl rfl) ?_
 refine las rfl rfl rfl rfl rfl ?_
 refine lendF ?_
 refine awp_ret ?_
 refine ⟨[_], ⟨rfl, trivial⟩, ?_⟩
 exact ent_d1 rfl (by first | rfl | simp_all)

set_option maxRecDepth 10000 in
theorem c177 (s m : Bytes) (hs : s.length ≤ 1000000) : Fn PR 177 [.d (.str s), .d (.str m)] [] [.d (.bool (decide (ixS s m ≥ 0)))] [] := by
 refine fn_of_awp Tryz.func177 rfl (N := 9) rfl ?_
 refine xsr ?_
 refine las rfl rfl rfl rfl rfl ?_
 refine lendF ?_
 refine xsr ?_
 iterate 2 refine lmv rfl rfl rfl rfl rfl ?_
 refine xlz (o_call (c174 s m hs) rfl rfl rfl ca174 rfl rfl) ?_
 refine xlz (op_binI rfl rfl rfl rfl rfl (.inl rfl) rfl) ?_
 refine las rfl rfl rfl rfl rfl ?_
 refine lendF ?_
 refine awp_ret ?_
 refine ⟨[_], ⟨rfl, trivial⟩, ?_⟩
 exact ent_d1 rfl (by first | rfl | simp_all)

end Go.Pm

namespace Go.Pm
open Go.Proofs

set_option maxRecDepth 10000 in
theorem c152 (s : Bytes) (hs : s.length ≤ 100000) : Fn PR 152 [.d (.str s)] [] [.d (.bool (decide (ixS KW ([32] ++ s ++ [32]) ≥ 0)))] [] := by
 refine fn_of_awp Tryz.func152 rfl (N := 7) rfl ?_
 refine xsr ?_
 refine las rfl rfl rfl rfl rfl ?_
 refine lendF ?_
 refine xsr ?_
 refine lmv rfl rfl rfl rfl rfl ?_
 refine xlz (op_binS rfl rfl rfl rfl rfl (fun _ => by simp; omega) rfl) ?_
 refine xlz (op_binS rfl rfl rfl rfl rfl (fun _ => by simp; omega) rfl) ?_
 refine xlz (o_call (c177 KW ([32] ++ s ++ [32]) (by decide)) rfl rfl rfl ca177 rfl rfl) ?_
 refine las rfl rfl rfl rfl rfl ?_
 refine lendF ?_
 refine awp_ret ?_
 refine ⟨[_], ⟨rfl, trivial⟩, ?_⟩
 exact ent_d1 rfl (by first | rfl | simp_all)

set_option maxRecDepth 10000 in
theorem c124 (s : Bytes) (hs : s.length ≤ 100000) : Fn PR 124 [.d (.str s)] [] [.d (.bool (isName s))] [] := by
 refine fn_of_awp Tryz.func124 rfl (N := 24) rfl ?_
 refine xsr ?_
 refine las rfl rfl rfl rfl rfl ?_
 refine lendF ?_
 refine xsr ?_
 refine lmv rfl rfl rfl rfl rfl ?_
 refine xlz (op_binS rfl rfl rfl rfl rfl (fun h => by first | cases h | (simp; omega)) rfl) ?_
 refine lmv rfl rfl rfl rfl rfl ?_
 refine lsplit rfl (fun hg1 => ?_) (fun hg1 => ?_)
 ·
  refine gmv hg1 rfl rfl rfl rfl rfl ?_
  refine lg (op_lenS rfl rfl rfl ty9) rfl hg1 rfl rfl ?_
  refine lg (op_binI rfl rfl rfl rfl rfl (.inl rfl) rfl) rfl hg1 rfl rfl ?_
  refine xlz (o_pT rfl rfl (g11 hg1) rfl rfl) ?_
  refine lmv rfl rfl rfl rfl rfl ?_
  refine lsplit rfl (fun hg2 => ?_) (fun hg2 => ?_)
  ·
   refine gmv hg2 rfl rfl rfl rfl rfl ?_
   have h0 : 0 < s.length := by have := hg1; simp at this; exact List.length_pos_iff.2 this
   obtain ⟨c, hc0⟩ : ∃ c, s[0]? = some c := ⟨s[0], List.getElem?_eq_getElem h0⟩
   have hhd : s.head? = some c := by rw [List.head?_eq_getElem?]; exact hc0
   refine lg (o_idxS (0) rfl rfl rfl rfl ty9 (by first | rfl | omega | (simp; done) | (simp; omega)) hc0) rfl hg2 rfl rfl ?_
   refine lg (o_call (c127 c) rfl rfl rfl ca127 rfl rfl) rfl hg2 rfl rfl ?_
   refine xlz (o_pT rfl rfl (g11 hg2) rfl rfl) ?_
   refine lmv rfl rfl rfl rfl rfl ?_
   refine lsplit rfl (fun hg3 => ?_) (fun hg3 => ?_)
   ·
    refine gmv hg3 rfl rfl rfl rfl rfl ?_
    refine lg (o_call (c125 151 wordB ca151 c151 s (by omega)) rfl rfl rfl ca125 rfl rfl) rfl hg3 rfl rfl ?_
    refine xlz (o_pT rfl rfl (g11 hg3) rfl rfl) ?_
    refine lmv rfl rfl rfl rfl rfl ?_
    refine lsplit rfl (fun hg4 => ?_) (fun hg4 => ?_)
    ·
     have hkw := kw_iff (s := s) (g11 hg4)
     refine gmv hg4 rfl rfl rfl rfl rfl ?_
     refine lg (o_call (c152 s hs) rfl rfl rfl ca152 rfl rfl) rfl hg4 rfl rfl ?_
     refine lg (op_not rfl rfl rfl) rfl hg4 rfl rfl ?_
     refine xlz (o_pT rfl rfl (g11 hg4) rfl rfl) ?_
     refine las rfl rfl rfl rfl rfl ?_
     refine lendF ?_
     refine awp_ret ?_
     refine ⟨[_], ⟨rfl, trivial⟩, ?_⟩
     exact ent_b rfl (by simp_all [isName] <;> first | done | omega | (intros; omega) | grind)
    ·
     iterate 3 refine lskip rfl hg4 rfl ?_
     refine xlz (o_pF rfl rfl (g10 hg4) rfl rfl) ?_
     refine las rfl rfl rfl rfl rfl ?_
     refine lendF ?_
     refine awp_ret ?_
     refine ⟨[_], ⟨rfl, trivial⟩, ?_⟩
     exact ent_b rfl (by simp_all [isName] <;> first | done | omega | (intros; omega) | grind)
   ·
    iterate 2 refine lskip rfl hg3 rfl ?_
    refine xlz (o_pF rfl rfl (g10 hg3) rfl rfl) ?_
    refine lmv rfl rfl rfl rfl rfl ?_
    iterate 3 refine lskip rfl rfl rfl ?_
    refine xlz (o_pF rfl rfl rfl rfl rfl) ?_
    refine las rfl rfl rfl rfl rfl ?_
    refine lendF ?_
    refine awp_ret ?_
    refine ⟨[_], ⟨rfl, trivial⟩, ?_⟩
    exact ent_b rfl (by simp_all [isName] <;> first | done | omega | (intros; omega) | grind)
  ·
   iterate 3 refine lskip rfl hg2 rfl ?_
   refine xlz (o_pF rfl rfl (g10 hg2) rfl rfl) ?_
   refine lmv rfl rfl rfl rfl rfl ?_
   iterate 2 refine lskip rfl rfl rfl ?_
   refine xlz (o_pF rfl rfl rfl rfl rfl) ?_
   refine lmv rfl rfl rfl rfl rfl ?_
   iterate 3 refine lskip rfl rfl rfl ?_
   refine xlz (o_pF rfl rfl rfl rfl rfl) ?_
   refine las rfl rfl rfl rfl rfl ?_
   refine lendF ?_
   refine awp_ret ?_
   refine ⟨[_], ⟨rfl, trivial⟩, ?_⟩
   exact ent_b rfl (by simp_all [isName] <;> first | done | omega | (intros; omega) | grind)
 ·
  iterate 3 refine lskip rfl hg1 rfl ?_
  refine xlz (o_pF rfl rfl (g10 hg1) rfl rfl) ?_
  refine lmv rfl rfl rfl rfl rfl ?_
  iterate 3 refine lskip rfl rfl rfl ?_
  refine xlz (o_pF rfl rfl rfl rfl rfl) ?_
  refine lmv rfl rfl rfl rfl rfl ?_
  iterate 2 refine lskip rfl rfl rfl ?_
  refine xlz (o_pF rfl rfl rfl rfl rfl) ?_
  refine lmv rfl rfl rfl rfl rfl ?_
  iterate 3 refine lskip rfl rfl rfl ?_
  refine xlz (o_pF rfl rfl rfl rfl rfl) ?_
  refine las rfl rfl rfl rfl rfl ?_
  refine lendF ?_
  refine awp_ret ?_
  refine ⟨[_], ⟨rfl, trivial⟩, ?_⟩
  exact ent_b rfl (by simp_all [isName] <;> first | done | omega | (intros; omega) | grind)

set_option maxRecDepth 10000 in
theorem c189 (s m : Bytes) (hs : s.length ≤ 100000) (hm : m.length ≤ 100000) : Fn PR 189 [.d (.str s), .d (.str m)] [] [.d (.bool (s.take m.length == m && decide (m.length ≤ s.length)))] [] := by
 refine fn_of_awp Tryz.func189 rfl (N := 18) rfl ?_
 refine xsr ?_
 refine las rfl rfl rfl rfl rfl ?_
 refine lendF ?_
 refine xsr ?_
 refine lmv rfl rfl rfl rfl rfl ?_
 refine xlz (op_lenS rfl rfl rfl ty9) ?_
 refine lmv rfl rfl rfl rfl rfl ?_
 refine xlz (op_lenS rfl rfl rfl ty9) ?_
 refine xlz (op_binI rfl rfl rfl rfl rfl (.inl rfl) rfl) ?_
 refine lmv rfl rfl rfl rfl rfl ?_
 refine lsplit rfl (fun hg1 => ?_) (fun hg1 => ?_)
 ·
  iterate 2 refine gmv hg1 rfl rfl rfl rfl rfl ?_
  refine lg (op_lenS rfl rfl rfl ty9) rfl hg1 rfl rfl ?_
  refine lg (o_slS rfl rfl rfl ty9 .none (.some rfl rfl (n := m.length) (by first | rfl | omega | (simp; done) | (simp; omega))) (Nat.zero_le _) (by have := hg1; simp at this; omega)) rfl hg1 rfl rfl ?_
  refine gmv hg1 rfl rfl rfl rfl rfl ?_
  refine lg (op_binS rfl rfl rfl rfl rfl (fun h => by first | cases h | (simp; omega)) rfl) rfl hg1 rfl rfl ?_
  refine xlz (o_pT rfl rfl (g11 hg1) rfl rfl) ?_
  refine las rfl rfl rfl rfl rfl ?_
  refine lendF ?_
  refine awp_ret ?_
  refine ⟨[_], ⟨rfl, trivial⟩, ?_⟩
  exact ent_b rfl (by simp_all)
 ·
  iterate 6 refine lskip rfl hg1 rfl ?_
  refine xlz (o_pF rfl rfl (g10 hg1) rfl rfl) ?_
  refine las rfl rfl rfl rfl rfl ?_
  refine lendF ?_
  refine awp_ret ?_
  refine ⟨[_], ⟨rfl, trivial⟩, ?_⟩
  exact ent_b rfl (by simp_all)

set_option maxRecDepth 10000 in
theorem c175 (s m : Bytes) (hs : s.length ≤ 100000) (hm : m.length ≤ 100000) : Fn PR 175 [.d (.str s), .d (.str m)] [] [.d (.str (cutP s m).1), .d (.bool (cutP s m).2)] [] := by
 refine fn_of_awp Tryz.func175 rfl (N := 15) rfl ?_
 refine xsr ?_
 iterate 2 refine las rfl rfl rfl rfl rfl ?_
 refine lendF ?_
 refine awp_seq ?_
 refine xsr ?_
 iterate 2 refine lmv rfl rfl rfl rfl rfl ?_
 refine xlz (o_call (c189 s m hs hm) rfl rfl rfl ca189 rfl rfl) ?_
 refine xlz (op_not rfl rfl rfl) ?_
 refine lendF ?_
 refine awp_cond rfl rfl (fun hc1 => ?_) (fun hc1 => ?_)
 ·
  have hb : (s.take m.length == m && decide (m.length ≤ s.length)) = false := by (have h := hc1); rw [Bool.not_eq_true'] at h; exact h
  have hc : cutP s m = (s, false) := by simp only [cutP, hb]; rfl
  refine xsr ?_
  refine lmv rfl rfl rfl rfl rfl ?_
  iterate 2 refine las rfl rfl rfl rfl rfl ?_
  refine lendF ?_
  refine awp_ret ?_
  refine ⟨[_, _], ⟨rfl, rfl, trivial⟩, ?_⟩
  rw [hc]
  exact ent_d2 rfl (by simp [List.take_of_length_le]) rfl rfl
 ·
  have hb : (s.take m.length == m && decide (m.length ≤ s.length)) = true := by (have h := hc1); rw [Bool.not_eq_false'] at h; exact h
  have hc : cutP s m = (s.drop m.length, true) := by simp only [cutP, hb]; rfl
  have hl : m.length ≤ s.length := by have := hc1; simp at this; exact this.2
  refine awp_skip ?_
  refine xsr ?_
  iterate 2 refine lmv rfl rfl rfl rfl rfl ?_
  refine xlz (op_lenS rfl rfl rfl ty9) ?_
  refine xlz (o_slS rfl rfl rfl ty9 (.some rfl rfl (n := m.length) (by first | rfl | omega | (simp; done) | (simp; omega))) .none (by first | omega | (simp; omega) | (simp at *; omega)) (by first | omega | (simp; omega) | (simp at *; omega))) ?_
  iterate 2 refine las rfl rfl rfl rfl rfl ?_
  refine lendF ?_
  refine awp_ret ?_
  refine ⟨[_, _], ⟨rfl, rfl, trivial⟩, ?_⟩
  rw [hc]
  exact ent_d2 rfl (by simp [List.take_of_length_le]) rfl rfl

set_option maxRecDepth 10000 in
theorem c150 (s m : Bytes) (hs : s.length ≤ 100000) (hm : m.length ≤ 100000) : Fn PR 150 [.d (.str s), .d (.str m)] [] [.d (.str (cutP s m).1), .d (.bool (cutP s m).2)] [] := by
 refine fn_of_awp Tryz.func150 rfl (N := 11) rfl ?_
 refine xsr ?_
 iterate 2 refine las rfl rfl rfl rfl rfl ?_
 refine lendF ?_
 refine xsr ?_
 iterate 2 refine lmv rfl rfl rfl rfl rfl ?_
 refine xlz (o_call (c175 s m hs hm) rfl rfl rfl ca175 rfl rfl) ?_
 refine xlz (op_extract rfl rfl rfl rfl) ?_
 refine xlz (op_extract rfl rfl rfl rfl) ?_
 iterate 2 refine las rfl rfl rfl rfl rfl ?_
 refine lendF ?_
 refine awp_ret ?_
 refine ⟨[_, _], ⟨rfl, rfl, trivial⟩, ?_⟩
 exact ent_d2 rfl (by first | rfl | simp_all) rfl (by first | rfl | simp_all)

set_option maxRecDepth 10000 in
theorem c173 (s : Bytes) (c : UInt8) : Fn PR 173 [.d (.str s), .d (.str [c])] [] [.d (I ((s.count c : Nat) : Int))] [] := by
 refine fn_of_awp Tryz.func173 rfl (N := 34) rfl ?_
 refine xsr ?_
 refine las rfl rfl rfl rfl rfl ?_
 refine lendF ?_
 refine awp_seq ?_
 refine xsr ?_
 refine lmv rfl rfl rfl rfl rfl ?_
 refine xlz (op_lenS rfl rfl rfl ty9) ?_
 refine xlz (op_binI rfl rfl rfl rfl rfl (.inl rfl) rfl) ?_
 refine lendF ?_
 refine awp_condF rfl rfl rfl ?_
 refine awp_skip ?_
 refine awp_seq ?_
 refine xsr ?_
 refine lmv rfl rfl rfl rfl rfl ?_
 refine xlz (op_lenS rfl rfl rfl ty9) ?_
 refine xlz (op_binI rfl rfl rfl rfl rfl (.inl rfl) rfl) ?_
 refine lendF ?_
 refine awp_condT rfl rfl rfl ?_
 refine xsr ?_
 iterate 2 refine lmv rfl rfl rfl rfl rfl ?_
 refine xlz (o_idxS (0) rfl rfl rfl rfl ty9 (by first | rfl | omega | (simp; done) | (simp; omega)) (show [c][0]? = some c from rfl)) ?_
 refine xlz (op_countS rfl ext187 rfl rfl rfl rfl rfl) ?_
 refine las rfl rfl rfl rfl rfl ?_
 refine lendF ?_
 refine awp_ret ?_
 refine ⟨[_], ⟨rfl, trivial⟩, ?_⟩
 exact ent_d1 rfl (by first | rfl | simp_all)

set_option maxRecDepth 10000 in
theorem c129 (s : Bytes) (c : UInt8) (hs : s.length ≤ 100000) : Fn PR 129 [.d (.str s), .d (.int .u8 c.toNat)] [] [.d (I (lastIx s c s.length))] [] := by
 refine fn_of_awp Tryz.func129 rfl (N := 19) rfl ?_
 refine xsr ?_
 refine las rfl rfl rfl rfl rfl ?_
 refine lendF ?_
 refine awp_seq ?_
 refine xsr ?_
 refine lmv rfl rfl rfl rfl rfl ?_
 refine xlz (op_lenS rfl rfl rfl ty9) ?_
 refine xlz (o_sub rfl rfl rfl rfl (by first | omega | (simp; omega) | (simp at *; omega))) ?_
 refine las rfl rfl rfl rfl rfl ?_
 refine lendF ?_
 refine awp_block ?_
 refine awp_loop (fun k => ⟨19, [(5, .d (I ((k : Nat) - 1 : Int))), (0, .d (.str s)), (1, .d (.int .u8 c.toNat))], []⟩) (fun k => k) (fun k => k ≤ s.length ∧ lastIx s c k = lastIx s c s.length) s.length ?_ ?_ ?_
 ·
  exact ent_k [] rfl rfl ((by repeat (first | exact .nil | refine xkc ?_))) obs_nil rfl
 ·
  exact ⟨Nat.le_refl _, rfl⟩
 ·
  rintro k ⟨hk, hI⟩
  refine awp_seq ?_
  refine xsr ?_
  refine lmv rfl rfl rfl rfl rfl ?_
  refine xlz (op_binI rfl rfl rfl rfl rfl (.inl rfl) rfl) ?_
  refine lendF ?_
  refine awp_cond rfl rfl (fun hc1 => ?_) (fun hc1 => ?_)
  ·
   have hk0 : 0 < k := by have := hc1; simp at this; omega
   obtain ⟨x, hn⟩ : ∃ x, s[k - 1]? = some x := ⟨_, List.getElem?_eq_getElem (by omega)⟩
   refine awp_skip ?_
   refine awp_seq ?_
   refine awp_block ?_
   refine xsr ?_
   iterate 2 refine lmv rfl rfl rfl rfl rfl ?_
   refine xlz (o_idxS ((k - 1)) rfl rfl rfl rfl ty9 (by first | rfl | omega | (simp; done) | (simp; omega)) hn) ?_
   refine lmv rfl rfl rfl rfl rfl ?_
   refine xlz (op_binI rfl rfl rfl rfl rfl (.inl rfl) rfl) ?_
   refine lendF ?_
   refine awp_cond rfl rfl (fun hc2 => ?_) (fun hc2 => ?_)
   ·
    have hx : x = c := by have := hc2; rw [eqB] at this; simpa using this
    refine xsr ?_
    refine lmv rfl rfl rfl rfl rfl ?_
    refine las rfl rfl rfl rfl rfl ?_
    refine lendF ?_
    refine awp_ret ?_
    refine ⟨[_], ⟨rfl, trivial⟩, ?_⟩
    first | exact ent_i rfl (by rw [← hI, show k = k - 1 + 1 from by omega, lastIx, if_pos (by rw [hn, hx])]; omega) | exact ent_i rfl (by rw [← hI, hk0]; rfl)
   ·
    have hx : ¬ x = c := by have := hc2; rw [eqB] at this; simpa using this
    refine awp_skip ?_
    refine awp_region mixed ?_
    refine lmv rfl rfl rfl rfl rfl ?_
    refine xlz (o_sub rfl rfl rfl rfl (by first | omega | (simp; omega) | (simp at *; omega))) ?_
    refine las rfl rfl rfl rfl rfl ?_
    refine lendF ?_
    refine ⟨(k - 1), ?_, ?_, ?_⟩
    ·
     exact ⟨by omega, by rw [← hI, show k = k - 1 + 1 from by omega, lastIx, if_neg (by rw [hn]; simp; exact hx)]; rfl⟩
    ·
     exact ent_k [] rfl rfl (.cons rfl (k_i (by omega)) <| (by repeat (first | exact .nil | refine xkc ?_))) obs_nil rfl
    ·
     omega
  ·
   have hk0 : k = 0 := by have := hc1; simp at this; omega
   refine awp_exit ?_
   refine xsr ?_
   refine las rfl rfl rfl rfl rfl ?_
   refine lendF ?_
   refine awp_ret ?_
   refine ⟨[_], ⟨rfl, trivial⟩, ?_⟩
   first | exact ent_i rfl (by rw [← hI, show k = k - 1 + 1 from by omega, lastIx, if_pos (by rw [hn, hx])]; omega) | exact ent_i rfl (by rw [← hI, hk0]; rfl)

set_option maxRecDepth 10000 in
theorem c103 (s : Bytes) (c : UInt8) (hs : s.length ≤ 100000) : Fn PR 103 [.d (.str s), .d (.str [c])] [] [.d (I (lastIx s c s.length))] [] := by
 refine fn_of_awp Tryz.func103 rfl (N := 36) rfl ?_
 refine xsr ?_
 refine las rfl rfl rfl rfl rfl ?_
 refine lendF ?_
 refine xsr ?_
 refine lmv rfl rfl rfl rfl rfl ?_
 refine xlz (op_lenS rfl rfl rfl ty9) ?_
 refine las rfl rfl rfl rfl rfl ?_
 refine lendF ?_
 refine awp_seq ?_
 refine awp_block ?_
 refine xsr ?_
 refine lmv rfl rfl rfl rfl rfl ?_
 refine xlz (op_binI rfl rfl rfl rfl rfl (.inl rfl) rfl) ?_
 refine las rfl rfl rfl rfl rfl ?_
 refine lendF ?_
 refine awp_condF rfl rfl rfl ?_
 refine xsr ?_
 refine lmv rfl rfl rfl rfl rfl ?_
 refine xlz (op_binI rfl rfl rfl rfl rfl (.inl rfl) rfl) ?_
 refine las rfl rfl rfl rfl rfl ?_
 refine lendF ?_
 refine awp_condT rfl rfl rfl ?_
 refine xsr ?_
 iterate 2 refine lmv rfl rfl rfl rfl rfl ?_
 refine xlz (o_idxS (0) rfl rfl rfl rfl ty9 (by first | rfl | omega | (simp; done) | (simp; omega)) (show [c][0]? = some c from rfl)) ?_
 refine xlz (o_call (c129 s c hs) rfl rfl rfl ca129 rfl rfl) ?_
 refine las rfl rfl rfl rfl rfl ?_
 refine lendF ?_
 refine awp_ret ?_
 refine ⟨[_], ⟨rfl, trivial⟩, ?_⟩
 exact ent_d1 rfl (by first | rfl | simp_all)

end Go.Pm

namespace Go.Pm
open Go.Proofs

set_option maxRecDepth 10000 in
theorem c149 (s : Bytes) (hs : s.length ≤ 100000) : Fn PR 149 [.d (.str s), .d (.str [47]), .d (I 0), .d (I (-1))] [] [.d (.list ((segsF s).map .str))] [] := by
 refine fn_of_awp Tryz.func149 rfl (N := 66) rfl ?_
 have hcl := List.count_le_length (a := (47 : UInt8)) (l := s)
 refine xsr ?_
 refine las rfl rfl rfl rfl rfl ?_
 refine lendF ?_
 refine awp_seq ?_
 refine xsr ?_
 refine lmv rfl rfl rfl rfl rfl ?_
 refine xlz (op_binI rfl rfl rfl rfl rfl (.inl rfl) rfl) ?_
 refine lendF ?_
 refine awp_condF rfl rfl rfl ?_
 refine awp_skip ?_
 refine awp_seq ?_
 refine xsr ?_
 refine lmv rfl rfl rfl rfl rfl ?_
 refine xlz (op_binS rfl rfl rfl rfl rfl (fun h => by first | cases h | (simp; omega)) rfl) ?_
 refine lendF ?_
 refine awp_condF rfl rfl rfl ?_
 refine awp_skip ?_
 refine awp_seq ?_
 refine xsr ?_
 refine lmv rfl rfl rfl rfl rfl ?_
 refine xlz (op_binI rfl rfl rfl rfl rfl (.inl rfl) rfl) ?_
 refine lendF ?_
 refine awp_condT rfl rfl rfl ?_
 refine awp_region mixed ?_
 iterate 2 refine lmv rfl rfl rfl rfl rfl ?_
 refine xlz (o_call (c173 s 47) rfl rfl rfl ca173 rfl rfl) ?_
 refine xlz (o_add rfl rfl rfl rfl (by first | omega | (simp; omega) | (simp at *; omega))) ?_
 refine las rfl rfl rfl rfl rfl ?_
 refine lendF ?_
 refine xsr ?_
 iterate 2 refine lmv rfl rfl rfl rfl rfl ?_
 refine xlz (op_lenS rfl rfl rfl ty9) ?_
 refine xlz (o_add rfl rfl rfl rfl (by first | omega | (simp; omega) | (simp at *; omega))) ?_
 refine xlz (o_eqI (op_min rfl rfl rfl rfl rfl) (m' := (((s.count 47 + 1) : Nat) : Int)) (by split <;> omega)) ?_
 refine las rfl rfl rfl rfl rfl ?_
 refine lendF ?_
 refine xsr ?_
 refine lmv rfl rfl rfl rfl rfl ?_
 refine xlz (op_mkR (n := (s.count 47 + 1)) (zd := .str []) rfl rfl rfl rfl rfl ty71 ty9 (fun M w => .str []) rfl (by decide) (by omega) (by omega) rfl (by decide)) ?_
 refine las rfl rfl rfl rfl rfl ?_
 refine lendF ?_
 refine xsr ?_
 refine lmv rfl rfl rfl rfl rfl ?_
 refine xlz (o_sub rfl rfl rfl rfl (by first | omega | (simp; omega) | (simp at *; omega))) ?_
 refine las rfl rfl rfl rfl rfl ?_
 refine lendF ?_
 refine xsr ?_
 refine las rfl rfl rfl rfl rfl ?_
 refine lendF ?_
 refine awp_seq ?_
 refine awp_block ?_
 refine awp_loop (fun x => ⟨66, [(0, .d (.str x.1)), (9, .arr 500031 1 0 (s.count 47 + 1)), (10, .d (I (x.2.length : Nat))), (1, .d (.str [47])), (2, .d (I 0)), (3, .d (I ((((s.count 47 + 1) : Nat) : Int) - 1)))], [(500031, .arr 1 ((x.2 ++ List.replicate ((s.count 47 + 1) - x.2.length) []).map D.str))]⟩) (fun x => s.count 47 - x.2.length) (fun x => x.2.length ≤ s.count 47 ∧ x.2 ++ splitB x.1 = splitB s ∧ x.1.count 47 + x.2.length = s.count 47 ∧ x.1.length ≤ s.length) (s, []) ?_ ?_ ?_
 ·
  exact ent_k [(500031, 31)] rfl rfl (xkc <| .cons rfl (k_arr rfl rfl) <| (by repeat (first | exact .nil | refine xkc ?_))) (obs_cons rfl (ko_arr (by simp)) obs_nil) rfl
 ·
  exact ⟨Nat.zero_le _, rfl, rfl, Nat.le_refl _⟩
 ·
  rintro ⟨t, d⟩ ⟨h1, h2, h3, h4⟩
  dsimp only at h1 h2 h3 h4 ⊢
  refine awp_seq ?_
  refine xsr ?_
  iterate 2 refine lmv rfl rfl rfl rfl rfl ?_
  refine xlz (op_binI rfl rfl rfl rfl rfl (.inl rfl) rfl) ?_
  refine lendF ?_
  refine awp_cond rfl rfl (fun hc4 => ?_) (fun hc4 => ?_)
  ·
   have hi : d.length < s.count 47 := by have := hc4; simp at this; omega
   refine awp_skip ?_
   refine awp_block ?_
   refine xsr ?_
   iterate 2 refine lmv rfl rfl rfl rfl rfl ?_
   refine xlz (o_call (c174 t [47] (by omega)) rfl rfl rfl ca174 rfl rfl) ?_
   refine las rfl rfl rfl rfl rfl ?_
   refine lendF ?_
   refine awp_seq ?_
   refine xsr ?_
   refine lmv rfl rfl rfl rfl rfl ?_
   refine xlz (op_binI rfl rfl rfl rfl rfl (.inl rfl) rfl) ?_
   refine lendF ?_
   refine awp_cond rfl rfl (fun hc5 => ?_) (fun hc5 => ?_)
   ·
    exact absurd (count_none_neg (by rw [ixS_one] at hc5; simpa using hc5)) (by omega)
   ·
    obtain ⟨o, ho, ho2, ho3⟩ := ixB_some (l := t) (c := 47) (by rw [← ixS_one]; have := hc5; simp at this; exact this)
    rw [← ixS_one] at ho
    have hol := rng_le ho2
    have hzd := rep_get (d := d) (N := (s.count 47 + 1)) (by omega)
    refine awp_skip ?_
    refine xsr ?_
    iterate 5 refine lmv rfl rfl rfl rfl rfl ?_
    refine xlz (o_add rfl rfl rfl rfl (by first | omega | (simp; omega) | (simp at *; omega))) ?_
    refine xlz (o_eqS (o_slS rfl rfl rfl ty9 .none (.some rfl rfl (n := o) (by first | rfl | omega | (simp; done) | (simp; omega))) (Nat.zero_le _) (by first | omega | (simp; omega) | (simp at *; omega))) (l' := t.take o) (by simp)) ?_
    refine xlz (o_ixR' (d.length) rfl rfl rfl rfl ty71 ty9 (by first | rfl | omega | (simp; done) | (simp; omega)) (by omega) (Nat.zero_add _).symm) ?_
    refine xlz (op_storeE rfl rfl rfl rfl hzd rfl rfl rfl ty9 rfl rfl rfl) ?_
    refine lendF ?_
    refine xsr ?_
    iterate 3 refine lmv rfl rfl rfl rfl rfl ?_
    refine xlz (op_lenS rfl rfl rfl ty9) ?_
    refine xlz (o_add rfl rfl rfl rfl (by first | omega | (simp; omega) | (simp at *; omega))) ?_
    refine xlz (o_eqS (o_slS rfl rfl rfl ty9 (.some rfl rfl (n := (o + 1)) (by first | rfl | omega | (simp; done) | (simp; omega))) .none (by first | omega | (simp; omega) | (simp at *; omega)) (by first | omega | (simp; omega) | (simp at *; omega))) (l' := t.drop (o + 1)) (by simp [List.take_of_length_le])) ?_
    refine las rfl rfl rfl rfl rfl ?_
    refine lendF ?_
    refine awp_region mixed ?_
    refine lmv rfl rfl rfl rfl rfl ?_
    refine xlz (o_add rfl rfl rfl rfl (by first | omega | (simp; omega) | (simp at *; omega))) ?_
    refine las rfl rfl rfl rfl rfl ?_
    refine lendF ?_
    refine ⟨(t.drop (o + 1), d ++ [t.take o]), ?_, ?_, ?_⟩
    ·
     exact ⟨by show (d ++ [t.take o]).length ≤ _; simp; omega, by show (d ++ [t.take o]) ++ splitB (t.drop (o + 1)) = _; rw [← h2, splitB_some ho2 ho3]; simp, by show (t.drop (o + 1)).count 47 + (d ++ [t.take o]).length = _; have := count_some ho2 ho3; simp; omega, by show (t.drop (o + 1)).length ≤ _; simp; omega⟩
    ·
     exact ent_k [] rfl rfl (xkc <| .cons rfl (k_arr rfl rfl) <| .cons rfl (k_i (by simp)) <| (by repeat (first | exact .nil | refine xkc ?_))) (obs_cons rfl (ko_arr (rep_set (t.take o) (by omega))) obs_nil) rfl
    ·
     show s.count 47 - (d ++ [t.take o]).length < s.count 47 - d.length; simp; omega
  ·
   have hi : d.length = s.count 47 := by have := hc4; simp at this; omega
   have hsp := splitB_none (count_none (s := t) (by omega))
   refine awp_exit ?_
   refine awp_seq ?_
   have hzd := rep_get (d := d) (N := (s.count 47 + 1)) (by omega)
   refine awp_region mixed ?_
   iterate 3 refine lmv rfl rfl rfl rfl rfl ?_
   refine xlz (o_ixR' (d.length) rfl rfl rfl rfl ty71 ty9 (by first | rfl | omega | (simp; done) | (simp; omega)) (by omega) (Nat.zero_add _).symm) ?_
   refine xlz (op_storeE rfl rfl rfl rfl hzd rfl rfl rfl ty9 rfl rfl rfl) ?_
   refine lendF ?_
   refine xsr ?_
   iterate 2 refine lmv rfl rfl rfl rfl rfl ?_
   refine xlz (o_add rfl rfl rfl rfl (by first | omega | (simp; omega) | (simp at *; omega))) ?_
   refine xlz (o_slR rfl rfl rfl ty71 ty9 .none (.some rfl rfl (n := (d.length + 1)) (by first | rfl | omega | (simp; done) | (simp; omega))) (by omega) (by omega)) ?_
   refine las rfl rfl rfl rfl rfl ?_
   refine lendF ?_
   refine awp_ret ?_
   refine ⟨[_], ⟨rfl, trivial⟩, ?_⟩
   exact ent_fz1 (ds := ((d ++ [t]) ++ List.replicate ((s.count 47 + 1) - (d ++ [t]).length) []).map D.str) (by rw [← rep_set t (by omega)]; rfl) (by first | (simp; done) | (simp; omega)) (by rw [show 0 + 0 = 0 from rfl, show d.length + 1 - 0 = (d ++ [t]).length from by simp, rep_take, segsF_split, ← h2, hsp])

set_option maxRecDepth 10000 in
theorem c122 (s : Bytes) (hs : s.length ≤ 100000) : Fn PR 122 [.d (.str s), .d (.str [47])] [] [.d (.list ((segsF s).map .str))] [] := by
 refine fn_of_awp Tryz.func122 rfl (N := 8) rfl ?_
 refine xsr ?_
 refine las rfl rfl rfl rfl rfl ?_
 refine lendF ?_
 refine xsr ?_
 iterate 2 refine lmv rfl rfl rfl rfl rfl ?_
 refine xlz (o_call (c149 s hs) rfl rfl rfl ca149 rfl rfl) ?_
 refine las rfl rfl rfl rfl rfl ?_
 refine lendF ?_
 refine awp_ret ?_
 refine ⟨[_], ⟨rfl, trivial⟩, ?_⟩
 exact ent_d1 rfl (by first | rfl | simp_all)

end Go.Pm

namespace Go.Pm
open Go.Proofs

set_option maxRecDepth 10000 in
theorem c123 (s : Bytes) (hs : s.length ≤ 100000) : Fn PR 123 [.d (.str s)] [] [.d (I (verF s).1), .d (.bool (verF s).2)] [] := by
 refine fn_of_awp Tryz.func123 rfl (N := 53) rfl ?_
 have hTv := majF_v (s := s)
 have hTn := majF_nv (s := s)
 have hTl : (cutP s [118]).2 = true → (cutP s [118]).1.length + 1 = s.length := fun h => by have := congrArg List.length (cutP_v h); simp at this; omega
 refine xsr ?_
 iterate 2 refine las rfl rfl rfl rfl rfl ?_
 refine lendF ?_
 refine xsr ?_
 refine lmv rfl rfl rfl rfl rfl ?_
 refine xlz (o_call (c150 s [118] hs (by decide)) rfl rfl rfl ca150 rfl rfl) ?_
 refine lmv rfl rfl rfl rfl rfl ?_
 refine xlz (op_extract rfl rfl rfl rfl) ?_
 refine xlz (op_extract rfl rfl rfl rfl) ?_
 iterate 2 refine las rfl rfl rfl rfl rfl ?_
 refine lendF ?_
 refine awp_seq ?_
 refine xsr ?_
 refine lmv rfl rfl rfl rfl rfl ?_
 refine xlz (op_not rfl rfl rfl) ?_
 refine lmv rfl rfl rfl rfl rfl ?_
 refine lsplit rfl (fun hg1 => ?_) (fun hg1 => ?_)
 ·
  have hok : (cutP s [118]).2 = true := by (have h := (g01 hg1)); simpa using h
  have hM := hTv hok
  have hl := hTl hok
  refine gmv hg1 rfl rfl rfl rfl rfl ?_
  refine lg (op_binS rfl rfl rfl rfl rfl (fun h => by first | cases h | (simp; omega)) rfl) rfl hg1 rfl rfl ?_
  refine xlz (o_pF rfl rfl (g01 hg1) rfl rfl) ?_
  refine lmv rfl rfl rfl rfl rfl ?_
  refine lsplit rfl (fun hg2 => ?_) (fun hg2 => ?_)
  ·
   have hT0 : 0 < (cutP s [118]).1.length := by (have h := (g01 hg2)); simp at h; exact List.length_pos_iff.2 h
   refine gmv hg2 rfl rfl rfl rfl rfl ?_
   refine lg (op_lenS rfl rfl rfl ty9) rfl hg2 rfl rfl ?_
   refine lg (op_binI rfl rfl rfl rfl rfl (.inl rfl) rfl) rfl hg2 rfl rfl ?_
   refine xlz (o_pF rfl rfl (g01 hg2) rfl rfl) ?_
   refine lmv rfl rfl rfl rfl rfl ?_
   refine lsplit rfl (fun hg3 => ?_) (fun hg3 => ?_)
   ·
    have hT3 : (cutP s [118]).1.length ≤ 3 := by (have h := (g01 hg3)); simp at h; omega
    have hH1 : ¬ ((cutP s [118]).1.length < 1 ∨ (cutP s [118]).1.length > 3) := by omega
    refine gmv hg3 rfl rfl rfl rfl rfl ?_
    refine lg (op_lenS rfl rfl rfl ty9) rfl hg3 rfl rfl ?_
    refine lg (op_binI rfl rfl rfl rfl rfl (.inl rfl) rfl) rfl hg3 rfl rfl ?_
    refine gmv hg3 rfl rfl rfl rfl rfl ?_
    refine lsplit rfl (fun hg4 => ?_) (fun hg4 => ?_)
    ·
     have hT1 : (cutP s [118]).1.length > 1 := by (have h := (g11 hg4)); simp at h; omega
     obtain ⟨c, hc0⟩ : ∃ c, (cutP s [118]).1[0]? = some c := ⟨_, List.getElem?_eq_getElem (by omega)⟩
     have hgc : (cutP s [118]).1.getD 0 0 = c := getD_get hc0
     refine gmv hg4 rfl rfl rfl rfl rfl ?_
     refine lg (o_idxS (0) rfl rfl rfl rfl ty9 (by first | rfl | omega | (simp; done) | (simp; omega)) hc0) rfl hg4 rfl rfl ?_
     refine lg (op_binI rfl rfl rfl rfl rfl (.inl rfl) rfl) rfl hg4 rfl rfl ?_
     refine lg (o_pT rfl rfl (g11 hg4) rfl rfl) rfl hg3 rfl rfl ?_
     refine xlz (o_pF rfl rfl (g01 hg3) rfl rfl) ?_
     refine lmv rfl rfl rfl rfl rfl ?_
     refine lsplit rfl (fun hg5 => ?_) (fun hg5 => ?_)
     ·
      have hH2 : ¬ ((cutP s [118]).1.getD 0 0 = 48 ∧ (cutP s [118]).1.length > 1) := by rw [hgc]; (have h := (g01 hg5)); rw [show (48 : Int) = ((48 : UInt8).toNat : Int) from rfl, eqB] at h; simp at h; exact fun e => h e.1
      refine gmv hg5 rfl rfl rfl rfl rfl ?_
      refine lg (o_call (c125 128 digitB ca128 c128 (cutP s [118]).1 (by omega)) rfl rfl rfl ca125 rfl rfl) rfl hg5 rfl rfl ?_
      refine lg (op_not rfl rfl rfl) rfl hg5 rfl rfl ?_
      refine xlz (o_pF rfl rfl (g01 hg5) rfl rfl) ?_
      refine lendF ?_
      refine awp_cond rfl rfl (fun hc6 => ?_) (fun hc6 => ?_)
      ·
       have hv : verF s = (0, false) := verF_no (by rw [hM, if_neg hH1, if_neg hH2, digs_no _ _ (by (have h := hc6); simpa using h)]; rfl)
       refine xsr ?_
       iterate 2 refine las rfl rfl rfl rfl rfl ?_
       refine lendF ?_
       refine awp_ret ?_
       refine ⟨[_, _], ⟨rfl, rfl, trivial⟩, ?_⟩
       rw [hv]
       first | exact ent_d2 rfl rfl rfl rfl | exact ent_d2 rfl (by rw [hie, List.drop_length, hdv] at hI; simp [digs] at hI; rw [hI]) rfl rfl
      ·
       have hall : (cutP s [118]).1.all digitB = true := by (have h := hc6); simpa using h
       obtain ⟨v, hdv⟩ := digs_all (cutP s [118]).1 0 hall
       have hv0 := digs_ge _ _ _ (Int.le_refl 0) hdv
       have hv : verF s = (v, true) := verF_yes (by rw [hM, if_neg hH1, if_neg hH2, hdv]; rfl) hv0
       refine awp_skip ?_
       refine xsr ?_
       refine las rfl rfl rfl rfl rfl ?_
       refine lendF ?_
       refine awp_seq ?_
       refine xsr ?_
       refine lmv rfl rfl rfl rfl rfl ?_
       refine xlz (op_lenS rfl rfl rfl ty9) ?_
       refine lmv rfl rfl rfl rfl rfl ?_
       refine lendF ?_
       refine awp_block ?_
       refine awp_loop (fun x => ⟨53, [(5, .d (I x.2)), (40, .d (I (x.1 : Nat))), (0, .d (.str (cutP s [118]).1)), (39, .d (I (cutP s [118]).1.length))], []⟩) (fun x => (cutP s [118]).1.length - x.1) (fun x => x.1 ≤ (cutP s [118]).1.length ∧ 0 ≤ x.2 ∧ x.2 < (10 : Int) ^ x.1 ∧ digs ((cutP s [118]).1.drop x.1) x.2 = digs (cutP s [118]).1 0) (0, 0) ?_ ?_ ?_
       ·
        exact ent_k [] rfl rfl ((by repeat (first | exact .nil | refine xkc ?_))) obs_nil rfl
       ·
        exact ⟨Nat.zero_le _, Int.le_refl _, by decide, rfl⟩
       ·
        rintro ⟨i, n⟩ ⟨hi, h2, h3, hI⟩
        dsimp only at hi h2 h3 hI ⊢
        refine xsr ?_
        refine xlz (op_binI rfl rfl rfl rfl rfl (.inl rfl) rfl) ?_
        refine lendF ?_
        refine awp_seq ?_
        refine awp_cond rfl rfl (fun hc7 => ?_) (fun hc7 => ?_)
        ·
         obtain ⟨x, hn⟩ := rng_lt (l := (cutP s [118]).1) hc7
         have hlt := rng_le hn
         have hp10 : (10 : Int) ^ i ≤ 100 := by (have : i = 0 ∨ i = 1 ∨ i = 2 := by omega); rcases this with rfl | rfl | rfl <;> decide
         have hdx : digitB x = true := List.all_eq_true.1 hall x (List.mem_of_getElem? hn)
         have hdr : 48 ≤ (x.toNat : Int) ∧ (x.toNat : Int) ≤ 57 := by simpa [digitB] using hdx
         refine awp_skip ?_
         refine awp_seq ?_
         refine awp_block ?_
         refine xsr ?_
         refine lmv rfl rfl rfl rfl rfl ?_
         refine las rfl rfl rfl rfl rfl ?_
         refine lendF ?_
         refine awp_region mixed ?_
         refine lmv rfl rfl rfl rfl rfl ?_
         refine xlz (o_mul rfl rfl rfl rfl (by first | omega | (simp; omega) | (simp at *; omega))) ?_
         iterate 2 refine lmv rfl rfl rfl rfl rfl ?_
         refine xlz (o_idxS (i) rfl rfl rfl rfl ty9 (by first | rfl | omega | (simp; done) | (simp; omega)) hn) ?_
         refine xlz (o_eqI (op_binI rfl rfl rfl rfl rfl (.inl rfl) rfl) (wrapU8 (by omega) (by omega))) ?_
         refine xlz (o_eqI (op_convI rfl rfl rfl ty5 ty3) (wrap64 (by omega) (by omega))) ?_
         refine xlz (o_add rfl rfl rfl rfl (by first | omega | (simp; omega) | (simp at *; omega))) ?_
         refine las rfl rfl rfl rfl rfl ?_
         refine lendF ?_
         refine awp_region mixed ?_
         refine xlz (o_add rfl rfl rfl rfl (by first | omega | (simp; omega) | (simp at *; omega))) ?_
         refine lmv rfl rfl rfl rfl rfl ?_
         refine lendF ?_
         refine ⟨(i + 1, 10 * n + ((x.toNat : Int) - 48)), ?_, ?_, ?_⟩
         ·
          exact ⟨rng_le hn, by show 0 ≤ 10 * n + ((x.toNat : Int) - 48); omega, by show 10 * n + ((x.toNat : Int) - 48) < (10 : Int) ^ (i + 1); rw [Int.pow_succ]; omega, by show digs (List.drop (i + 1) _) _ = _; rw [← hI, drop_cons hn, digs, if_pos hdx]⟩
         ·
          exact ent_k [] rfl rfl ((by repeat (first | exact .nil | refine xkc ?_))) obs_nil rfl
         ·
          show (cutP s [118]).1.length - (i + 1) < (cutP s [118]).1.length - i; omega
        ·
         have hie := rng_ge (l := (cutP s [118]).1) hc7 hi
         refine awp_exit ?_
         refine xsr ?_
         refine lmv rfl rfl rfl rfl rfl ?_
         iterate 2 refine las rfl rfl rfl rfl rfl ?_
         refine lendF ?_
         refine awp_ret ?_
         refine ⟨[_, _], ⟨rfl, rfl, trivial⟩, ?_⟩
         rw [hv]
         first | exact ent_d2 rfl rfl rfl rfl | exact ent_d2 rfl (by rw [hie, List.drop_length, hdv] at hI; simp [digs] at hI; rw [hI]) rfl rfl
     ·
      have hv : verF s = (0, false) := verF_no (by rw [hM, if_neg hH1, if_pos ⟨by rw [hgc]; (have h := (g00 hg5)); rw [show (48 : Int) = ((48 : UInt8).toNat : Int) from rfl, eqB] at h; simpa using h, hT1⟩])
      iterate 3 refine lskip rfl hg5 rfl ?_
      refine xlz (o_pT rfl rfl (g00 hg5) rfl rfl) ?_
      refine lendF ?_
      refine awp_condT rfl rfl rfl ?_
      refine xsr ?_
      iterate 2 refine las rfl rfl rfl rfl rfl ?_
      refine lendF ?_
      refine awp_ret ?_
      refine ⟨[_, _], ⟨rfl, rfl, trivial⟩, ?_⟩
      rw [hv]
      first | exact ent_d2 rfl rfl rfl rfl | exact ent_d2 rfl (by rw [hie, List.drop_length, hdv] at hI; simp [digs] at hI; rw [hI]) rfl rfl
    ·
     have hH2 : ¬ ((cutP s [118]).1.getD 0 0 = 48 ∧ (cutP s [118]).1.length > 1) := by (have h := (g10 hg4)); simp at h; omega
     iterate 3 refine lskip rfl hg4 rfl ?_
     refine lg (o_pF rfl rfl (g10 hg4) rfl rfl) rfl hg3 rfl rfl ?_
     refine xlz (o_pF rfl rfl (g01 hg3) rfl rfl) ?_
     refine lmv rfl rfl rfl rfl rfl ?_
     refine gmv rfl rfl rfl rfl rfl rfl ?_
     refine lg (o_call (c125 128 digitB ca128 c128 (cutP s [118]).1 (by omega)) rfl rfl rfl ca125 rfl rfl) rfl rfl rfl rfl ?_
     refine lg (op_not rfl rfl rfl) rfl rfl rfl rfl ?_
     refine xlz (o_pF rfl rfl rfl rfl rfl) ?_
     refine lendF ?_
     refine awp_cond rfl rfl (fun hc9 => ?_) (fun hc9 => ?_)
     ·
      have hv : verF s = (0, false) := verF_no (by rw [hM, if_neg hH1, if_neg hH2, digs_no _ _ (by (have h := hc9); simpa using h)]; rfl)
      refine xsr ?_
      iterate 2 refine las rfl rfl rfl rfl rfl ?_
      refine lendF ?_
      refine awp_ret ?_
      refine ⟨[_, _], ⟨rfl, rfl, trivial⟩, ?_⟩
      rw [hv]
      first | exact ent_d2 rfl rfl rfl rfl | exact ent_d2 rfl (by rw [hie, List.drop_length, hdv] at hI; simp [digs] at hI; rw [hI]) rfl rfl
     ·
      have hall : (cutP s [118]).1.all digitB = true := by (have h := hc9); simpa using h
      obtain ⟨v, hdv⟩ := digs_all (cutP s [118]).1 0 hall
      have hv0 := digs_ge _ _ _ (Int.le_refl 0) hdv
      have hv : verF s = (v, true) := verF_yes (by rw [hM, if_neg hH1, if_neg hH2, hdv]; rfl) hv0
      refine awp_skip ?_
      refine xsr ?_
      refine las rfl rfl rfl rfl rfl ?_
      refine lendF ?_
      refine awp_seq ?_
      refine xsr ?_
      refine lmv rfl rfl rfl rfl rfl ?_
      refine xlz (op_lenS rfl rfl rfl ty9) ?_
      refine lmv rfl rfl rfl rfl rfl ?_
      refine lendF ?_
      refine awp_block ?_
      refine awp_loop (fun x => ⟨53, [(5, .d (I x.2)), (40, .d (I (x.1 : Nat))), (0, .d (.str (cutP s [118]).1)), (39, .d (I (cutP s [118]).1.length))], []⟩) (fun x => (cutP s [118]).1.length - x.1) (fun x => x.1 ≤ (cutP s [118]).1.length ∧ 0 ≤ x.2 ∧ x.2 < (10 : Int) ^ x.1 ∧ digs ((cutP s [118]).1.drop x.1) x.2 = digs (cutP s [118]).1 0) (0, 0) ?_ ?_ ?_
      ·
       exact ent_k [] rfl rfl ((by repeat (first | exact .nil | refine xkc ?_))) obs_nil rfl
      ·
       exact ⟨Nat.zero_le _, Int.le_refl _, by decide, rfl⟩
      ·
       rintro ⟨i, n⟩ ⟨hi, h2, h3, hI⟩
       dsimp only at hi h2 h3 hI ⊢
       refine xsr ?_
       refine xlz (op_binI rfl rfl rfl rfl rfl (.inl rfl) rfl) ?_
       refine lendF ?_
       refine awp_seq ?_
       refine awp_cond rfl rfl (fun hc10 => ?_) (fun hc10 => ?_)
       ·
        obtain ⟨x, hn⟩ := rng_lt (l := (cutP s [118]).1) hc10
        have hlt := rng_le hn
        have hp10 : (10 : Int) ^ i ≤ 100 := by (have : i = 0 ∨ i = 1 ∨ i = 2 := by omega); rcases this with rfl | rfl | rfl <;> decide
        have hdx : digitB x = true := List.all_eq_true.1 hall x (List.mem_of_getElem? hn)
        have hdr : 48 ≤ (x.toNat : Int) ∧ (x.toNat : Int) ≤ 57 := by simpa [digitB] using hdx
        refine awp_skip ?_
        refine awp_seq ?_
        refine awp_block ?_
        refine xsr ?_
        refine lmv rfl rfl rfl rfl rfl ?_
        refine las rfl rfl rfl rfl rfl ?_
        refine lendF ?_
        refine awp_region mixed ?_
        refine lmv rfl rfl rfl rfl rfl ?_
        refine xlz (o_mul rfl rfl rfl rfl (by first | omega | (simp; omega) | (simp at *; omega))) ?_
        iterate 2 refine lmv rfl rfl rfl rfl rfl ?_
        refine xlz (o_idxS (i) rfl rfl rfl rfl ty9 (by first | rfl | omega | (simp; done) | (simp; omega)) hn) ?_
        refine xlz (o_eqI (op_binI rfl rfl rfl rfl rfl (.inl rfl) rfl) (wrapU8 (by omega) (by omega))) ?_
        refine xlz (o_eqI (op_convI rfl rfl rfl ty5 ty3) (wrap64 (by omega) (by omega))) ?_
        refine xlz (o_add rfl rfl rfl rfl (by first | omega | (simp; omega) | (simp at *; omega))) ?_
        refine las rfl rfl rfl rfl rfl ?_
        refine lendF ?_
        refine awp_region mixed ?_
        refine xlz (o_add rfl rfl rfl rfl (by first | omega | (simp; omega) | (simp at *; omega))) ?_
        refine lmv rfl rfl rfl rfl rfl ?_
        refine lendF ?_
        refine ⟨(i + 1, 10 * n + ((x.toNat : Int) - 48)), ?_, ?_, ?_⟩
        ·
         exact ⟨rng_le hn, by show 0 ≤ 10 * n + ((x.toNat : Int) - 48); omega, by show 10 * n + ((x.toNat : Int) - 48) < (10 : Int) ^ (i + 1); rw [Int.pow_succ]; omega, by show digs (List.drop (i + 1) _) _ = _; rw [← hI, drop_cons hn, digs, if_pos hdx]⟩
        ·
         exact ent_k [] rfl rfl ((by repeat (first | exact .nil | refine xkc ?_))) obs_nil rfl
        ·
         show (cutP s [118]).1.length - (i + 1) < (cutP s [118]).1.length - i; omega
       ·
        have hie := rng_ge (l := (cutP s [118]).1) hc10 hi
        refine awp_exit ?_
        refine xsr ?_
        refine lmv rfl rfl rfl rfl rfl ?_
        iterate 2 refine las rfl rfl rfl rfl rfl ?_
        refine lendF ?_
        refine awp_ret ?_
        refine ⟨[_, _], ⟨rfl, rfl, trivial⟩, ?_⟩
        rw [hv]
        first | exact ent_d2 rfl rfl rfl rfl | exact ent_d2 rfl (by rw [hie, List.drop_length, hdv] at hI; simp [digs] at hI; rw [hI]) rfl rfl
   ·
    have hv : verF s = (0, false) := verF_no (by rw [hM, if_pos (.inr (by (have h := (g00 hg3)); simp at h; omega))])
    iterate 4 refine lskip rfl hg3 rfl ?_
    iterate 3 refine lskip rfl rfl rfl ?_
    refine lskip rfl hg3 rfl ?_
    refine xlz (o_pT rfl rfl (g00 hg3) rfl rfl) ?_
    refine lmv rfl rfl rfl rfl rfl ?_
    iterate 3 refine lskip rfl rfl rfl ?_
    refine xlz (o_pT rfl rfl rfl rfl rfl) ?_
    refine lendF ?_
    refine awp_condT rfl rfl rfl ?_
    refine xsr ?_
    iterate 2 refine las rfl rfl rfl rfl rfl ?_
    refine lendF ?_
    refine awp_ret ?_
    refine ⟨[_, _], ⟨rfl, rfl, trivial⟩, ?_⟩
    rw [hv]
    first | exact ent_d2 rfl rfl rfl rfl | exact ent_d2 rfl (by rw [hie, List.drop_length, hdv] at hI; simp [digs] at hI; rw [hI]) rfl rfl
  ·
   have hv : verF s = (0, false) := verF_no (by rw [hM, if_pos (.inl (by (have h := (g00 hg2)); simp at h; simp [h]))])
   iterate 3 refine lskip rfl hg2 rfl ?_
   refine xlz (o_pT rfl rfl (g00 hg2) rfl rfl) ?_
   refine lmv rfl rfl rfl rfl rfl ?_
   iterate 8 refine lskip rfl rfl rfl ?_
   refine xlz (o_pT rfl rfl rfl rfl rfl) ?_
   refine lmv rfl rfl rfl rfl rfl ?_
   iterate 3 refine lskip rfl rfl rfl ?_
   refine xlz (o_pT rfl rfl rfl rfl rfl) ?_
   refine lendF ?_
   refine awp_condT rfl rfl rfl ?_
   refine xsr ?_
   iterate 2 refine las rfl rfl rfl rfl rfl ?_
   refine lendF ?_
   refine awp_ret ?_
   refine ⟨[_, _], ⟨rfl, rfl, trivial⟩, ?_⟩
   rw [hv]
   first | exact ent_d2 rfl rfl rfl rfl | exact ent_d2 rfl (by rw [hie, List.drop_length, hdv] at hI; simp [digs] at hI; rw [hI]) rfl rfl
 ·
  have hv : verF s = (0, false) := by unfold verF; rw [if_pos (hTn (by (have h := (g00 hg1)); simpa using h))]
  iterate 2 refine lskip rfl hg1 rfl ?_
  refine xlz (o_pT rfl rfl (g00 hg1) rfl rfl) ?_
  refine lmv rfl rfl rfl rfl rfl ?_
  iterate 3 refine lskip rfl rfl rfl ?_
  refine xlz (o_pT rfl rfl rfl rfl rfl) ?_
  refine lmv rfl rfl rfl rfl rfl ?_
  iterate 8 refine lskip rfl rfl rfl ?_
  refine xlz (o_pT rfl rfl rfl rfl rfl) ?_
  refine lmv rfl rfl rfl rfl rfl ?_
  iterate 3 refine lskip rfl rfl rfl ?_
  refine xlz (o_pT rfl rfl rfl rfl rfl) ?_
  refine lendF ?_
  refine awp_condT rfl rfl rfl ?_
  refine xsr ?_
  iterate 2 refine las rfl rfl rfl rfl rfl ?_
  refine lendF ?_
  refine awp_ret ?_
  refine ⟨[_, _], ⟨rfl, rfl, trivial⟩, ?_⟩
  rw [hv]
  first | exact ent_d2 rfl rfl rfl rfl | exact ent_d2 rfl (by rw [hie, List.drop_length, hdv] at hI; simp [digs] at hI; rw [hI]) rfl rfl

set_option maxRecDepth 10000 in
theorem c101 (p : Bytes) (hs : p.length ≤ 100000) : Fn PR 101 [.d (.str p)] [] [.d (I (majorF p).1), .d (I (majorF p).2)] [] := by
 refine fn_of_awp Tryz.func101 rfl (N := 49) rfl ?_
 have hsl := segsF_len p
 have hsp := segsF_pos p
 obtain ⟨z, hz⟩ := last_get hsp
 have hgz := getD_get (d := []) hz
 refine xsr ?_
 iterate 2 refine las rfl rfl rfl rfl rfl ?_
 refine lendF ?_
 refine xsr ?_
 refine lmv rfl rfl rfl rfl rfl ?_
 refine xlz (o_call (c122 p hs) rfl rfl rfl ca122 rfl rfl) ?_
 refine las rfl rfl rfl rfl rfl ?_
 refine lendF ?_
 refine xsr ?_
 iterate 2 refine lmv rfl rfl rfl rfl rfl ?_
 refine xlz (o_lenE (n := (segsF p).length) rfl rfl rfl ty71 (by simp)) ?_
 refine xlz (o_sub rfl rfl rfl rfl (by first | omega | (simp; omega) | (simp at *; omega))) ?_
 refine xlz (o_ixN (((segsF p).length - 1)) rfl rfl rfl rfl ty71 (by first | rfl | omega | (simp; done) | (simp; omega)) hz ty9) ?_
 refine xlz (op_loadC1 rfl rfl rfl ty9 rfl rfl) ?_
 refine xlz (o_call (c123 z (by have := segsF_mem p z (List.mem_of_getElem? hz); omega)) rfl rfl rfl ca123 rfl rfl) ?_
 refine lmv rfl rfl rfl rfl rfl ?_
 refine xlz (op_extract rfl rfl rfl rfl) ?_
 refine xlz (op_extract rfl rfl rfl rfl) ?_
 iterate 2 refine las rfl rfl rfl rfl rfl ?_
 refine lendF ?_
 refine awp_seq ?_
 refine xsr ?_
 refine lmv rfl rfl rfl rfl rfl ?_
 refine xlz (op_not rfl rfl rfl) ?_
 refine lmv rfl rfl rfl rfl rfl ?_
 refine lsplit rfl (fun hg1 => ?_) (fun hg1 => ?_)
 ·
  have hok : ¬ majF z < 0 := by (have h := (g01 hg1)); unfold verF at h; split at h; (simp at h); (assumption)
  refine gmv hg1 rfl rfl rfl rfl rfl ?_
  refine lg (op_lenS rfl rfl rfl ty9) rfl hg1 rfl rfl ?_
  refine lg (op_binI rfl rfl rfl rfl rfl (.inl rfl) rfl) rfl hg1 rfl rfl ?_
  refine xlz (o_pF rfl rfl (g01 hg1) rfl rfl) ?_
  refine lmv rfl rfl rfl rfl rfl ?_
  refine lsplit rfl (fun hg2 => ?_) (fun hg2 => ?_)
  ·
   have h64 : ¬ p.length > 64 := by (have h := (g01 hg2)); simp at h; omega
   refine gmv hg2 rfl rfl rfl rfl rfl ?_
   refine lg (o_lenE (n := (segsF p).length) rfl rfl rfl ty71 (by simp)) rfl hg2 rfl rfl ?_
   refine lg (op_binI rfl rfl rfl rfl rfl (.inl rfl) rfl) rfl hg2 rfl rfl ?_
   refine xlz (o_pF rfl rfl (g01 hg2) rfl rfl) ?_
   refine lendF ?_
   refine awp_cond rfl rfl (fun hc3 => ?_) (fun hc3 => ?_)
   ·
    have hv : majorF p = (0, 4) := majorF_short (by (have h := hc3); simp at h; omega)
    refine xsr ?_
    iterate 2 refine las rfl rfl rfl rfl rfl ?_
    refine lendF ?_
    refine awp_ret ?_
    refine ⟨[_, _], ⟨rfl, rfl, trivial⟩, ?_⟩
    first | (rw [hv]; exact ent_d2 rfl rfl rfl rfl) | (rw [majorF_seg (by rw [← hI, drop_cons hn]; simp_all)]; exact ent_d2 rfl rfl rfl rfl) | (have hall : (segsF p).all segOK = true := by rw [← hI, List.drop_length]; rfl); (rw [majorF_yes h64 hall h2 (by rw [hgz]; exact hok), hgz]; exact ent_d2 rfl (by unfold verF; rw [if_neg hok]) rfl rfl)
   ·
    have h2 : ¬ (segsF p).length < 2 := by (have h := hc3); simp at h; omega
    refine awp_skip ?_
    refine awp_seq ?_
    refine xsr ?_
    refine lmv rfl rfl rfl rfl rfl ?_
    refine xlz (o_lenE (n := (segsF p).length) rfl rfl rfl ty71 (by simp)) ?_
    refine lmv rfl rfl rfl rfl rfl ?_
    refine lendF ?_
    refine awp_block ?_
    refine awp_loop (fun i => ⟨49, [(35, .d (I (i : Nat))), (5, .d (I (verF z).1)), (33, .d (.list ((segsF p).map .str))), (34, .d (I (segsF p).length))], []⟩) (fun i => (segsF p).length - i) (fun i => i ≤ (segsF p).length ∧ ((segsF p).drop i).all segOK = (segsF p).all segOK) 0 ?_ ?_ ?_
    ·
     exact ent_k [] rfl rfl ((by repeat (first | exact .nil | refine xkc ?_))) obs_nil rfl
    ·
     exact ⟨Nat.zero_le _, rfl⟩
    ·
     rintro i ⟨hi, hI⟩
     refine xsr ?_
     refine xlz (op_binI rfl rfl rfl rfl rfl (.inl rfl) rfl) ?_
     refine lendF ?_
     refine awp_seq ?_
     refine awp_cond rfl rfl (fun hc4 => ?_) (fun hc4 => ?_)
     ·
      obtain ⟨x, hn⟩ := rng_lt (l := (segsF p)) (by simpa using hc4)
      have hlt := rng_le hn
      have hmem := List.mem_of_getElem? hn
      refine awp_skip ?_
      refine awp_seq ?_
      refine awp_block ?_
      refine xsr ?_
      refine xlz (o_ixN (i) rfl rfl rfl rfl ty71 (by first | rfl | omega | (simp; done) | (simp; omega)) hn ty9) ?_
      refine xlz (op_loadC1 rfl rfl rfl ty9 rfl rfl) ?_
      refine las rfl rfl rfl rfl rfl ?_
      refine lendF ?_
      refine awp_joinX (fun _ : Unit => ⟨49, [(46, .d (.bool (!segOK x))), (5, .d (I (verF z).1)), (8, .d (.str x)), (33, .d (.list ((segsF p).map .str))), (34, .d (I (segsF p).length)), (35, .d (I (i : Nat))), (38, .d (.str x))], []⟩) (fun _ : Unit => True) ?_ ?_
      ·
       refine awp_region mixed ?_
       refine lmv rfl rfl rfl rfl rfl ?_
       refine xlz (o_call (c124 x (by have := segsF_mem p x hmem; omega)) rfl rfl rfl ca124 rfl rfl) ?_
       refine xlz (op_not rfl rfl rfl) ?_
       refine lmv rfl rfl rfl rfl rfl ?_
       refine lsplit rfl (fun hg5 => ?_) (fun hg5 => ?_)
       ·
        refine gmv hg5 rfl rfl rfl rfl rfl ?_
        refine lg (o_call (c125 126 (fun c => smallB c || digitB c) ca126 c126 x (by have := segsF_mem p x hmem; omega)) rfl rfl rfl ca125 rfl rfl) rfl hg5 rfl rfl ?_
        refine lg (op_not rfl rfl rfl) rfl hg5 rfl rfl ?_
        refine xlz (o_pF rfl rfl (g01 hg5) rfl rfl) ?_
        refine lendF ?_
        refine ⟨(), ?_, ?_⟩
        ·
         exact True.intro
        ·
         exact ent_k [] rfl rfl (.cons rfl (k_b (by simp_all [segOK])) <| (by repeat (first | exact .nil | refine xkc ?_))) obs_nil rfl
       ·
        iterate 3 refine lskip rfl hg5 rfl ?_
        refine xlz (o_pT rfl rfl (g00 hg5) rfl rfl) ?_
        refine lendF ?_
        refine ⟨(), ?_, ?_⟩
        ·
         exact True.intro
        ·
         exact ent_k [] rfl rfl (.cons rfl (k_b (by simp_all [segOK])) <| (by repeat (first | exact .nil | refine xkc ?_))) obs_nil rfl
      ·
       rintro _ _
       refine awp_cond rfl rfl (fun hc6 => ?_) (fun hc6 => ?_)
       ·
        refine xsr ?_
        iterate 2 refine las rfl rfl rfl rfl rfl ?_
        refine lendF ?_
        refine awp_ret ?_
        refine ⟨[_, _], ⟨rfl, rfl, trivial⟩, ?_⟩
        first | (rw [hv]; exact ent_d2 rfl rfl rfl rfl) | (rw [majorF_seg (by rw [← hI, drop_cons hn]; simp_all)]; exact ent_d2 rfl rfl rfl rfl) | (have hall : (segsF p).all segOK = true := by rw [← hI, List.drop_length]; rfl); (rw [majorF_yes h64 hall h2 (by rw [hgz]; exact hok), hgz]; exact ent_d2 rfl (by unfold verF; rw [if_neg hok]) rfl rfl)
       ·
        refine awp_skip ?_
        refine awp_region mixed ?_
        refine xlz (o_add rfl rfl rfl rfl (by first | omega | (simp; omega) | (simp at *; omega))) ?_
        refine lmv rfl rfl rfl rfl rfl ?_
        refine lendF ?_
        refine ⟨i + 1, ?_, ?_, ?_⟩
        ·
         exact ⟨rng_le hn, by rw [← hI, drop_cons hn]; simp_all⟩
        ·
         exact ent_k [] rfl rfl ((by repeat (first | exact .nil | refine xkc ?_))) obs_nil rfl
        ·
         omega
     ·
      obtain rfl := rng_ge (l := (segsF p)) (by simpa using hc4) hi
      refine awp_exit ?_
      refine xsr ?_
      refine lmv rfl rfl rfl rfl rfl ?_
      iterate 2 refine las rfl rfl rfl rfl rfl ?_
      refine lendF ?_
      refine awp_ret ?_
      refine ⟨[_, _], ⟨rfl, rfl, trivial⟩, ?_⟩
      first | (rw [hv]; exact ent_d2 rfl rfl rfl rfl) | (rw [majorF_seg (by rw [← hI, drop_cons hn]; simp_all)]; exact ent_d2 rfl rfl rfl rfl) | (have hall : (segsF p).all segOK = true := by rw [← hI, List.drop_length]; rfl); (rw [majorF_yes h64 hall h2 (by rw [hgz]; exact hok), hgz]; exact ent_d2 rfl (by unfold verF; rw [if_neg hok]) rfl rfl)
  ·
   have hv : majorF p = (0, 4) := majorF_long (by (have h := (g00 hg2)); simp at h; omega)
   iterate 3 refine lskip rfl hg2 rfl ?_
   refine xlz (o_pT rfl rfl (g00 hg2) rfl rfl) ?_
   refine lendF ?_
   refine awp_condT rfl rfl rfl ?_
   refine xsr ?_
   iterate 2 refine las rfl rfl rfl rfl rfl ?_
   refine lendF ?_
   refine awp_ret ?_
   refine ⟨[_, _], ⟨rfl, rfl, trivial⟩, ?_⟩
   first | (rw [hv]; exact ent_d2 rfl rfl rfl rfl) | (rw [majorF_seg (by rw [← hI, drop_cons hn]; simp_all)]; exact ent_d2 rfl rfl rfl rfl) | (have hall : (segsF p).all segOK = true := by rw [← hI, List.drop_length]; rfl); (rw [majorF_yes h64 hall h2 (by rw [hgz]; exact hok), hgz]; exact ent_d2 rfl (by unfold verF; rw [if_neg hok]) rfl rfl)
 ·
  have hv : majorF p = (0, 4) := majorF_neg (by rw [hgz]; (have h := (g00 hg1)); unfold verF at h; split at h; (assumption); (simp at h))
  iterate 3 refine lskip rfl hg1 rfl ?_
  refine xlz (o_pT rfl rfl (g00 hg1) rfl rfl) ?_
  refine lmv rfl rfl rfl rfl rfl ?_
  iterate 3 refine lskip rfl rfl rfl ?_
  refine xlz (o_pT rfl rfl rfl rfl rfl) ?_
  refine lendF ?_
  refine awp_condT rfl rfl rfl ?_
  refine xsr ?_
  iterate 2 refine las rfl rfl rfl rfl rfl ?_
  refine lendF ?_
  refine awp_ret ?_
  refine ⟨[_, _], ⟨rfl, rfl, trivial⟩, ?_⟩
  first | (rw [hv]; exact ent_d2 rfl rfl rfl rfl) | (rw [majorF_seg (by rw [← hI, drop_cons hn]; simp_all)]; exact ent_d2 rfl rfl rfl rfl) | (have hall : (segsF p).all segOK = true := by rw [← hI, List.drop_length]; rfl); (rw [majorF_yes h64 hall h2 (by rw [hgz]; exact hok), hgz]; exact ent_d2 rfl (by unfold verF; rw [if_neg hok]) rfl rfl)

set_option maxRecDepth 10000 in
theorem c102 (p : Bytes) (hs : p.length ≤ 100000) : Fn PR 102 [.d (.str p)] [] [.d (.bool (isPath p))] [] := by
 refine fn_of_awp Tryz.func102 rfl (N := 12) rfl ?_
 refine xsr ?_
 refine las rfl rfl rfl rfl rfl ?_
 refine lendF ?_
 refine xsr ?_
 refine lmv rfl rfl rfl rfl rfl ?_
 refine xlz (o_call (c101 p hs) rfl rfl rfl ca101 rfl rfl) ?_
 refine lmv rfl rfl rfl rfl rfl ?_
 refine xlz (op_extract rfl rfl rfl rfl) ?_
 refine xlz (op_extract rfl rfl rfl rfl) ?_
 iterate 2 refine las rfl rfl rfl rfl rfl ?_
 refine lendF ?_
 refine xsr ?_
 refine lmv rfl rfl rfl rfl rfl ?_
 refine xlz (op_binI rfl rfl rfl rfl rfl (.inl rfl) rfl) ?_
 refine las rfl rfl rfl rfl rfl ?_
 refine lendF ?_
 refine awp_ret ?_
 refine ⟨[_], ⟨rfl, trivial⟩, ?_⟩
 exact ent_b rfl (by unfold isPath; rw [Bool.eq_iff_iff]; simp)

set_option maxRecDepth 10000 in
theorem c65 (p : Bytes) (hs : p.length ≤ 100000) : Fn PR 65 [.d (.str p)] [] [.undef, .d (I (if isPath p then (majorF p).1 else 0)), .d (I (if isPath p then 0 else 4))] [] := by
 refine fn_of_awp Tryz.func65 rfl (N := 24) rfl ?_
 refine xsr ?_
 iterate 3 refine las rfl rfl rfl rfl rfl ?_
 refine lendF ?_
 refine xsr ?_
 refine lmv rfl rfl rfl rfl rfl ?_
 refine xlz (o_call (c101 p hs) rfl rfl rfl ca101 rfl rfl) ?_
 refine lmv rfl rfl rfl rfl rfl ?_
 refine xlz (op_extract rfl rfl rfl rfl) ?_
 refine xlz (op_extract rfl rfl rfl rfl) ?_
 iterate 2 refine las rfl rfl rfl rfl rfl ?_
 refine lendF ?_
 refine awp_seq ?_
 refine xsr ?_
 refine lmv rfl rfl rfl rfl rfl ?_
 refine xlz (o_call (c102 p hs) rfl rfl rfl ca102 rfl rfl) ?_
 refine xlz (op_not rfl rfl rfl) ?_
 refine lmv rfl rfl rfl rfl rfl ?_
 refine lsplit rfl (fun hg1 => ?_) (fun hg1 => ?_)
 ·
  have hp : isPath p = true := by (have h := (g01 hg1)); simpa using h
  have h0 := isPath_ok hp
  obtain ⟨j, hj⟩ := isPath_slash hp
  have hl1 := lastIx_ge hj p.length (rng_le hj)
  have hl2 := lastIx_lt p 47 p.length
  obtain ⟨q, hq⟩ := Int.eq_ofNat_of_zero_le hl1
  refine gmv hg1 rfl rfl rfl rfl rfl ?_
  refine lg (op_binI rfl rfl rfl rfl rfl (.inl rfl) rfl) rfl hg1 rfl rfl ?_
  refine xlz (o_pF rfl rfl (g01 hg1) rfl rfl) ?_
  refine lendF ?_
  refine awp_cond rfl rfl (fun hc2 => ?_) (fun hc2 => ?_)
  ·
   exact absurd hc2 (by simp [h0])
  ·
   refine awp_skip ?_
   refine xsr ?_
   iterate 2 refine lmv rfl rfl rfl rfl rfl ?_
   refine xlz (o_call (c103 p 47 hs) rfl rfl rfl ca103 rfl rfl) ?_
   refine xlz (o_slS rfl rfl rfl ty9 .none (.some rfl rfl (n := q) (by first | rfl | omega | (simp; done) | (simp; omega))) (Nat.zero_le _) (by omega)) ?_
   refine lmv rfl rfl rfl rfl rfl ?_
   iterate 3 refine las rfl rfl rfl rfl rfl ?_
   refine lendF ?_
   refine awp_ret ?_
   refine ⟨[_, _, _], ⟨rfl, rfl, rfl, trivial⟩, ?_⟩
   exact ent_id rfl (.cons rfl (.undef _) (.cons rfl (k_i (by simp [hp])) (.cons rfl (k_i (by simp [hp])) .nil))) obs_nil rfl
 ·
  have hp : isPath p = false := by (have h := (g00 hg1)); simpa using h
  iterate 2 refine lskip rfl hg1 rfl ?_
  refine xlz (o_pT rfl rfl (g00 hg1) rfl rfl) ?_
  refine lendF ?_
  refine awp_condT rfl rfl rfl ?_
  refine xsr ?_
  iterate 3 refine las rfl rfl rfl rfl rfl ?_
  refine lendF ?_
  refine awp_ret ?_
  refine ⟨[_, _, _], ⟨rfl, rfl, rfl, trivial⟩, ?_⟩
  exact ent_id rfl (.cons rfl (.undef _) (.cons rfl (k_i (by simp [hp])) (.cons rfl (k_i (by simp [hp])) .nil))) obs_nil rfl

end Go.Pm

namespace Go.Pm
open Go.Proofs

set_option maxRecDepth 10000 in
theorem c113n  : Fn PR 113 [.nils] [] [.d (.list [])] [] := by
 refine fn_of_awp Tryz.func113 rfl (N := 8) rfl ?_
 refine xsr ?_
 refine las rfl rfl rfl rfl rfl ?_
 refine lendF ?_
 refine awp_seq ?_
 refine xsr ?_
 refine lmv rfl rfl rfl rfl rfl ?_
 refine xlz (op_nilS rfl (.inl rfl) rfl rfl rfl rfl ty49 rfl) ?_
 refine lendF ?_
 refine awp_condT rfl rfl rfl ?_
 refine xsr ?_
 refine las rfl rfl rfl rfl rfl ?_
 refine lendF ?_
 refine awp_ret ?_
 refine ⟨[_], ⟨rfl, trivial⟩, ?_⟩
 exact ent_d1 rfl (by first | rfl | simp_all)

set_option maxRecDepth 10000 in
theorem c113f (s : List Span) (hs : s.length ≤ 1000000) : Fn PR 113 [.nn (s.map Span.d)] [] [.d (setD s)] [] := by
 refine fn_of_awp Tryz.func113 rfl (N := 8) rfl ?_
 refine xsr ?_
 refine las rfl rfl rfl rfl rfl ?_
 refine lendF ?_
 refine awp_seq ?_
 refine xsr ?_
 refine lmv rfl rfl rfl rfl rfl ?_
 refine xlz (op_nilS rfl (.inl rfl) rfl rfl rfl rfl ty49 rfl) ?_
 refine lendF ?_
 refine awp_condF rfl rfl rfl ?_
 refine awp_skip ?_
 refine xsr ?_
 refine xlz (o_bs rfl rfl rfl rfl rfl ty49 ty78 rfl rfl) ?_
 refine lmv rfl rfl rfl rfl rfl ?_
 refine xlz (o_app rfl rfl (by decide) rfl rfl rfl ty49 ty78 rfl (by decide) rfl (by simp) (by intro d hd; obtain ⟨x, _, rfl⟩ := List.mem_map.1 hd; rfl) (by simp; omega) (by decide) rfl) ?_
 refine las rfl rfl rfl rfl rfl ?_
 refine lendF ?_
 refine awp_ret ?_
 refine ⟨[_], ⟨rfl, trivial⟩, ?_⟩
 exact ent_d1 rfl (by first | rfl | simp_all)
theorem c113 (s : List Span) (hs : s.length ≤ 1000000) : Fn PR 113 [.d (setD s)] [] [.d (setD s)] [] := fn_nil (fun h => by have : s = [] := List.map_eq_nil_iff.1 h; subst this; exact c113n) (c113f s hs)

set_option maxRecDepth 10000 in
theorem c157 (a b : List Span) (ha : a.length ≤ 1000000) (hb : b.length ≤ 1000000) : Fn PR 157 [.d (setD a), .d (setD b)] [] [.d (.bool (eqSet a b))] [] := by
 refine fn_of_awp Tryz.func157 rfl (N := 26) rfl ?_
 refine xsr ?_
 refine las rfl rfl rfl rfl rfl ?_
 refine lendF ?_
 refine awp_seq ?_
 refine xsr ?_
 refine lmv rfl rfl rfl rfl rfl ?_
 refine xlz (o_lenE (n := a.length) rfl rfl rfl ty49 (by simp)) ?_
 refine lmv rfl rfl rfl rfl rfl ?_
 refine xlz (o_lenE (n := b.length) rfl rfl rfl ty49 (by simp)) ?_
 refine xlz (op_binI rfl rfl rfl rfl rfl (.inl rfl) rfl) ?_
 refine lendF ?_
 refine awp_cond rfl rfl (fun hc1 => ?_) (fun hc1 => ?_)
 ·
  have hl : ¬ a.length = b.length := by have := hc1; simp at this; omega
  refine xsr ?_
  refine las rfl rfl rfl rfl rfl ?_
  refine lendF ?_
  refine awp_ret ?_
  refine ⟨[_], ⟨rfl, trivial⟩, ?_⟩
  exact ent_b rfl (by rw [eqSet_len hl])
 ·
  have hl : a.length = b.length := by have := hc1; simp at this; omega
  refine awp_skip ?_
  refine awp_seq ?_
  refine xsr ?_
  refine lmv rfl rfl rfl rfl rfl ?_
  refine xlz (o_lenE (n := a.length) rfl rfl rfl ty49 (by simp)) ?_
  refine lmv rfl rfl rfl rfl rfl ?_
  refine lendF ?_
  refine awp_block ?_
  refine awp_loop (fun i => ⟨26, [(13, .d (I (i : Nat))), (0, .d (setD a)), (1, .d (setD b)), (12, .d (I a.length))], []⟩) (fun i => a.length - i) (fun i => i ≤ a.length ∧ eqSet (a.drop i) (b.drop i) = eqSet a b) 0 ?_ ?_ ?_
  ·
   exact ent_k [] rfl rfl ((by repeat (first | exact .nil | refine xkc ?_))) obs_nil rfl
  ·
   exact ⟨Nat.zero_le _, rfl⟩
  ·
   rintro i ⟨hi, hI⟩
   refine xsr ?_
   refine xlz (op_binI rfl rfl rfl rfl rfl (.inl rfl) rfl) ?_
   refine lendF ?_
   refine awp_seq ?_
   refine awp_cond rfl rfl (fun hc2 => ?_) (fun hc2 => ?_)
   ·
    obtain ⟨x, hn⟩ := rng_lt (l := a) (by simpa using hc2)
    have hlt := rng_le hn
    obtain ⟨y, hy⟩ : ∃ y, b[i]? = some y := ⟨_, List.getElem?_eq_getElem (by omega)⟩
    refine awp_skip ?_
    refine awp_seq ?_
    refine awp_block ?_
    refine xsr ?_
    refine lmv rfl rfl rfl rfl rfl ?_
    refine las rfl rfl rfl rfl rfl ?_
    refine lendF ?_
    refine xsr ?_
    iterate 2 refine lmv rfl rfl rfl rfl rfl ?_
    refine xlz (o_ixN (i) rfl rfl rfl rfl ty49 (by first | rfl | omega | (simp; done) | (simp; omega)) hn ty78) ?_
    refine xlz (op_loadCA rfl rfl rfl ty78 rfl (xlb rfl)) ?_
    iterate 2 refine lmv rfl rfl rfl rfl rfl ?_
    refine xlz (o_ixN (i) rfl rfl rfl rfl ty49 (by first | rfl | omega | (simp; done) | (simp; omega)) hy ty78) ?_
    refine xlz (op_loadCA rfl rfl rfl ty78 rfl (xlb rfl)) ?_
    refine xlz (op_eqlA rfl (.inr rfl) rfl rfl rfl rfl ty78 es78 rfl rfl eg78) ?_
    refine lend (fun _ => by kernel_rfl) ?_
    refine awp_cond rfl rfl (fun hc3 => ?_) (fun hc3 => ?_)
    ·
     have hne : ¬ x = y := by have := hc3; rw [eqT_span] at this; simpa using this
     refine xsr ?_
     refine las rfl rfl rfl rfl rfl ?_
     refine lendF ?_
     refine awp_ret ?_
     refine ⟨[_], ⟨rfl, trivial⟩, ?_⟩
     exact ent_b rfl (by rw [← hI, drop_cons hn, drop_cons hy, eqSet_no hne])
    ·
     have hxy : x = y := by have := hc3; rw [eqT_span] at this; simpa using this
     refine awp_skip ?_
     refine awp_region mixed ?_
     refine xlz (o_add rfl rfl rfl rfl (by first | omega | (simp; omega) | (simp at *; omega))) ?_
     refine lmv rfl rfl rfl rfl rfl ?_
     refine lendF ?_
     refine ⟨i + 1, ?_, ?_, ?_⟩
     ·
      exact ⟨rng_le hn, by rw [← hI, drop_cons hn, drop_cons hy]; exact (eqSet_yes hxy).symm⟩
     ·
      exact ent_k [] rfl rfl ((by repeat (first | exact .nil | refine xkc ?_))) obs_nil rfl
     ·
      omega
   ·
    obtain rfl := rng_ge (l := a) (by simpa using hc2) hi
    refine awp_exit ?_
    refine xsr ?_
    refine las rfl rfl rfl rfl rfl ?_
    refine lendF ?_
    refine awp_ret ?_
    refine ⟨[_], ⟨rfl, trivial⟩, ?_⟩
    exact ent_b rfl (by rw [← hI, List.drop_length, List.drop_of_length_le (by omega)]; simp [eqSet])

set_option maxRecDepth 10000 in
theorem c118 (l : List SpB) (h : l.length ≤ 1000000) : Fn PR 118 [.arr 1000000 2 0 (l.map SpB.d).length, .fn (.func 119) [] []] [(1000000, .arr 2 (l.map SpB.d))] [] [(1000000, .arr 2 ((pdB l).map SpB.d))] := by
 refine fn_of_awp Tryz.func118 rfl (N := 14) rfl ?_
 refine xsr ?_
 refine lmv rfl rfl rfl rfl rfl ?_
 refine xlz (o_eqI (op_lenR rfl rfl rfl ty49) (m' := l.length) (by simp)) ?_
 refine las rfl rfl rfl rfl rfl ?_
 refine lendF ?_
 refine awp_region mixed ?_
 iterate 3 refine lmv rfl rfl rfl rfl rfl ?_
 refine xlz (o_eqI (op_convI rfl rfl rfl ty3 ty156) (m' := (l.length : Nat)) (wrapU64 (by omega) (by omega))) ?_
 refine xlz (o_call (c117 l.length (by omega)) rfl rfl rfl ca117 rfl rfl) ?_
 refine lmv rfl rfl rfl rfl rfl ?_
 refine xlz (o_callW [1000000] 13 (c148 l (by omega)) rfl rfl rfl ca148 rfl (by decide) (handOK_cons (by decide) (by decide) rfl rfl handOK_nil) rfl rfl rfl rfl) ?_
 refine lendF ?_
 refine ⟨[], trivial, ?_⟩
 exact ent_k [] rfl rfl .nil (obs_cons rfl (o_eq rfl) obs_nil) rfl

end Go.Pm

namespace Go.Pm
open Go.Proofs

set_option maxRecDepth 100000 in
theorem c86 (s : List Span) (hs : s.length ≤ 1000000) : Fn PR 86 [.d (setD s)] [] [.d (setD (canonS s))] [] := by
 refine fn_of_awp Tryz.func86 rfl (N := 79) rfl ?_
 refine xsr ?_
 refine las rfl rfl rfl rfl rfl ?_
 refine lendF ?_
 refine xsr ?_
 refine las rfl rfl rfl rfl rfl ?_
 refine lendF ?_
 refine awp_seq ?_
 refine xsr ?_
 refine lmv rfl rfl rfl rfl rfl ?_
 refine xlz (o_lenE (n := s.length) rfl rfl rfl ty49 (by simp)) ?_
 refine lmv rfl rfl rfl rfl rfl ?_
 refine lendF ?_
 refine awp_block ?_
 refine awp_ent (ent_arr0 3 500030 2 rfl rfl (by decide)) ?_
 refine awp_loop (fun x => ⟨79, [(3, .arr 500030 2 0 (x.2.map SpB.d).length), (11, .d (I (x.1 : Nat))), (9, .d (setD s)), (10, .d (I s.length))], [(500030, .arr 2 (x.2.map SpB.d))]⟩) (fun x => s.length - x.1) (fun x => x.1 ≤ s.length ∧ x.2.length ≤ x.1 ∧ x.2 ++ selB (s.drop x.1) = selB s) (0, []) ?_ ?_ ?_
 ·
  exact ent_k [] rfl rfl ((by repeat (first | exact .nil | refine xkc ?_))) (obs_cons rfl (o_eq rfl) obs_nil) rfl
 ·
  exact ⟨Nat.zero_le _, Nat.le_refl _, rfl⟩
 ·
  rintro ⟨i, acc⟩ ⟨hi, hl, hI⟩
  dsimp only at hi hl hI ⊢
  refine xsr ?_
  refine xlz (op_binI rfl rfl rfl rfl rfl (.inl rfl) rfl) ?_
  refine lendF ?_
  refine awp_seq ?_
  refine awp_cond rfl rfl (fun hc1 => ?_) (fun hc1 => ?_)
  ·
   obtain ⟨x, hn⟩ := rng_lt (l := s) (by simpa using hc1)
   have hlt := rng_le hn
   have hmem := List.mem_of_getElem? hn
   refine awp_skip ?_
   refine awp_seq ?_
   refine awp_block ?_
   refine xsr ?_
   refine xlz (o_ixN (i) rfl rfl rfl rfl ty49 (by first | rfl | omega | (simp; done) | (simp; omega)) hn ty78) ?_
   refine xlz (op_loadCA rfl rfl rfl ty78 rfl (xlb rfl)) ?_
   refine xlz (op_alloc rfl rfl (by decide) ty78 zk78 rfl) ?_
   refine xlz (op_store rfl rfl rfl rfl rfl rfl ty78 rfl (xlb rfl)) ?_
   refine lendF ?_
   refine xsr ?_
   refine xlz (op_fieldP rfl rfl rfl fl78_0) ?_
   refine xlz (op_load1 rfl rfl rfl rfl ty3 rfl rfl) ?_
   refine xlz (o_eqI (op_max rfl rfl rfl rfl rfl) (m' := (clampS x).lo) (by unfold clampS; dsimp only; split <;> split <;> omega)) ?_
   refine xlz (op_fieldP rfl rfl rfl fl78_1) ?_
   refine xlz (op_load1 rfl rfl rfl rfl ty3 rfl rfl) ?_
   refine xlz (o_eqI (op_min rfl rfl rfl rfl rfl) (m' := (clampS x).hi) (by unfold clampS; dsimp only; split <;> split <;> omega)) ?_
   refine xlz (o_bld rfl rfl rfl bl78 ty78 zk78 rfl rfl rfl) ?_
   refine xlz (op_store rfl rfl rfl rfl rfl rfl ty78 rfl (xlb rfl)) ?_
   refine lendF ?_
   refine xsr ?_
   refine xlz (op_fieldP rfl rfl rfl fl78_0) ?_
   refine xlz (op_load1 rfl rfl rfl rfl ty3 rfl rfl) ?_
   refine xlz (op_fieldP rfl rfl rfl fl78_1) ?_
   refine xlz (op_load1 rfl rfl rfl rfl ty3 rfl rfl) ?_
   refine xlz (op_binI rfl rfl rfl rfl rfl (.inl rfl) rfl) ?_
   refine lendF ?_
   refine awp_cond rfl rfl (fun hc2 => ?_) (fun hc2 => ?_)
   ·
    have hlt : (clampS x).lo < (clampS x).hi := by simpa using hc2
    refine awp_region mixed ?_
    refine lmv rfl rfl rfl rfl rfl ?_
    refine xlz (o_ldA rfl rfl rfl rfl ty78 rfl (xlb rfl) rfl) ?_
    refine xlz (o_bs rfl rfl rfl rfl rfl ty49 ty78 rfl rfl) ?_
    refine xlz (op_appendR rfl rfl (by decide) (.inr ⟨_, rfl, rfl, rfl⟩) rfl rfl rfl ty49 ty78 rfl (by decide) (by simp [D.cells]) (by simp) (by simp; omega) (by simp; omega)) ?_
    refine las rfl rfl rfl rfl rfl ?_
    refine lendF ?_
    refine awp_region mixed ?_
    refine xlz (o_add rfl rfl rfl rfl (by first | omega | (simp; omega) | (simp at *; omega))) ?_
    refine lmv rfl rfl rfl rfl rfl ?_
    refine lendF ?_
    refine ⟨(i + 1, acc ++ [⟨(clampS x).lo, (clampS x).hi, clamp_lo x, by have := clamp_hi x; omega⟩]), ?_, ?_, ?_⟩
    ·
     exact ⟨rng_le hn, by simp; omega, by rw [← hI, drop_cons hn, selB_yes hlt]; simp⟩
    ·
     exact ent_k [(500030, 30)] rfl rfl (.cons rfl (k_arr rfl (by simp)) <| .cons rfl (k_i (by simp)) <| by repeat (first | exact .nil | refine .cons rfl (by first | exact k_eq rfl | exact .data rfl) ?_)) (obs_cons rfl (ko_arr (by simp; rfl)) obs_nil) rfl
    ·
     show s.length - (i + 1) < s.length - i; have := rng_le hn; omega
   ·
    have hlt : ¬ (clampS x).lo < (clampS x).hi := by simpa using hc2
    refine awp_skip ?_
    refine awp_region mixed ?_
    refine xlz (o_add rfl rfl rfl rfl (by first | omega | (simp; omega) | (simp at *; omega))) ?_
    refine lmv rfl rfl rfl rfl rfl ?_
    refine lendF ?_
    refine ⟨(i + 1, acc), ?_, ?_, ?_⟩
    ·
     exact ⟨rng_le hn, by show acc.length ≤ i + 1; omega, by show acc ++ selB (s.drop (i + 1)) = _; rw [← hI, drop_cons hn, selB_no hlt]⟩
    ·
     exact ent_k [] rfl rfl (.cons rfl (k_eq rfl) <| .cons rfl (k_i (by simp)) <| by repeat (first | exact .nil | refine .cons rfl (by first | exact k_eq rfl | exact .data rfl) ?_)) (obs_cons rfl (o_eq rfl) obs_nil) rfl
    ·
     show s.length - (i + 1) < s.length - i; have := rng_le hn; omega
  ·
   obtain rfl := rng_ge (l := s) (by simpa using hc1) hi
   refine awp_exit ?_
   refine awp_seq ?_
   have hsel : acc = selB s := by rw [← hI, List.drop_length]; simp [selB]
   refine awp_region mixed ?_
   refine lmv rfl rfl rfl rfl rfl ?_
   refine xlz (o_callW [500030] 33 (c118 acc (by omega)) rfl rfl rfl ca118 rfl (by decide) (handOK_cons (by decide) (by decide) rfl rfl handOK_nil) rfl rfl rfl rfl) ?_
   refine lendF ?_
   refine xsr ?_
   refine las rfl rfl rfl rfl rfl ?_
   refine lendF ?_
   refine awp_seq ?_
   refine xsr ?_
   refine lmv rfl rfl rfl rfl rfl ?_
   refine xlz (o_eqI (op_lenR rfl rfl rfl ty49) (m' := acc.length) (by simp)) ?_
   refine lmv rfl rfl rfl rfl rfl ?_
   refine lendF ?_
   refine awp_block ?_
   refine awp_loop (fun x => ⟨79, [(6, .d (I (x.2.length : Nat))), (36, .d (I (x.1 : Nat))), (3, .arr 500030 2 0 (acc.map SpB.d).length), (34, .arr 500030 2 0 (acc.map SpB.d).length), (35, .d (I acc.length))], [(500030, .arr 2 (x.2.map Span.d ++ ((pdB acc).drop x.2.length).map SpB.d))]⟩) (fun x => acc.length - x.1) (fun x => x.1 ≤ acc.length ∧ x.2.length ≤ x.1 ∧ (0 < x.1 → 0 < x.2.length) ∧ (((pdB acc).drop x.1).map spB).foldl mstep x.2 = canonS s) (0, []) ?_ ?_ ?_
   ·
    exact ent_k [] rfl rfl ((by repeat (first | exact .nil | refine xkc ?_))) (obs_cons rfl (o_eq rfl) obs_nil) rfl
   ·
    exact ⟨Nat.zero_le _, Nat.le_refl _, fun h => absurd h (Nat.lt_irrefl _), by rw [← canonP_eq, ← hsel]; rfl⟩
   ·
    rintro ⟨j, out⟩ ⟨hj, ho, hp, hJ⟩
    dsimp only at hj ho hp hJ ⊢
    refine xsr ?_
    refine xlz (op_binI rfl rfl rfl rfl rfl (.inl rfl) rfl) ?_
    refine lendF ?_
    refine awp_seq ?_
    refine awp_cond rfl rfl (fun hc3 => ?_) (fun hc3 => ?_)
    ·
     have hlt : j < acc.length := by simpa using hc3
     obtain ⟨x, hn⟩ : ∃ x, (pdB acc)[j]? = some x := ⟨_, List.getElem?_eq_getElem (by rw [pdB_len]; exact hlt)⟩
     have hel := arr_get ho hn
     obtain ⟨u, hk⟩ : ∃ u, (pdB acc)[out.length]? = some u := ⟨_, List.getElem?_eq_getElem (by rw [pdB_len]; omega)⟩
     have hkm := arr_get (Nat.le_refl _) hk
     refine awp_skip ?_
     refine awp_seq ?_
     refine awp_block ?_
     refine xsr ?_
     refine lmv rfl rfl rfl rfl rfl ?_
     refine xlz (o_ixR' (j) rfl rfl rfl rfl ty49 ty78 (by first | rfl | omega | (simp; done) | (simp; omega)) (by simpa using hlt) (Nat.zero_add _).symm) ?_
     refine xlz (op_loadEA rfl rfl rfl rfl hel ty78 rfl rfl) ?_
     refine xlz (op_alloc rfl rfl (by decide) ty78 zk78 rfl) ?_
     refine las rfl rfl rfl rfl rfl ?_
     refine xlz (op_store rfl rfl rfl rfl rfl rfl ty78 rfl (xlb rfl)) ?_
     refine lendF ?_
     refine awp_seq ?_
     refine xsr ?_
     refine lmv rfl rfl rfl rfl rfl ?_
     refine xlz (op_binI rfl rfl rfl rfl rfl (.inl rfl) rfl) ?_
     refine lmv rfl rfl rfl rfl rfl ?_
     refine lsplit rfl (fun hg4 => ?_) (fun hg4 => ?_)
     ·
      have ho0 : 0 < out.length := hp (by have := (g11 hg4); simp at this; omega)
      obtain ⟨z, hz⟩ := last_get (l := out) ho0
      have hzm := arr_last (q := pdB acc) hz
      refine lg (op_fieldP rfl rfl rfl fl78_0) rfl hg4 rfl rfl ?_
      refine lg (op_load1 rfl rfl rfl rfl ty3 rfl rfl) rfl hg4 rfl rfl ?_
      iterate 2 refine gmv hg4 rfl rfl rfl rfl rfl ?_
      refine lg (o_sub rfl rfl rfl rfl (by first | omega | (simp; omega) | (simp at *; omega))) rfl hg4 rfl rfl ?_
      refine lg (o_ixR' ((out.length - 1)) rfl rfl rfl rfl ty49 ty78 (by first | rfl | omega | (simp; done) | (simp; omega)) (by simp; omega) (Nat.zero_add _).symm) rfl hg4 rfl rfl ?_
      refine lg (op_fieldE rfl rfl rfl fl78_1) rfl hg4 rfl rfl ?_
      refine lg (op_loadE1 rfl rfl rfl rfl hzm ty3 rfl rfl) rfl hg4 rfl rfl ?_
      refine lg (op_binI rfl rfl rfl rfl rfl (.inl rfl) rfl) rfl hg4 rfl rfl ?_
      refine xlz (o_pT rfl rfl (g11 hg4) rfl rfl) ?_
      refine lend (fun _ => by kernel_rfl) ?_
      refine awp_cond rfl rfl (fun hc5 => ?_) (fun hc5 => ?_)
      ·
       have hle : (spB x).lo ≤ z.hi := by simpa [spB] using hc5
       refine xsr ?_
       iterate 2 refine lmv rfl rfl rfl rfl rfl ?_
       refine xlz (o_sub rfl rfl rfl rfl (by first | omega | (simp; omega) | (simp at *; omega))) ?_
       iterate 2 refine lmv rfl rfl rfl rfl rfl ?_
       refine xlz (o_sub rfl rfl rfl rfl (by first | omega | (simp; omega) | (simp at *; omega))) ?_
       refine xlz (o_ixR' ((out.length - 1)) rfl rfl rfl rfl ty49 ty78 (by first | rfl | omega | (simp; done) | (simp; omega)) (by simp; omega) (Nat.zero_add _).symm) ?_
       refine xlz (op_fieldE rfl rfl rfl fl78_1) ?_
       refine xlz (op_loadE1 rfl rfl rfl rfl hzm ty3 rfl rfl) ?_
       refine xlz (op_fieldP rfl rfl rfl fl78_1) ?_
       refine xlz (op_load1 rfl rfl rfl rfl ty3 rfl rfl) ?_
       refine xlz (op_max rfl rfl rfl rfl rfl) ?_
       refine xlz (o_ixR' ((out.length - 1)) rfl rfl rfl rfl ty49 ty78 (by first | rfl | omega | (simp; done) | (simp; omega)) (by simp; omega) (Nat.zero_add _).symm) ?_
       refine xlz (op_fieldE rfl rfl rfl fl78_1) ?_
       refine xlz (op_storeE rfl rfl rfl rfl hzm rfl rfl rfl ty3 rfl rfl rfl) ?_
       refine lend (fun _ => by kernel_rfl) ?_
       refine awp_exit ?_
       refine awp_region mixed ?_
       refine xlz (o_add rfl rfl rfl rfl (by first | omega | (simp; omega) | (simp at *; omega))) ?_
       refine lmv rfl rfl rfl rfl rfl ?_
       refine lendF ?_
       refine ⟨(j + 1, out.set (out.length - 1) ⟨z.lo, if x.hi > z.hi then x.hi else z.hi⟩), ?_, ?_, ?_⟩
       ·
        exact ⟨hlt, by show (out.set (out.length - 1) _).length ≤ j + 1; simp; omega, fun _ => by simpa using ho0, by show (((pdB acc).drop (j + 1)).map spB).foldl mstep (out.set (out.length - 1) ⟨z.lo, _⟩) = _; rw [← hJ, drop_cons hn, List.map_cons, List.foldl_cons, mstep_in hz hle]; rfl⟩
       ·
        exact ent_k [] rfl rfl (.cons rfl (k_i (by simp)) <| .cons rfl (k_i (by simp)) <| (by repeat (first | exact .nil | refine xkc ?_))) (obs_cons rfl (ko_arr (arr_in hz _)) obs_nil) rfl
       ·
        show acc.length - (j + 1) < acc.length - j; omega
      ·
       have hout : mstep out (spB x) = out ++ [spB x] := mstep_out hz (by simpa [spB] using hc5)
       refine awp_skip ?_
       refine xsr ?_
       iterate 2 refine lmv rfl rfl rfl rfl rfl ?_
       refine xlz (o_ldA rfl rfl rfl rfl ty78 rfl (xlb rfl) rfl) ?_
       refine xlz (o_ixR' (out.length) rfl rfl rfl rfl ty49 ty78 (by first | rfl | omega | (simp; done) | (simp; omega)) (by simp; omega) (Nat.zero_add _).symm) ?_
       refine xlz (op_storeE rfl rfl rfl rfl hkm rfl rfl rfl ty78 rfl rfl rfl) ?_
       refine lendF ?_
       refine awp_region mixed ?_
       refine lmv rfl rfl rfl rfl rfl ?_
       refine xlz (o_add rfl rfl rfl rfl (by first | omega | (simp; omega) | (simp at *; omega))) ?_
       refine las rfl rfl rfl rfl rfl ?_
       refine lendF ?_
       refine awp_region mixed ?_
       refine xlz (o_add rfl rfl rfl rfl (by first | omega | (simp; omega) | (simp at *; omega))) ?_
       refine lmv rfl rfl rfl rfl rfl ?_
       refine lendF ?_
       refine ⟨(j + 1, out ++ [spB x]), ?_, ?_, ?_⟩
       ·
        exact ⟨hlt, by show (out ++ [spB x]).length ≤ j + 1; simp; omega, fun _ => by simp, by show (((pdB acc).drop (j + 1)).map spB).foldl mstep (out ++ [spB x]) = _; rw [← hJ, drop_cons hn, List.map_cons, List.foldl_cons, hout]⟩
       ·
        exact ent_k [] rfl rfl (.cons rfl (k_i (by simp)) <| .cons rfl (k_i (by simp)) <| (by repeat (first | exact .nil | refine xkc ?_))) (obs_cons rfl (ko_arr (arr_out hk x)) obs_nil) rfl
       ·
        show acc.length - (j + 1) < acc.length - j; omega
     ·
      have hout : mstep out (spB x) = out ++ [spB x] := mstep_nil (by have := (g10 hg4); simp at this; omega)
      iterate 9 refine lskip rfl hg4 rfl ?_
      refine xlz (o_pF rfl rfl (g10 hg4) rfl rfl) ?_
      refine lend (fun _ => by kernel_rfl) ?_
      refine awp_condF rfl rfl rfl ?_
      refine awp_skip ?_
      refine xsr ?_
      iterate 2 refine lmv rfl rfl rfl rfl rfl ?_
      refine xlz (o_ldA rfl rfl rfl rfl ty78 rfl (xlb rfl) rfl) ?_
      refine xlz (o_ixR' (out.length) rfl rfl rfl rfl ty49 ty78 (by first | rfl | omega | (simp; done) | (simp; omega)) (by simp; omega) (Nat.zero_add _).symm) ?_
      refine xlz (op_storeE rfl rfl rfl rfl hkm rfl rfl rfl ty78 rfl rfl rfl) ?_
      refine lendF ?_
      refine awp_region mixed ?_
      refine lmv rfl rfl rfl rfl rfl ?_
      refine xlz (o_add rfl rfl rfl rfl (by first | omega | (simp; omega) | (simp at *; omega))) ?_
      refine las rfl rfl rfl rfl rfl ?_
      refine lendF ?_
      refine awp_region mixed ?_
      refine xlz (o_add rfl rfl rfl rfl (by first | omega | (simp; omega) | (simp at *; omega))) ?_
      refine lmv rfl rfl rfl rfl rfl ?_
      refine lendF ?_
      refine ⟨(j + 1, out ++ [spB x]), ?_, ?_, ?_⟩
      ·
       exact ⟨hlt, by show (out ++ [spB x]).length ≤ j + 1; simp; omega, fun _ => by simp, by show (((pdB acc).drop (j + 1)).map spB).foldl mstep (out ++ [spB x]) = _; rw [← hJ, drop_cons hn, List.map_cons, List.foldl_cons, hout]⟩
      ·
       exact ent_k [] rfl rfl (.cons rfl (k_i (by simp)) <| .cons rfl (k_i (by simp)) <| (by repeat (first | exact .nil | refine xkc ?_))) (obs_cons rfl (ko_arr (arr_out hk x)) obs_nil) rfl
      ·
       show acc.length - (j + 1) < acc.length - j; omega
    ·
     have hje : j = acc.length := by have := hc3; simp at this; omega
     rw [List.drop_of_length_le (by rw [pdB_len]; omega)] at hJ
     have hJ2 : out = canonS s := hJ
     refine awp_exit ?_
     refine xsr ?_
     iterate 3 refine lmv rfl rfl rfl rfl rfl ?_
     refine xlz (o_sl3R rfl rfl rfl ty49 ty78 .none (.some rfl rfl (n := out.length) (by first | rfl | omega | (simp; done) | (simp; omega))) (.some rfl rfl (n := out.length) (by first | rfl | omega | (simp; done) | (simp; omega))) (.inr rfl) (by simp; omega)) ?_
     refine las rfl rfl rfl rfl rfl ?_
     refine lendF ?_
     refine awp_ret ?_
     refine ⟨[_], ⟨rfl, trivial⟩, ?_⟩
     exact ent_fz1 (ds := (out.map Span.d ++ ((pdB acc).drop out.length).map SpB.d)) rfl (by simp) (by rw [← hJ2]; rw [show 0 + 0 = 0 from rfl, List.drop_zero, Nat.sub_zero, List.take_left' (by simp)])

end Go.Pm

namespace Go.Pm
open Go.Proofs

set_option maxRecDepth 10000 in
theorem c134n (q : Req) (hq : q.Sm) : Fn PR 134 [.d q.d, .d .nilp] [] [.d (I (reqE q none))] [] := by
 refine fn_of_awp Tryz.func134 rfl (N := 43) rfl ?_
 refine xsr ?_
 refine xlz (op_box rfl rfl (by decide) rfl rfl) ?_
 refine las rfl rfl rfl rfl rfl ?_
 refine lendF ?_
 refine awp_seq ?_
 refine xsr ?_
 refine xlz (op_fieldP rfl rfl rfl fl51_0) ?_
 refine xlz (op_load1 rfl rfl rfl rfl ty9 rfl rfl) ?_
 refine xlz (o_call (c65 q.path hq.path) rfl rfl rfl ca65 rfl rfl) ?_
 refine lmv rfl rfl rfl rfl rfl ?_
 refine xlz (op_extract rfl rfl rfl rfl) ?_
 refine xlz (op_extract rfl rfl rfl rfl) ?_
 refine xlz (op_extract rfl rfl rfl rfl) ?_
 iterate 3 refine las rfl rfl rfl rfl rfl ?_
 refine lendF ?_
 refine xsr ?_
 refine lmv rfl rfl rfl rfl rfl ?_
 refine xlz (op_binI rfl rfl rfl rfl rfl (.inl rfl) rfl) ?_
 refine lendF ?_
 refine awp_cond rfl rfl (fun hc1 => ?_) (fun hc1 => ?_)
 ·
  have hp : isPath q.path = false := by (have h := hc1); split at h; (simp at h); (rename_i h2; simpa using h2)
  have hmj := majN_no hp
  refine xsr ?_
  refine las rfl rfl rfl rfl rfl ?_
  refine lendF ?_
  refine awp_ret ?_
  refine ⟨[_], ⟨rfl, trivial⟩, ?_⟩
  first | exact ent_i rfl (reqE_1 hmj).symm | exact ent_i rfl (reqE_2 hmj hcs).symm | exact ent_i rfl (reqE_3 hmj hcs hod).symm | exact ent_i rfl (reqE_0 hmj hcs (by first | exact hod | rfl)).symm
 ·
  have hp : isPath q.path = true := by (have h := hc1); split at h; (assumption); (simp at h)
  have hmj := majN_yes hp
  have hme := majN_eq hp
  refine awp_skip ?_
  refine awp_seq ?_
  refine xsr ?_
  refine xlz (op_fieldP rfl rfl rfl fl51_1) ?_
  refine xlz (op_load1 rfl rfl rfl rfl ty49 rfl rfl) ?_
  refine xlz (o_lenE (n := q.set.length) rfl rfl rfl ty49 (by simp)) ?_
  refine xlz (op_binI rfl rfl rfl rfl rfl (.inl rfl) rfl) ?_
  refine lmv rfl rfl rfl rfl rfl ?_
  refine lsplit rfl (fun hg2 => ?_) (fun hg2 => ?_)
  ·
   have hs0 : ¬ q.set.length = 0 := by have := (g01 hg2); simp at this; simp [this]
   refine lg (op_fieldP rfl rfl rfl fl51_1) rfl hg2 rfl rfl ?_
   refine lg (op_load1 rfl rfl rfl rfl ty49 rfl rfl) rfl hg2 rfl rfl ?_
   refine lg (op_fieldP rfl rfl rfl fl51_1) rfl hg2 rfl rfl ?_
   refine lg (op_load1 rfl rfl rfl rfl ty49 rfl rfl) rfl hg2 rfl rfl ?_
   refine lg (o_call (c86 q.set hq.set) rfl rfl rfl ca86 rfl rfl) rfl hg2 rfl rfl ?_
   refine lg (o_call (c157 q.set (canonS q.set) hq.set (by have := canonS_len q.set; have := hq.set; omega)) rfl rfl rfl ca157 rfl rfl) rfl hg2 rfl rfl ?_
   refine lg (op_not rfl rfl rfl) rfl hg2 rfl rfl ?_
   refine xlz (o_pF rfl rfl (g01 hg2) rfl rfl) ?_
   refine lmv rfl rfl rfl rfl rfl ?_
   refine lsplit rfl (fun hg3 => ?_) (fun hg3 => ?_)
   ·
    have hcs : ¬ (q.set.length = 0 ∨ q.set ≠ canonS q.set) := by (have h := (g01 hg3)); simp [eqSet] at h; rintro (h1 | h1); (exact hs0 h1); (exact h1 h)
    refine gmv hg3 rfl rfl rfl rfl rfl ?_
    refine lg (op_nilP rfl (.inr rfl) rfl rfl rfl rfl ty168 rfl) rfl hg3 rfl rfl ?_
    refine gmv hg3 rfl rfl rfl rfl rfl ?_
    iterate 7 refine lskip rfl rfl rfl ?_
    refine lg (o_pF rfl rfl rfl rfl rfl) rfl hg3 rfl rfl ?_
    refine xlz (o_pF rfl rfl (g01 hg3) rfl rfl) ?_
    refine lend (fun _ => by kernel_rfl) ?_
    refine awp_condF rfl rfl rfl ?_
    refine awp_skip ?_
    refine xsr ?_
    refine las rfl rfl rfl rfl rfl ?_
    refine lendF ?_
    refine awp_ret ?_
    refine ⟨[_], ⟨rfl, trivial⟩, ?_⟩
    first | exact ent_i rfl (reqE_1 hmj).symm | exact ent_i rfl (reqE_2 hmj hcs).symm | exact ent_i rfl (reqE_3 hmj hcs hod).symm | exact ent_i rfl (reqE_0 hmj hcs (by first | exact hod | rfl)).symm
   ·
    have hcs : q.set.length = 0 ∨ q.set ≠ canonS q.set := .inr (by (have h := (g00 hg3)); simpa [eqSet] using h)
    iterate 3 refine lskip rfl hg3 rfl ?_
    iterate 7 refine lskip rfl rfl rfl ?_
    refine lskip rfl hg3 rfl ?_
    refine xlz (o_pT rfl rfl (g00 hg3) rfl rfl) ?_
    refine lend (fun _ => by kernel_rfl) ?_
    refine awp_condT rfl rfl rfl ?_
    refine xsr ?_
    refine las rfl rfl rfl rfl rfl ?_
    refine lendF ?_
    refine awp_ret ?_
    refine ⟨[_], ⟨rfl, trivial⟩, ?_⟩
    first | exact ent_i rfl (reqE_1 hmj).symm | exact ent_i rfl (reqE_2 hmj hcs).symm | exact ent_i rfl (reqE_3 hmj hcs hod).symm | exact ent_i rfl (reqE_0 hmj hcs (by first | exact hod | rfl)).symm
  ·
   have hcs : q.set.length = 0 ∨ q.set ≠ canonS q.set := .inl (by have := (g00 hg2); simp at this; simp [this])
   iterate 7 refine lskip rfl hg2 rfl ?_
   refine xlz (o_pT rfl rfl (g00 hg2) rfl rfl) ?_
   refine lmv rfl rfl rfl rfl rfl ?_
   iterate 11 refine lskip rfl rfl rfl ?_
   refine xlz (o_pT rfl rfl rfl rfl rfl) ?_
   refine lend (fun _ => by kernel_rfl) ?_
   refine awp_condT rfl rfl rfl ?_
   refine xsr ?_
   refine las rfl rfl rfl rfl rfl ?_
   refine lendF ?_
   refine awp_ret ?_
   refine ⟨[_], ⟨rfl, trivial⟩, ?_⟩
   first | exact ent_i rfl (reqE_1 hmj).symm | exact ent_i rfl (reqE_2 hmj hcs).symm | exact ent_i rfl (reqE_3 hmj hcs hod).symm | exact ent_i rfl (reqE_0 hmj hcs (by first | exact hod | rfl)).symm

set_option maxRecDepth 10000 in
theorem c134p (q y : Req) (hq : q.Sm) : Fn PR 134 [.d q.d, .cptr y.d.cells] [] [.d (I (reqE q (some y)))] [] := by
 refine fn_of_awp Tryz.func134 rfl (N := 43) rfl ?_
 refine xsr ?_
 refine xlz (op_box rfl rfl (by decide) rfl rfl) ?_
 refine las rfl rfl rfl rfl rfl ?_
 refine lendF ?_
 refine awp_seq ?_
 refine xsr ?_
 refine xlz (op_fieldP rfl rfl rfl fl51_0) ?_
 refine xlz (op_load1 rfl rfl rfl rfl ty9 rfl rfl) ?_
 refine xlz (o_call (c65 q.path hq.path) rfl rfl rfl ca65 rfl rfl) ?_
 refine lmv rfl rfl rfl rfl rfl ?_
 refine xlz (op_extract rfl rfl rfl rfl) ?_
 refine xlz (op_extract rfl rfl rfl rfl) ?_
 refine xlz (op_extract rfl rfl rfl rfl) ?_
 iterate 3 refine las rfl rfl rfl rfl rfl ?_
 refine lendF ?_
 refine xsr ?_
 refine lmv rfl rfl rfl rfl rfl ?_
 refine xlz (op_binI rfl rfl rfl rfl rfl (.inl rfl) rfl) ?_
 refine lendF ?_
 refine awp_cond rfl rfl (fun hc1 => ?_) (fun hc1 => ?_)
 ·
  have hp : isPath q.path = false := by (have h := hc1); split at h; (simp at h); (rename_i h2; simpa using h2)
  have hmj := majN_no hp
  refine xsr ?_
  refine las rfl rfl rfl rfl rfl ?_
  refine lendF ?_
  refine awp_ret ?_
  refine ⟨[_], ⟨rfl, trivial⟩, ?_⟩
  first | exact ent_i rfl (reqE_1 hmj).symm | exact ent_i rfl (reqE_2 hmj hcs).symm | exact ent_i rfl (reqE_3 hmj hcs hod).symm | exact ent_i rfl (reqE_0 hmj hcs (by first | exact hod | rfl)).symm
 ·
  have hp : isPath q.path = true := by (have h := hc1); split at h; (assumption); (simp at h)
  have hmj := majN_yes hp
  have hme := majN_eq hp
  refine awp_skip ?_
  refine awp_seq ?_
  refine xsr ?_
  refine xlz (op_fieldP rfl rfl rfl fl51_1) ?_
  refine xlz (op_load1 rfl rfl rfl rfl ty49 rfl rfl) ?_
  refine xlz (o_lenE (n := q.set.length) rfl rfl rfl ty49 (by simp)) ?_
  refine xlz (op_binI rfl rfl rfl rfl rfl (.inl rfl) rfl) ?_
  refine lmv rfl rfl rfl rfl rfl ?_
  refine lsplit rfl (fun hg2 => ?_) (fun hg2 => ?_)
  ·
   have hs0 : ¬ q.set.length = 0 := by have := (g01 hg2); simp at this; simp [this]
   refine lg (op_fieldP rfl rfl rfl fl51_1) rfl hg2 rfl rfl ?_
   refine lg (op_load1 rfl rfl rfl rfl ty49 rfl rfl) rfl hg2 rfl rfl ?_
   refine lg (op_fieldP rfl rfl rfl fl51_1) rfl hg2 rfl rfl ?_
   refine lg (op_load1 rfl rfl rfl rfl ty49 rfl rfl) rfl hg2 rfl rfl ?_
   refine lg (o_call (c86 q.set hq.set) rfl rfl rfl ca86 rfl rfl) rfl hg2 rfl rfl ?_
   refine lg (o_call (c157 q.set (canonS q.set) hq.set (by have := canonS_len q.set; have := hq.set; omega)) rfl rfl rfl ca157 rfl rfl) rfl hg2 rfl rfl ?_
   refine lg (op_not rfl rfl rfl) rfl hg2 rfl rfl ?_
   refine xlz (o_pF rfl rfl (g01 hg2) rfl rfl) ?_
   refine lmv rfl rfl rfl rfl rfl ?_
   refine lsplit rfl (fun hg3 => ?_) (fun hg3 => ?_)
   ·
    have hcs : ¬ (q.set.length = 0 ∨ q.set ≠ canonS q.set) := by (have h := (g01 hg3)); simp [eqSet] at h; rintro (h1 | h1); (exact hs0 h1); (exact h1 h)
    refine gmv hg3 rfl rfl rfl rfl rfl ?_
    refine lg (op_nilP rfl (.inr rfl) rfl rfl rfl rfl ty168 rfl) rfl hg3 rfl rfl ?_
    refine gmv hg3 rfl rfl rfl rfl rfl ?_
    refine lg (op_fieldP rfl rfl rfl fl51_0) rfl rfl rfl rfl ?_
    refine lg (op_load1 rfl rfl rfl rfl ty9 rfl rfl) rfl rfl rfl rfl ?_
    refine gmv rfl rfl rfl rfl rfl rfl ?_
    refine lg (op_nilCheckP rfl rfl rfl rfl) rfl rfl rfl rfl ?_
    refine lg (op_fieldC rfl rfl rfl fl51_0) rfl rfl rfl rfl ?_
    refine lg (op_loadC1 rfl rfl rfl ty9 rfl rfl) rfl rfl rfl rfl ?_
    refine lg (op_binS rfl rfl rfl rfl rfl (fun h => by first | cases h | (simp; omega)) rfl) rfl rfl rfl rfl ?_
    refine lg (o_pT rfl rfl rfl rfl rfl) rfl hg3 rfl rfl ?_
    refine xlz (o_pF rfl rfl (g01 hg3) rfl rfl) ?_
    refine lend (fun _ => by kernel_rfl) ?_
    refine awp_cond rfl rfl (fun hc4 => ?_) (fun hc4 => ?_)
    ·
     have hod : ordE q (some y) = true := by (have h := hc4); rw [bytesLe_not] at h; simpa [ordE] using h
     refine xsr ?_
     refine las rfl rfl rfl rfl rfl ?_
     refine lendF ?_
     refine awp_ret ?_
     refine ⟨[_], ⟨rfl, trivial⟩, ?_⟩
     first | exact ent_i rfl (reqE_1 hmj).symm | exact ent_i rfl (reqE_2 hmj hcs).symm | exact ent_i rfl (reqE_3 hmj hcs hod).symm | exact ent_i rfl (reqE_0 hmj hcs (by first | exact hod | rfl)).symm
    ·
     have hod : ordE q (some y) = false := by (have h := hc4); rw [bytesLe_not] at h; simpa [ordE] using h
     refine awp_skip ?_
     refine xsr ?_
     refine las rfl rfl rfl rfl rfl ?_
     refine lendF ?_
     refine awp_ret ?_
     refine ⟨[_], ⟨rfl, trivial⟩, ?_⟩
     first | exact ent_i rfl (reqE_1 hmj).symm | exact ent_i rfl (reqE_2 hmj hcs).symm | exact ent_i rfl (reqE_3 hmj hcs hod).symm | exact ent_i rfl (reqE_0 hmj hcs (by first | exact hod | rfl)).symm
   ·
    have hcs : q.set.length = 0 ∨ q.set ≠ canonS q.set := .inr (by (have h := (g00 hg3)); simpa [eqSet] using h)
    iterate 3 refine lskip rfl hg3 rfl ?_
    iterate 7 refine lskip rfl rfl rfl ?_
    refine lskip rfl hg3 rfl ?_
    refine xlz (o_pT rfl rfl (g00 hg3) rfl rfl) ?_
    refine lend (fun _ => by kernel_rfl) ?_
    refine awp_condT rfl rfl rfl ?_
    refine xsr ?_
    refine las rfl rfl rfl rfl rfl ?_
    refine lendF ?_
    refine awp_ret ?_
    refine ⟨[_], ⟨rfl, trivial⟩, ?_⟩
    first | exact ent_i rfl (reqE_1 hmj).symm | exact ent_i rfl (reqE_2 hmj hcs).symm | exact ent_i rfl (reqE_3 hmj hcs hod).symm | exact ent_i rfl (reqE_0 hmj hcs (by first | exact hod | rfl)).symm
  ·
   have hcs : q.set.length = 0 ∨ q.set ≠ canonS q.set := .inl (by have := (g00 hg2); simp at this; simp [this])
   iterate 7 refine lskip rfl hg2 rfl ?_
   refine xlz (o_pT rfl rfl (g00 hg2) rfl rfl) ?_
   refine lmv rfl rfl rfl rfl rfl ?_
   iterate 11 refine lskip rfl rfl rfl ?_
   refine xlz (o_pT rfl rfl rfl rfl rfl) ?_
   refine lend (fun _ => by kernel_rfl) ?_
   refine awp_condT rfl rfl rfl ?_
   refine xsr ?_
   refine las rfl rfl rfl rfl rfl ?_
   refine lendF ?_
   refine awp_ret ?_
   refine ⟨[_], ⟨rfl, trivial⟩, ?_⟩
   first | exact ent_i rfl (reqE_1 hmj).symm | exact ent_i rfl (reqE_2 hmj hcs).symm | exact ent_i rfl (reqE_3 hmj hcs hod).symm | exact ent_i rfl (reqE_0 hmj hcs (by first | exact hod | rfl)).symm
theorem c134 (q : Req) (p : Option Req) (hq : q.Sm) : Fn PR 134 [.d q.d, befQ p] [] [.d (I (reqE q p))] [] := by cases p with | none => exact c134n q hq | some y => exact c134p q y hq

set_option maxRecDepth 10000 in
theorem c109 (l : List Req) (hl : l.length < 4611686018427387904) (hq : ∀ q ∈ l, q.Sm) : Fn PR 109 [.d (reqsD l)] [] [.d (I (checkReqs l))] [] := by
 refine fn_of_awp Tryz.func109 rfl (N := 27) rfl ?_
 refine xsr ?_
 refine las rfl rfl rfl rfl rfl ?_
 refine lendF ?_
 refine awp_seq ?_
 refine xsr ?_
 refine lmv rfl rfl rfl rfl rfl ?_
 refine xlz (o_lenE (n := l.length) rfl rfl rfl ty26 (by simp)) ?_
 refine xlz (op_binI rfl rfl rfl rfl rfl (.inl rfl) rfl) ?_
 refine lendF ?_
 refine awp_cond rfl rfl (fun hc1 => ?_) (fun hc1 => ?_)
 ·
  have h16 : l.length > 16 := by have := hc1; simp at this; omega
  refine xsr ?_
  refine las rfl rfl rfl rfl rfl ?_
  refine lendF ?_
  refine awp_ret ?_
  refine ⟨[_], ⟨rfl, trivial⟩, ?_⟩
  exact ent_i rfl (by rw [checkReqs, if_pos h16])
 ·
  have h16 : ¬ l.length > 16 := by have := hc1; simp at this; omega
  refine awp_skip ?_
  refine xsr ?_
  refine las rfl rfl rfl rfl rfl ?_
  refine lendF ?_
  refine awp_seq ?_
  refine xsr ?_
  refine lmv rfl rfl rfl rfl rfl ?_
  refine xlz (o_lenE (n := l.length) rfl rfl rfl ty26 (by simp)) ?_
  refine lmv rfl rfl rfl rfl rfl ?_
  refine lendF ?_
  refine awp_block ?_
  refine awp_loop (fun i => ⟨27, [(3, befQ (prevQ l i)), (12, .d (I (i : Nat))), (0, .d (reqsD l)), (10, .d (reqsD l)), (11, .d (I l.length))], []⟩) (fun i => l.length - i) (fun i => i ≤ l.length ∧ reqsE (prevQ l i) (l.drop i) = reqsE none l) 0 ?_ ?_ ?_
  ·
   exact ent_k [] rfl rfl (.cons rfl (k_eq rfl) <| (by repeat (first | exact .nil | refine xkc ?_))) obs_nil rfl
  ·
   exact ⟨Nat.zero_le _, rfl⟩
  ·
   rintro i ⟨hi, hI⟩
   refine xsr ?_
   refine xlz (op_binI rfl rfl rfl rfl rfl (.inl rfl) rfl) ?_
   refine lendF ?_
   refine awp_seq ?_
   refine awp_cond rfl rfl (fun hc2 => ?_) (fun hc2 => ?_)
   ·
    obtain ⟨x, hn⟩ := rng_lt (l := l) (by simpa using hc2)
    have hlt := rng_le hn
    have hmem := List.mem_of_getElem? hn
    refine awp_skip ?_
    refine awp_seq ?_
    refine awp_block ?_
    refine xsr ?_
    refine lmv rfl rfl rfl rfl rfl ?_
    refine xlz (o_ixN (i) rfl rfl rfl rfl ty26 (by first | rfl | omega | (simp; done) | (simp; omega)) hn ty51) ?_
    refine xlz (op_loadCA rfl rfl rfl ty51 rfl (xlb rfl)) ?_
    refine lx (op_alloc rfl rfl (by decide) ty51 zk51 rfl) rfl rfl (by cases prevQ l i <;> rfl) ?_
    refine las rfl rfl rfl rfl rfl ?_
    refine xlz (op_store rfl rfl rfl rfl rfl rfl ty51 rfl (xlb rfl)) ?_
    refine lendF ?_
    refine awp_seq ?_
    refine xsr ?_
    refine xlz (o_ldA rfl rfl rfl rfl ty51 rfl (xlb rfl) rfl) ?_
    refine lmv rfl rfl rfl rfl rfl ?_
    refine xlz (o_call (c134 x (prevQ l i) (hq x hmem)) rfl rfl rfl ca134 (by cases prevQ l i <;> rfl) rfl) ?_
    refine las rfl rfl rfl rfl rfl ?_
    refine lendF ?_
    refine xsr ?_
    refine lmv rfl rfl rfl rfl rfl ?_
    refine xlz (op_binI rfl rfl rfl rfl rfl (.inl rfl) rfl) ?_
    refine lendF ?_
    refine awp_cond rfl rfl (fun hc3 => ?_) (fun hc3 => ?_)
    ·
     have h0 : reqE x (prevQ l i) ≠ 0 := by simpa using hc3
     refine xsr ?_
     refine lmv rfl rfl rfl rfl rfl ?_
     refine las rfl rfl rfl rfl rfl ?_
     refine lendF ?_
     refine awp_ret ?_
     refine ⟨[_], ⟨rfl, trivial⟩, ?_⟩
     first | exact ent_i rfl (reqsE_stop hI h16 hn rfl h0) | exact ent_i rfl (reqsE_end hI h16)
    ·
     have h0 : reqE x (prevQ l i) = 0 := by simpa using hc3
     refine awp_skip ?_
     refine awp_region mixed ?_
     iterate 2 refine lmv rfl rfl rfl rfl rfl ?_
     refine xlz (o_ixN (i) rfl rfl rfl rfl ty26 (by first | rfl | omega | (simp; done) | (simp; omega)) hn ty51) ?_
     refine las rfl rfl rfl rfl rfl ?_
     refine lendF ?_
     refine awp_region mixed ?_
     refine xlz (o_add rfl rfl rfl rfl (by first | omega | (simp; omega) | (simp at *; omega))) ?_
     refine lmv rfl rfl rfl rfl rfl ?_
     refine lendF ?_
     refine ⟨i + 1, ?_, ?_, ?_⟩
     ·
      exact ⟨rng_le hn, reqsE_next hI hn h0⟩
     ·
      exact ent_k [] rfl rfl (.cons rfl (k_eq ((befQ_next hn).trans (befQ_ren _ _).symm)) <| (by repeat (first | exact .nil | refine xkc ?_))) obs_nil rfl
     ·
      omega
   ·
    obtain rfl := rng_ge (l := l) (by simpa using hc2) hi
    refine awp_exit ?_
    refine xsr ?_
    refine las rfl rfl rfl rfl rfl ?_
    refine lendF ?_
    refine awp_ret ?_
    refine ⟨[_], ⟨rfl, trivial⟩, ?_⟩
    first | exact ent_i rfl (reqsE_stop hI h16 hn rfl h0) | exact ent_i rfl (reqsE_end hI h16)

set_option maxRecDepth 10000 in
theorem c75 (r : Rls) (hr : r.Sm) : Fn PR 75 [.d r.d] [] [.d (I (relE r))] [] := by
 refine fn_of_awp Tryz.func75 rfl (N := 56) rfl ?_
 refine xsr ?_
 refine xlz (op_box rfl rfl (by decide) rfl rfl) ?_
 refine las rfl rfl rfl rfl rfl ?_
 refine lendF ?_
 refine xsr ?_
 refine xlz (op_fieldP rfl rfl rfl fl40_0) ?_
 refine xlz (op_load1 rfl rfl rfl rfl ty9 rfl rfl) ?_
 refine xlz (o_call (c65 r.path hr.path) rfl rfl rfl ca65 rfl rfl) ?_
 refine lmv rfl rfl rfl rfl rfl ?_
 refine xlz (op_extract rfl rfl rfl rfl) ?_
 refine xlz (op_extract rfl rfl rfl rfl) ?_
 refine xlz (op_extract rfl rfl rfl rfl) ?_
 iterate 3 refine las rfl rfl rfl rfl rfl ?_
 refine lendF ?_
 refine awp_seq ?_
 refine xsr ?_
 refine lmv rfl rfl rfl rfl rfl ?_
 refine xlz (op_binI rfl rfl rfl rfl rfl (.inl rfl) rfl) ?_
 refine lendF ?_
 refine awp_cond rfl rfl (fun hc1 => ?_) (fun hc1 => ?_)
 ·
  have hp : isPath r.path = false := by (have h := hc1); split at h; (simp at h); (rename_i h2; simpa using h2)
  have hmj := majN_no hp
  refine xsr ?_
  refine las rfl rfl rfl rfl rfl ?_
  refine lendF ?_
  refine awp_ret ?_
  refine ⟨[_], ⟨rfl, trivial⟩, ?_⟩
  first | exact ent_i rfl (relE_1 hmj).symm | exact ent_i rfl (relE_2 hmj hv).symm | exact ent_i rfl (relE_3 hmj hv hrq).symm | exact ent_i rfl (relE_4 hmj hv hrq (c := false) (dig3 (by rw [← hI, drop_cons hn, List.all_cons, hx]; rfl))).symm | exact ent_i rfl (relE_4 hmj hv hrq (c := true) (dig3 (by rw [← hI]; rfl))).symm
 ·
  have hp : isPath r.path = true := by (have h := hc1); split at h; (assumption); (simp at h)
  have hmj := majN_yes hp
  have hme := majN_eq hp
  refine awp_skip ?_
  refine awp_seq ?_
  refine xsr ?_
  refine xlz (op_fieldP rfl rfl rfl fl40_1) ?_
  refine xlz (o_ldA rfl rfl rfl rfl ty38 rfl (xlb rfl) rfl) ?_
  refine xlz (o_call (c78 r.ver) rfl rfl rfl ca78 rfl rfl) ?_
  refine xlz (op_not rfl rfl rfl) ?_
  refine lmv rfl rfl rfl rfl rfl ?_
  refine lsplit rfl (fun hg2 => ?_) (fun hg2 => ?_)
  ·
   have hok : r.ver.ok = true := by have := (g01 hg2); simpa using this
   refine lg (op_fieldP rfl rfl rfl fl40_1) rfl hg2 rfl rfl ?_
   refine lg (op_fieldP rfl rfl rfl fl38_0) rfl hg2 rfl rfl ?_
   refine lg (op_load1 rfl rfl rfl rfl ty3 rfl rfl) rfl hg2 rfl rfl ?_
   refine gmv hg2 rfl rfl rfl rfl rfl ?_
   refine lg (op_binI rfl rfl rfl rfl rfl (.inl rfl) rfl) rfl hg2 rfl rfl ?_
   refine xlz (o_pF rfl rfl (g01 hg2) rfl rfl) ?_
   refine lendF ?_
   refine awp_cond rfl rfl (fun hc3 => ?_) (fun hc3 => ?_)
   ·
    have hv : r.ver.ok = false ∨ r.ver.maj ≠ majN r.path := .inr (by (have h := hc3); rw [hme]; simpa [hp] using h)
    refine xsr ?_
    refine las rfl rfl rfl rfl rfl ?_
    refine lendF ?_
    refine awp_ret ?_
    refine ⟨[_], ⟨rfl, trivial⟩, ?_⟩
    first | exact ent_i rfl (relE_1 hmj).symm | exact ent_i rfl (relE_2 hmj hv).symm | exact ent_i rfl (relE_3 hmj hv hrq).symm | exact ent_i rfl (relE_4 hmj hv hrq (c := false) (dig3 (by rw [← hI, drop_cons hn, List.all_cons, hx]; rfl))).symm | exact ent_i rfl (relE_4 hmj hv hrq (c := true) (dig3 (by rw [← hI]; rfl))).symm
   ·
    have hv : ¬ (r.ver.ok = false ∨ r.ver.maj ≠ majN r.path) := by (have h := hc3); rw [hme]; simp [hp] at h; simp [hok, h]
    refine awp_skip ?_
    refine awp_seq ?_
    refine xsr ?_
    refine xlz (op_fieldP rfl rfl rfl fl40_2) ?_
    refine xlz (op_load1 rfl rfl rfl rfl ty26 rfl rfl) ?_
    refine xlz (o_call (c109 r.reqs hr.len hr.reqs) rfl rfl rfl ca109 rfl rfl) ?_
    refine las rfl rfl rfl rfl rfl ?_
    refine lendF ?_
    refine xsr ?_
    refine lmv rfl rfl rfl rfl rfl ?_
    refine xlz (op_binI rfl rfl rfl rfl rfl (.inl rfl) rfl) ?_
    refine lendF ?_
    refine awp_cond rfl rfl (fun hc4 => ?_) (fun hc4 => ?_)
    ·
     have hrq : checkReqs r.reqs ≠ 0 := by simpa using hc4
     refine xsr ?_
     refine lmv rfl rfl rfl rfl rfl ?_
     refine las rfl rfl rfl rfl rfl ?_
     refine lendF ?_
     refine awp_ret ?_
     refine ⟨[_], ⟨rfl, trivial⟩, ?_⟩
     first | exact ent_i rfl (relE_1 hmj).symm | exact ent_i rfl (relE_2 hmj hv).symm | exact ent_i rfl (relE_3 hmj hv hrq).symm | exact ent_i rfl (relE_4 hmj hv hrq (c := false) (dig3 (by rw [← hI, drop_cons hn, List.all_cons, hx]; rfl))).symm | exact ent_i rfl (relE_4 hmj hv hrq (c := true) (dig3 (by rw [← hI]; rfl))).symm
    ·
     have hrq : checkReqs r.reqs = 0 := by simpa using hc4
     refine awp_skip ?_
     refine awp_seq ?_
     refine xsr ?_
     refine xlz (op_fieldP rfl rfl rfl fl40_3) ?_
     refine xlz (op_load1 rfl rfl rfl rfl ty9 rfl rfl) ?_
     refine xlz (op_fieldP rfl rfl rfl fl40_4) ?_
     refine xlz (op_load1 rfl rfl rfl rfl ty9 rfl rfl) ?_
     refine xlz (op_fieldP rfl rfl rfl fl40_5) ?_
     refine xlz (op_load1 rfl rfl rfl rfl ty9 rfl rfl) ?_
     refine xlz (o_bs rfl rfl rfl rfl rfl ty71 ty9 rfl rfl) ?_
     refine xlz (o_eqI (op_len rfl rfl rfl ty71) (m' := 3) (by simp)) ?_
     refine lmv rfl rfl rfl rfl rfl ?_
     refine lendF ?_
     refine awp_block ?_
     refine awp_loop (fun i => ⟨56, [(43, .d (I (i : Nat))), (41, .tl [.str r.arch, .str r.iface, .str r.cert] none), (42, .d (I 3))], []⟩) (fun i => 3 - i) (fun i => i ≤ 3 ∧ ([r.arch, r.iface, r.cert].drop i).all isDig = [r.arch, r.iface, r.cert].all isDig) 0 ?_ ?_ ?_
     ·
      exact ent_k [] rfl rfl ((by repeat (first | exact .nil | refine xkc ?_))) obs_nil rfl
     ·
      exact ⟨Nat.zero_le _, rfl⟩
     ·
      rintro i ⟨hi, hI⟩
      refine xsr ?_
      refine xlz (op_binI rfl rfl rfl rfl rfl (.inl rfl) rfl) ?_
      refine lendF ?_
      refine awp_seq ?_
      refine awp_cond rfl rfl (fun hc5 => ?_) (fun hc5 => ?_)
      ·
       obtain ⟨x, hn⟩ := rng_lt (l := [r.arch, r.iface, r.cert]) hc5
       have hlt := rng_le hn
       refine awp_skip ?_
       refine awp_seq ?_
       refine awp_block ?_
       refine xsr ?_
       refine xlz (o_ixN (i) rfl rfl rfl rfl ty71 (by first | rfl | omega | (simp; done) | (simp; omega)) hn ty9) ?_
       refine xlz (op_loadC1 rfl rfl rfl ty9 rfl rfl) ?_
       refine las rfl rfl rfl rfl rfl ?_
       refine lendF ?_
       refine xsr ?_
       refine lmv rfl rfl rfl rfl rfl ?_
       refine xlz (op_lenS rfl rfl rfl ty9) ?_
       refine xlz (op_binI rfl rfl rfl rfl rfl (.inl rfl) rfl) ?_
       refine lmv rfl rfl rfl rfl rfl ?_
       refine lsplit rfl (fun hg6 => ?_) (fun hg6 => ?_)
       ·
        have hx0 : ¬ x.length = 0 := by (have h := (g11 hg6)); simp at h; simp [h]
        refine gmv hg6 rfl rfl rfl rfl rfl ?_
        refine lg (op_lenS rfl rfl rfl ty9) rfl hg6 rfl rfl ?_
        refine lg (op_binI rfl rfl rfl rfl rfl (.inl rfl) rfl) rfl hg6 rfl rfl ?_
        refine xlz (o_pT rfl rfl (g11 hg6) rfl rfl) ?_
        refine lendF ?_
        refine awp_cond rfl rfl (fun hc7 => ?_) (fun hc7 => ?_)
        ·
         have hx : isDig x = false := by (have h := hc7); simp only [isDig, Bool.or_eq_false_iff, decide_eq_false_iff_not]; refine ⟨hx0, ?_⟩; simp at h; omega
         refine xsr ?_
         refine las rfl rfl rfl rfl rfl ?_
         refine lendF ?_
         refine awp_ret ?_
         refine ⟨[_], ⟨rfl, trivial⟩, ?_⟩
         first | exact ent_i rfl (relE_1 hmj).symm | exact ent_i rfl (relE_2 hmj hv).symm | exact ent_i rfl (relE_3 hmj hv hrq).symm | exact ent_i rfl (relE_4 hmj hv hrq (c := false) (dig3 (by rw [← hI, drop_cons hn, List.all_cons, hx]; rfl))).symm | exact ent_i rfl (relE_4 hmj hv hrq (c := true) (dig3 (by rw [← hI]; rfl))).symm
        ·
         have hx : isDig x = true := by (have h := hc7); simp [isDig] at h ⊢; omega
         refine awp_skip ?_
         refine awp_region mixed ?_
         refine xlz (o_add rfl rfl rfl rfl (by first | omega | (simp; omega) | (simp at *; omega))) ?_
         refine lmv rfl rfl rfl rfl rfl ?_
         refine lendF ?_
         refine ⟨i + 1, ?_, ?_, ?_⟩
         ·
          exact ⟨hlt, by rw [← hI, drop_cons hn, List.all_cons, hx]; rfl⟩
         ·
          exact ent_k [] rfl rfl ((by repeat (first | exact .nil | refine xkc ?_))) obs_nil rfl
         ·
          have : i < 3 := hlt; omega
       ·
        have hx : isDig x = true := by (have h := (g10 hg6)); simp at h; simp [isDig, h]
        iterate 3 refine lskip rfl hg6 rfl ?_
        refine xlz (o_pF rfl rfl (g10 hg6) rfl rfl) ?_
        refine lendF ?_
        refine awp_condF rfl rfl rfl ?_
        refine awp_skip ?_
        refine awp_region mixed ?_
        refine xlz (o_add rfl rfl rfl rfl (by first | omega | (simp; omega) | (simp at *; omega))) ?_
        refine lmv rfl rfl rfl rfl rfl ?_
        refine lendF ?_
        refine ⟨i + 1, ?_, ?_, ?_⟩
        ·
         exact ⟨hlt, by rw [← hI, drop_cons hn, List.all_cons, hx]; rfl⟩
        ·
         exact ent_k [] rfl rfl ((by repeat (first | exact .nil | refine xkc ?_))) obs_nil rfl
        ·
         have : i < 3 := hlt; omega
      ·
       obtain rfl := rng_ge (l := [r.arch, r.iface, r.cert]) hc5 hi
       refine awp_exit ?_
       refine xsr ?_
       refine las rfl rfl rfl rfl rfl ?_
       refine lendF ?_
       refine awp_ret ?_
       refine ⟨[_], ⟨rfl, trivial⟩, ?_⟩
       first | exact ent_i rfl (relE_1 hmj).symm | exact ent_i rfl (relE_2 hmj hv).symm | exact ent_i rfl (relE_3 hmj hv hrq).symm | exact ent_i rfl (relE_4 hmj hv hrq (c := false) (dig3 (by rw [← hI, drop_cons hn, List.all_cons, hx]; rfl))).symm | exact ent_i rfl (relE_4 hmj hv hrq (c := true) (dig3 (by rw [← hI]; rfl))).symm
  ·
   have hv : r.ver.ok = false ∨ r.ver.maj ≠ majN r.path := .inl (by have := (g00 hg2); simpa using this)
   iterate 5 refine lskip rfl hg2 rfl ?_
   refine xlz (o_pT rfl rfl (g00 hg2) rfl rfl) ?_
   refine lendF ?_
   refine awp_condT rfl rfl rfl ?_
   refine xsr ?_
   refine las rfl rfl rfl rfl rfl ?_
   refine lendF ?_
   refine awp_ret ?_
   refine ⟨[_], ⟨rfl, trivial⟩, ?_⟩
   first | exact ent_i rfl (relE_1 hmj).symm | exact ent_i rfl (relE_2 hmj hv).symm | exact ent_i rfl (relE_3 hmj hv hrq).symm | exact ent_i rfl (relE_4 hmj hv hrq (c := false) (dig3 (by rw [← hI, drop_cons hn, List.all_cons, hx]; rfl))).symm | exact ent_i rfl (relE_4 hmj hv hrq (c := true) (dig3 (by rw [← hI]; rfl))).symm

set_option maxRecDepth 10000 in
theorem c22 (x : Idx) (hl : x.rels.length < 4611686018427387904) (hr : ∀ r ∈ x.rels, r.Sm) : Fn PR 22 [.d x.d] [] [.d (I (checkI x.rels))] [] := by
 refine fn_of_awp Tryz.func22 rfl (N := 42) rfl ?_
 refine xsr ?_
 refine xlz (op_box rfl rfl (by decide) rfl rfl) ?_
 refine las rfl rfl rfl rfl rfl ?_
 refine lendF ?_
 refine awp_seq ?_
 refine xsr ?_
 refine xlz (op_fieldP rfl rfl rfl fl25_0) ?_
 refine xlz (op_load1 rfl rfl rfl rfl ty22 rfl rfl) ?_
 refine xlz (o_lenE (n := x.rels.length) rfl rfl rfl ty22 (by simp)) ?_
 refine xlz (op_binI rfl rfl rfl rfl rfl (.inl rfl) rfl) ?_
 refine lendF ?_
 refine awp_cond rfl rfl (fun hc1 => ?_) (fun hc1 => ?_)
 ·
  have h16 : x.rels.length > 256 := by have := hc1; simp at this; omega
  refine xsr ?_
  refine las rfl rfl rfl rfl rfl ?_
  refine lendF ?_
  refine awp_ret ?_
  refine ⟨[_], ⟨rfl, trivial⟩, ?_⟩
  exact ent_i rfl (by rw [checkI, if_pos h16])
 ·
  have h16 : ¬ x.rels.length > 256 := by have := hc1; simp at this; omega
  refine awp_skip ?_
  refine awp_seq ?_
  refine xsr ?_
  refine xlz (op_fieldP rfl rfl rfl fl25_0) ?_
  refine xlz (op_load1 rfl rfl rfl rfl ty22 rfl rfl) ?_
  refine xlz (o_lenE (n := x.rels.length) rfl rfl rfl ty22 (by simp)) ?_
  refine lmv rfl rfl rfl rfl rfl ?_
  refine lendF ?_
  refine awp_block ?_
  refine awp_loop (fun i => ⟨42, [(14, .d (I (i : Nat))), (1, .ptr 1 0), (12, .d (relsD x.rels)), (13, .d (I x.rels.length))], [(1, .cells [.d (relsD x.rels), .d (.list x.ifs)])]⟩) (fun i => x.rels.length - i) (fun i => i ≤ x.rels.length ∧ relsE (prevQ x.rels i) (x.rels.drop i) = relsE none x.rels) 0 ?_ ?_ ?_
  ·
   exact ent_k [] rfl rfl ((by repeat (first | exact .nil | refine xkc ?_))) (obs_cons rfl (o_eq rfl) obs_nil) rfl
  ·
   exact ⟨Nat.zero_le _, rfl⟩
  ·
   rintro i ⟨hi, hI⟩
   refine xsr ?_
   refine xlz (op_binI rfl rfl rfl rfl rfl (.inl rfl) rfl) ?_
   refine lendF ?_
   refine awp_seq ?_
   refine awp_cond rfl rfl (fun hc2 => ?_) (fun hc2 => ?_)
   ·
    obtain ⟨z, hn⟩ := rng_lt (l := x.rels) (by simpa using hc2)
    have hlt := rng_le hn
    have hmem := List.mem_of_getElem? hn
    refine awp_skip ?_
    refine awp_seq ?_
    refine awp_block ?_
    refine xsr ?_
    refine lmv rfl rfl rfl rfl rfl ?_
    refine xlz (o_ixN (i) rfl rfl rfl rfl ty22 (by first | rfl | omega | (simp; done) | (simp; omega)) hn ty40) ?_
    refine xlz (op_loadCA rfl rfl rfl ty40 rfl (xlb rfl)) ?_
    refine xlz (op_alloc rfl rfl (by decide) ty40 zk40 rfl) ?_
    refine las rfl rfl rfl rfl rfl ?_
    refine xlz (op_store rfl rfl rfl rfl rfl rfl ty40 rfl (xlb rfl)) ?_
    refine lendF ?_
    refine awp_seq ?_
    refine xsr ?_
    refine xlz (o_ldA rfl rfl rfl rfl ty40 rfl (xlb rfl) rfl) ?_
    refine xlz (o_call (c75 z (hr z hmem)) rfl rfl rfl ca75 rfl rfl) ?_
    refine las rfl rfl rfl rfl rfl ?_
    refine lendF ?_
    refine xsr ?_
    refine lmv rfl rfl rfl rfl rfl ?_
    refine xlz (op_binI rfl rfl rfl rfl rfl (.inl rfl) rfl) ?_
    refine lendF ?_
    refine awp_cond rfl rfl (fun hc3 => ?_) (fun hc3 => ?_)
    ·
     have hz0 : relE z ≠ 0 := by simpa using hc3
     refine xsr ?_
     refine lmv rfl rfl rfl rfl rfl ?_
     refine las rfl rfl rfl rfl rfl ?_
     refine lendF ?_
     refine awp_ret ?_
     refine ⟨[_], ⟨rfl, trivial⟩, ?_⟩
     first | exact ent_i rfl (relsE_stop hI h16 hn rfl hz0) | exact ent_i rfl (relsE_stop2 hI h16 hn hz0 hst (by decide)) | exact ent_i rfl (relsE_end hI h16)
    ·
     have hz0 : relE z = 0 := by simpa using hc3
     refine awp_skip ?_
     refine awp_seq ?_
     refine xsr ?_
     refine lmv rfl rfl rfl rfl rfl ?_
     refine xlz (op_binI rfl rfl rfl rfl rfl (.inl rfl) rfl) ?_
     refine lendF ?_
     refine awp_cond rfl rfl (fun hc4 => ?_) (fun hc4 => ?_)
     ·
      have hi0 : i = 0 := by have := hc4; simp at this; omega
      have hst := stepE_z (r := z) (l := x.rels) hi0
      refine awp_exit ?_
      refine awp_region mixed ?_
      refine xlz (o_add rfl rfl rfl rfl (by first | omega | (simp; omega) | (simp at *; omega))) ?_
      refine lmv rfl rfl rfl rfl rfl ?_
      refine lendF ?_
      refine ⟨i + 1, ?_, ?_, ?_⟩
      ·
       exact ⟨rng_le hn, relsE_next hI hn hz0 hst⟩
      ·
       exact ent_k [] rfl rfl ((by repeat (first | exact .nil | refine xkc ?_))) (obs_cons rfl (o_eq rfl) obs_nil) rfl
      ·
       omega
     ·
      have hi0 : 0 < i := by have := hc4; simp at this; omega
      obtain ⟨y, hy⟩ : ∃ y, x.rels[i - 1]? = some y := ⟨_, List.getElem?_eq_getElem (by omega)⟩
      have hpv := prevQ_pos hi0 hy
      refine awp_skip ?_
      refine xsr ?_
      refine xlz (op_fieldP rfl rfl rfl fl25_0) ?_
      refine xlz (op_load1 rfl rfl rfl rfl ty22 rfl rfl) ?_
      refine lmv rfl rfl rfl rfl rfl ?_
      refine xlz (o_sub rfl rfl rfl rfl (by first | omega | (simp; omega) | (simp at *; omega))) ?_
      refine xlz (o_ixN ((i - 1)) rfl rfl rfl rfl ty22 (by first | rfl | omega | (simp; done) | (simp; omega)) hy ty40) ?_
      refine xlz (op_loadCA rfl rfl rfl ty40 rfl (xlb rfl)) ?_
      refine xlz (op_alloc rfl rfl (by decide) ty40 zk40 rfl) ?_
      refine xlz (op_store rfl rfl rfl rfl rfl rfl ty40 rfl (xlb rfl)) ?_
      refine lendF ?_
      refine xsr ?_
      refine xlz (o_ldA rfl rfl rfl rfl ty40 rfl (xlb rfl) rfl) ?_
      refine xlz (o_call (c47 y) rfl rfl rfl ca47 rfl rfl) ?_
      refine xlz (o_ldA rfl rfl rfl rfl ty40 rfl (xlb rfl) rfl) ?_
      refine xlz (o_call (c47 z) rfl rfl rfl ca47 rfl rfl) ?_
      refine xlz (op_eqlA rfl (.inl rfl) rfl rfl rfl rfl ty54 es54 rfl rfl eg54) ?_
      refine lend (fun _ => by kernel_rfl) ?_
      refine awp_cond rfl rfl (fun hc5 => ?_) (fun hc5 => ?_)
      ·
       have hst := stepE_5 (r := z) hpv (cmpR_zero.2 (by (have h := hc5); first | (rw [eqT_sel] at h; simpa using h) | (rw [eqDs_sel] at h; simpa using h)))
       refine xsr ?_
       refine las rfl rfl rfl rfl rfl ?_
       refine lendF ?_
       refine awp_ret ?_
       refine ⟨[_], ⟨rfl, trivial⟩, ?_⟩
       first | exact ent_i rfl (relsE_stop hI h16 hn rfl hz0) | exact ent_i rfl (relsE_stop2 hI h16 hn hz0 hst (by decide)) | exact ent_i rfl (relsE_end hI h16)
      ·
       have hne : ¬ cmpR y z = 0 := fun e => by (have h := hc5); have e2 := cmpR_zero.1 e; first | (rw [eqT_sel] at h; simp at h; exact absurd e2 (by simpa using h)) | (rw [eqDs_sel] at h; simp at h; exact absurd e2 (by simpa using h))
       refine xsr ?_
       refine xlz (o_ldA rfl rfl rfl rfl ty40 rfl (xlb rfl) rfl) ?_
       refine xlz (o_ldA rfl rfl rfl rfl ty40 rfl (xlb rfl) rfl) ?_
       refine xlz (o_call (c76 y z) rfl rfl rfl ca76 rfl rfl) ?_
       refine xlz (op_binI rfl rfl rfl rfl rfl (.inl rfl) rfl) ?_
       refine lendF ?_
       refine awp_cond rfl rfl (fun hc6 => ?_) (fun hc6 => ?_)
       ·
        have hst := stepE_1 (r := z) hpv hne (by simpa using hc6)
        refine xsr ?_
        refine las rfl rfl rfl rfl rfl ?_
        refine lendF ?_
        refine awp_ret ?_
        refine ⟨[_], ⟨rfl, trivial⟩, ?_⟩
        first | exact ent_i rfl (relsE_stop hI h16 hn rfl hz0) | exact ent_i rfl (relsE_stop2 hI h16 hn hz0 hst (by decide)) | exact ent_i rfl (relsE_end hI h16)
       ·
        have hst := stepE_0 (r := z) hpv hne (by simpa using hc6)
        refine awp_skip ?_
        refine awp_region mixed ?_
        refine xlz (o_add rfl rfl rfl rfl (by first | omega | (simp; omega) | (simp at *; omega))) ?_
        refine lmv rfl rfl rfl rfl rfl ?_
        refine lendF ?_
        refine ⟨i + 1, ?_, ?_, ?_⟩
        ·
         exact ⟨rng_le hn, relsE_next hI hn hz0 hst⟩
        ·
         exact ent_k [] rfl rfl ((by repeat (first | exact .nil | refine xkc ?_))) (obs_cons rfl (o_eq rfl) obs_nil) rfl
        ·
         omega
   ·
    obtain rfl := rng_ge (l := x.rels) (by simpa using hc2) hi
    refine awp_exit ?_
    refine xsr ?_
    refine las rfl rfl rfl rfl rfl ?_
    refine lendF ?_
    refine awp_ret ?_
    refine ⟨[_], ⟨rfl, trivial⟩, ?_⟩
    first | exact ent_i rfl (relsE_stop hI h16 hn rfl hz0) | exact ent_i rfl (relsE_stop2 hI h16 hn hz0 hst (by decide)) | exact ent_i rfl (relsE_end hI h16)

end Go.Pm

namespace Go.Pm
open Go.Proofs

set_option maxRecDepth 10000 in
theorem c77 (r : Rls) (hr : r.Sm) (hl : r.reqs.length ≤ 1000000) : Fn PR 77 [.d r.d] [] [.d r.d] [] := by
 refine fn_of_awp Tryz.func77 rfl (N := 27) rfl ?_
 refine xsr ?_
 refine xlz (op_box rfl rfl (by decide) rfl rfl) ?_
 refine xlz (op_alloc rfl rfl (by decide) ty40 zk40 rfl) ?_
 refine lendF ?_
 refine xsr ?_
 refine xlz (op_fieldP rfl rfl rfl fl40_2) ?_
 refine xlz (op_load1 rfl rfl rfl rfl ty26 rfl rfl) ?_
 refine las rfl rfl rfl rfl rfl ?_
 refine lendF ?_
 refine xsr ?_
 refine xlz (op_fieldP rfl rfl rfl fl40_2) ?_
 refine xlz (op_store rfl rfl rfl rfl rfl rfl ty26 rfl (xlb rfl)) ?_
 refine lendF ?_
 refine awp_seq ?_
 refine xsr ?_
 refine lmv rfl rfl rfl rfl rfl ?_
 refine xlz (o_lenE (n := r.reqs.length) rfl rfl rfl ty26 (by simp)) ?_
 refine lmv rfl rfl rfl rfl rfl ?_
 refine lendF ?_
 refine awp_block ?_
 refine awp_ent (ent_tailc 1 4 500023 2 rfl rfl rfl (by decide) rfl) ?_
 refine awp_loop (fun i => ⟨27, [(11, .d (I (i : Nat))), (1, .ptr 1 0), (2, .ptr 2 0), (9, .d (reqsD r.reqs)), (10, .d (I r.reqs.length))], [(1, .cells [.d (.str r.path), .d (I r.ver.maj), .d (I r.ver.min), .d (I r.ver.pat), .tl ((r.reqs.take i).map Req.d) (some 500023), .d (.str r.arch), .d (.str r.iface), .d (.str r.cert), .d (.bool r.yank)]), (500023, .tail 2), (2, .cells [.d (.str []), .d (I 0), .d (I 0), .d (I 0), .nils, .d (.str []), .d (.str []), .d (.str []), .d (.bool false)])]⟩) (fun i => r.reqs.length - i) (fun i => i ≤ r.reqs.length) 0 ?_ ?_ ?_
 ·
  exact ent_k [] rfl rfl ((by repeat (first | exact .nil | refine xkc ?_))) (obs_cons rfl (.cells (by repeat (first | exact .nil | refine .cons (by first | exact k_eq rfl | exact .same _) ?_))) (obs_cons rfl (o_eq rfl) (obs_cons rfl (o_eq rfl) obs_nil))) rfl
 ·
  exact Nat.zero_le _
 ·
  rintro i hi
  refine xsr ?_
  refine xlz (op_binI rfl rfl rfl rfl rfl (.inl rfl) rfl) ?_
  refine lendF ?_
  refine awp_seq ?_
  refine awp_cond rfl rfl (fun hc1 => ?_) (fun hc1 => ?_)
  ·
   obtain ⟨x, hn⟩ := rng_lt (l := r.reqs) (by simpa using hc1)
   have hlt := rng_le hn
   have hmem := List.mem_of_getElem? hn
   refine awp_skip ?_
   refine awp_seq ?_
   refine awp_block ?_
   refine xsr ?_
   refine xlz (o_ixN (i) rfl rfl rfl rfl ty26 (by first | rfl | omega | (simp; done) | (simp; omega)) hn ty51) ?_
   refine xlz (op_loadCA rfl rfl rfl ty51 rfl (xlb rfl)) ?_
   refine xlz (op_alloc rfl rfl (by decide) ty51 zk51 rfl) ?_
   refine xlz (op_store rfl rfl rfl rfl rfl rfl ty51 rfl (xlb rfl)) ?_
   refine lendF ?_
   refine xsr ?_
   refine xlz (op_fieldP rfl rfl rfl fl51_1) ?_
   refine xlz (op_load1 rfl rfl rfl rfl ty49 rfl rfl) ?_
   refine xlz (o_call (c113 x.set (hr.reqs x hmem).set) rfl rfl rfl ca113 rfl rfl) ?_
   refine xlz (op_fieldP rfl rfl rfl fl51_1) ?_
   refine xlz (op_store rfl rfl rfl rfl rfl rfl ty49 rfl (xlb rfl)) ?_
   refine lendF ?_
   refine awp_region mixed ?_
   refine xlz (op_fieldP rfl rfl rfl fl40_2) ?_
   refine xlz (op_load1 rfl rfl rfl rfl ty26 rfl rfl) ?_
   refine xlz (o_ldA rfl rfl rfl rfl ty51 rfl (xlb rfl) rfl) ?_
   refine xlz (o_bs rfl rfl rfl rfl rfl ty26 ty51 rfl rfl) ?_
   refine xlz (o_app rfl rfl (by decide) rfl rfl rfl ty26 ty51 rfl (by decide) rfl (by intro d hd; obtain ⟨x, _, rfl⟩ := List.mem_map.1 hd; rfl) (by simp [D.cells]) (by simp; omega) (by decide) (show _ = (r.reqs.take (i + 1)).map Req.d from by rw [take_succ hn]; simp)) ?_
   refine xlz (op_fieldP rfl rfl rfl fl40_2) ?_
   refine xlz (op_store rfl rfl rfl rfl rfl rfl ty26 rfl (xlb rfl)) ?_
   refine lendF ?_
   refine awp_region mixed ?_
   refine xlz (o_add rfl rfl rfl rfl (by first | omega | (simp; omega) | (simp at *; omega))) ?_
   refine lmv rfl rfl rfl rfl rfl ?_
   refine lendF ?_
   refine ⟨i + 1, ?_, ?_, ?_⟩
   ·
    exact rng_le hn
   ·
    exact ent_k [(500023, 23)] rfl rfl ((by repeat (first | exact .nil | refine xkc ?_))) (obs_cons rfl (.cells (by repeat (first | exact .nil | refine .cons (by first | exact k_eq rfl | exact .same _) ?_))) (obs_cons rfl (o_eq rfl) (obs_cons rfl (o_eq rfl) obs_nil))) rfl
   ·
    omega
  ·
   obtain rfl := rng_ge (l := r.reqs) (by simpa using hc1) hi
   refine awp_exit ?_
   refine xsr ?_
   refine xlz (o_ldA rfl rfl rfl rfl ty40 rfl (xlb rfl) rfl) ?_
   refine xlz (op_store rfl rfl rfl rfl rfl rfl ty40 rfl (xlb rfl)) ?_
   refine lendF ?_
   refine awp_ret ?_
   refine ⟨[_], ⟨⟨_, _, _, _, _, _, _, rfl, rfl, ty40, (xlb rfl), rfl⟩, trivial⟩, ?_⟩
   exact ent_d1 rfl (by simp [List.take_length])

end Go.Pm

namespace Go.Pm
open Go.Proofs

set_option maxRecDepth 10000 in
theorem c46 (x : Idx) (hl : x.rels.length < 4611686018427387904) (hr : ∀ r ∈ x.rels, r.Sm) : Fn PR 46 [.d x.d] [] [.agg [.map 0, .map 1], .d (I (checkI x.rels))] [(0, .map (relM (okR x)) []), (1, .map (grpD (grpOf (okR x))) [])] := by
 refine fn_of_awp Tryz.func46 rfl (N := 43) rfl ?_
 refine xsr ?_
 refine xlz (op_box rfl rfl (by decide) rfl rfl) ?_
 refine xlz (op_alloc rfl rfl (by decide) ty82 zk82 rfl) ?_
 refine las rfl rfl rfl rfl rfl ?_
 refine lendF ?_
 refine xsr ?_
 refine xlz (op_makeMap rfl rfl (by decide)) ?_
 refine xlz (op_makeMap rfl rfl (by decide)) ?_
 refine xlz (o_bldP rfl rfl rfl bl82 ty82 zk82 rfl rfl) ?_
 refine xlz (op_alloc rfl rfl (by decide) ty82 zk82 rfl) ?_
 refine xlz (op_store rfl rfl rfl rfl rfl rfl ty82 rfl (xlb rfl)) ?_
 refine lendF ?_
 refine awp_seq ?_
 refine xsr ?_
 refine xlz (o_ldA rfl rfl rfl rfl ty25 rfl (xlb rfl) rfl) ?_
 refine xlz (o_call (c22 x hl hr) rfl rfl rfl ca22 rfl rfl) ?_
 refine las rfl rfl rfl rfl rfl ?_
 refine lendF ?_
 refine xsr ?_
 refine lmv rfl rfl rfl rfl rfl ?_
 refine xlz (op_binI rfl rfl rfl rfl rfl (.inl rfl) rfl) ?_
 refine lendF ?_
 refine awp_cond rfl rfl (fun hc1 => ?_) (fun hc1 => ?_)
 ·
  have hne : ¬ checkI x.rels = 0 := by simpa using hc1
  have hok : okR x = [] := by unfold okR; rw [if_neg hne]
  refine xsr ?_
  refine xlz (op_loadA rfl rfl rfl rfl ty82 rfl (xlb rfl)) ?_
  refine lmv rfl rfl rfl rfl rfl ?_
  refine xlz (op_store rfl rfl rfl rfl rfl rfl ty82 rfl (xlb rfl)) ?_
  refine las rfl rfl rfl rfl rfl ?_
  refine lendF ?_
  refine awp_ret ?_
  refine ⟨[_, _], ⟨⟨_, _, _, _, _, _, _, rfl, rfl, ty82, (xlb rfl), rfl⟩, rfl, trivial⟩, ?_⟩
  exact ent_k [(0, 8), (1, 9)] rfl rfl (.cons rfl (k_eq rfl) <| .cons rfl (k_eq rfl) .nil) (obs_cons rfl (by rw [hok]; exact o_eq rfl) (obs_cons rfl (by rw [hok]; exact ko_end0) obs_nil)) rfl
 ·
  have h0 : checkI x.rels = 0 := by simpa using hc1
  have hok : okR x = x.rels := by unfold okR; rw [if_pos h0]
  have hsrt := checkI_sorted h0
  have h256 : x.rels.length ≤ 256 := checkI_len h0
  refine awp_skip ?_
  refine awp_seq ?_
  refine xsr ?_
  refine xlz (op_fieldP rfl rfl rfl fl25_0) ?_
  refine xlz (op_load1 rfl rfl rfl rfl ty22 rfl rfl) ?_
  refine xlz (o_lenE (n := x.rels.length) rfl rfl rfl ty22 (by simp)) ?_
  refine lmv rfl rfl rfl rfl rfl ?_
  refine lendF ?_
  refine awp_block ?_
  refine awp_ent (ent_ghost 500040 9 rfl (by decide)) ?_
  refine awp_loop (fun v => ⟨43, [(20, .d (I (v.1 : Nat))), (2, .ptr 2 0), (4, .ptr 4 0), (18, .d (relsD x.rels)), (19, .d (I x.rels.length))], [(8, .map (relM (x.rels.take v.1)) []), (9, .map (grpD v.2.1) (lastE 500040 v.2.2)), (500040, .tail 9), (4, .cells [.map 8, .map 9]), (2, .cells [.d .nilm, .d .nilm])]⟩) (fun v => x.rels.length - v.1) (fun v => v.1 ≤ x.rels.length ∧ gfold (x.rels.take v.1) = (v.2.1, v.2.2) ∧ GOK (x.rels.take v.1) v.2.1 v.2.2) (0, [], none) ?_ ?_ ?_
  ·
   exact ent_k [] rfl rfl ((by repeat (first | exact .nil | refine xkc ?_))) (obs_cons rfl (o_eq rfl) (obs_cons rfl (o_eq rfl) (obs_cons rfl (o_eq rfl) (obs_cons rfl (o_eq rfl) (obs_cons rfl (o_eq rfl) obs_nil))))) rfl
  ·
   exact ⟨Nat.zero_le _, rfl, gok_nil⟩
  ·
   rintro ⟨i, G, cur⟩ ⟨hi, hG, hg⟩
   dsimp only at hi hG hg ⊢
   rcases cur with _ | ⟨p, g⟩
   ·
    obtain ⟨hl0, rfl⟩ := hg.non rfl
    refine xsr ?_
    refine xlz (op_binI rfl rfl rfl rfl rfl (.inl rfl) rfl) ?_
    refine lendF ?_
    refine awp_seq ?_
    refine awp_cond rfl rfl (fun hc2 => ?_) (fun hc2 => ?_)
    ·
     obtain ⟨z, hn⟩ := rng_lt (l := x.rels) (by simpa using hc2)
     have hlt := rng_le hn
     have hs := sorted_take hsrt hn
     refine awp_skip ?_
     refine awp_seq ?_
     refine awp_block ?_
     refine xsr ?_
     refine xlz (o_ixN (i) rfl rfl rfl rfl ty22 (by first | rfl | omega | (simp; done) | (simp; omega)) hn ty40) ?_
     refine xlz (op_loadCA rfl rfl rfl ty40 rfl (xlb rfl)) ?_
     refine xlz (op_alloc rfl rfl (by decide) ty40 zk40 rfl) ?_
     refine xlz (op_store rfl rfl rfl rfl rfl rfl ty40 rfl (xlb rfl)) ?_
     refine lendF ?_
     refine xsr ?_
     refine xlz (op_fieldP rfl rfl rfl fl82_0) ?_
     refine xlz (op_load1 rfl rfl rfl rfl ty79 rfl rfl) ?_
     refine xlz (o_ldA rfl rfl rfl rfl ty40 rfl (xlb rfl) rfl) ?_
     refine xlz (o_call (c47 z) rfl rfl rfl ca47 rfl rfl) ?_
     refine xlz (o_ldA rfl rfl rfl rfl ty40 rfl (xlb rfl) rfl) ?_
     refine xlz (op_mapUpdate rfl rfl rfl rfl rfl rfl rfl rfl ty79 ty54 es54 rfl (ks_rel _) (show _ = ments (relM (x.rels.take (i + 1))) [] from (putX_rel (sel_ne hs)).trans (by rw [take_succ hn]))) ?_
     refine lend (fun _ => by kernel_rfl) ?_
     refine awp_region mixed ?_
     refine xlz (op_fieldP rfl rfl rfl fl82_1) ?_
     refine xlz (op_load1 rfl rfl rfl rfl ty80 rfl rfl) ?_
     refine xlz (op_fieldP rfl rfl rfl fl40_0) ?_
     refine xlz (op_load1 rfl rfl rfl rfl ty9 rfl rfl) ?_
     refine xlz (op_fieldP rfl rfl rfl fl82_1) ?_
     refine xlz (op_load1 rfl rfl rfl rfl ty80 rfl rfl) ?_
     refine xlz (op_fieldP rfl rfl rfl fl40_0) ?_
     refine xlz (op_load1 rfl rfl rfl rfl ty9 rfl rfl) ?_
     refine xlz (op_lookup rfl rfl rfl rfl rfl rfl ty80 ty9 es9 ty22 rfl rfl (ks_grp _ _ (ks_last _ _)) rfl) ?_
     refine xlz (o_ldA rfl rfl rfl rfl ty40 rfl (xlb rfl) rfl) ?_
     refine xlz (o_bs rfl rfl rfl rfl rfl ty22 ty40 rfl rfl) ?_
     refine xlz (o_app rfl rfl (by decide) rfl rfl rfl ty22 ty40 rfl (by decide) rfl (by intro d hd; first | (simp at hd; done) | (obtain ⟨x, _, rfl⟩ := List.mem_map.1 hd; rfl)) (by simp [D.cells]) (by first | (simp; done) | (simp; omega)) (by decide) rfl) ?_
     refine xlz (op_mapUpdate rfl rfl rfl rfl rfl rfl rfl rfl ty80 ty9 es9 rfl (ks_grp _ _ (ks_last _ _)) (show _ = ments (grpD []) [(.str z.path, .tl [z.d] (some 40))] from rfl)) ?_
     refine lend (fun _ => by kernel_rfl) ?_
     refine awp_region mixed ?_
     refine xlz (o_add rfl rfl rfl rfl (by first | omega | (simp; omega) | (simp at *; omega))) ?_
     refine lmv rfl rfl rfl rfl rfl ?_
     refine lendF ?_
     refine ⟨(i + 1, [], some (z.path, [z])), ?_, ?_, ?_⟩
     ·
      rw [take_succ hn]
      exact ⟨hlt, by rw [gfold_snoc, hG]; rfl, gok_none hg z⟩
     ·
      exact ent_k [(500040, 40)] rfl rfl (.cons rfl (k_i (by simp)) <| by repeat (first | exact .nil | refine .cons rfl (by first | exact k_eq rfl | exact .data rfl) ?_)) (obs_cons rfl (ko_rel rfl) (obs_cons rfl (ko_none rfl) (obs_cons rfl (o_eq rfl) (by repeat (first | exact obs_nil | refine obs_cons rfl (o_eq rfl) ?_))))) rfl
     ·
      show x.rels.length - (i + 1) < x.rels.length - i; omega
    ·
     obtain rfl := rng_ge (l := x.rels) (by simpa using hc2) hi
     rw [List.take_length] at hG hg
     refine awp_exit ?_
     refine xsr ?_
     refine xlz (op_loadA rfl rfl rfl rfl ty82 rfl (xlb rfl)) ?_
     refine xlz (op_store rfl rfl rfl rfl rfl rfl ty82 rfl (xlb rfl)) ?_
     refine las rfl rfl rfl rfl rfl ?_
     refine lendF ?_
     refine awp_ret ?_
     refine ⟨[_, _], ⟨⟨_, _, _, _, _, _, _, rfl, rfl, ty82, (xlb rfl), rfl⟩, rfl, trivial⟩, ?_⟩
     exact ent_k [(0, 8), (1, 9)] rfl rfl (.cons rfl (k_eq rfl) <| .cons rfl (k_i h0.symm) .nil) (obs_cons rfl (ko_rel (by rw [List.take_length, hok])) (obs_cons rfl (by rw [hok, show x.rels = [] from by rw [← List.take_length (l := x.rels)]; exact hl0]; exact ko_end0) obs_nil)) rfl
   ·
    refine xsr ?_
    refine xlz (op_binI rfl rfl rfl rfl rfl (.inl rfl) rfl) ?_
    refine lendF ?_
    refine awp_seq ?_
    refine awp_cond rfl rfl (fun hc3 => ?_) (fun hc3 => ?_)
    ·
     obtain ⟨z, hn⟩ := rng_lt (l := x.rels) (by simpa using hc3)
     have hlt := rng_le hn
     have hs := sorted_take hsrt hn
     refine awp_skip ?_
     refine awp_seq ?_
     refine awp_block ?_
     refine xsr ?_
     refine xlz (o_ixN (i) rfl rfl rfl rfl ty22 (by first | rfl | omega | (simp; done) | (simp; omega)) hn ty40) ?_
     refine xlz (op_loadCA rfl rfl rfl ty40 rfl (xlb rfl)) ?_
     refine xlz (op_alloc rfl rfl (by decide) ty40 zk40 rfl) ?_
     refine xlz (op_store rfl rfl rfl rfl rfl rfl ty40 rfl (xlb rfl)) ?_
     refine lendF ?_
     refine xsr ?_
     refine xlz (op_fieldP rfl rfl rfl fl82_0) ?_
     refine xlz (op_load1 rfl rfl rfl rfl ty79 rfl rfl) ?_
     refine xlz (o_ldA rfl rfl rfl rfl ty40 rfl (xlb rfl) rfl) ?_
     refine xlz (o_call (c47 z) rfl rfl rfl ca47 rfl rfl) ?_
     refine xlz (o_ldA rfl rfl rfl rfl ty40 rfl (xlb rfl) rfl) ?_
     refine xlz (op_mapUpdate rfl rfl rfl rfl rfl rfl rfl rfl ty79 ty54 es54 rfl (ks_rel _) (show _ = ments (relM (x.rels.take (i + 1))) [] from (putX_rel (sel_ne hs)).trans (by rw [take_succ hn]))) ?_
     refine lend (fun _ => by kernel_rfl) ?_
     by_cases hp : p = z.path
     ·
      have hgl : g.length ≤ 256 := by have := gok_len hg; simp at this; omega
      refine awp_region mixed ?_
      refine xlz (op_fieldP rfl rfl rfl fl82_1) ?_
      refine xlz (op_load1 rfl rfl rfl rfl ty80 rfl rfl) ?_
      refine xlz (op_fieldP rfl rfl rfl fl40_0) ?_
      refine xlz (op_load1 rfl rfl rfl rfl ty9 rfl rfl) ?_
      refine xlz (op_fieldP rfl rfl rfl fl82_1) ?_
      refine xlz (op_load1 rfl rfl rfl rfl ty80 rfl rfl) ?_
      refine xlz (op_fieldP rfl rfl rfl fl40_0) ?_
      refine xlz (op_load1 rfl rfl rfl rfl ty9 rfl rfl) ?_
      refine xlz (op_lookup rfl rfl rfl rfl rfl rfl ty80 ty9 es9 ty22 rfl rfl (ks_grp _ _ (ks_last _ _)) (getX_same hg hp _ _)) ?_
      refine xlz (o_ldA rfl rfl rfl rfl ty40 rfl (xlb rfl) rfl) ?_
      refine xlz (o_bs rfl rfl rfl rfl rfl ty22 ty40 rfl rfl) ?_
      refine xlz (o_app rfl rfl (by decide) rfl rfl rfl ty22 ty40 rfl (by decide) rfl (by intro d hd; first | (simp at hd; done) | (obtain ⟨x, _, rfl⟩ := List.mem_map.1 hd; rfl)) (by simp [D.cells]) (by first | (simp; done) | (simp; omega)) (by decide) (show _ = (g ++ [z]).map Rls.d from by simp)) ?_
      refine xlz (op_mapUpdate rfl rfl rfl rfl rfl rfl rfl rfl ty80 ty9 es9 rfl (ks_grp _ _ (ks_last _ _)) (putX_same hg hp _ _)) ?_
      refine lend (fun _ => by kernel_rfl) ?_
      refine awp_region mixed ?_
      refine xlz (o_add rfl rfl rfl rfl (by first | omega | (simp; omega) | (simp at *; omega))) ?_
      refine lmv rfl rfl rfl rfl rfl ?_
      refine lendF ?_
      refine ⟨(i + 1, G, some (p, g ++ [z])), ?_, ?_, ?_⟩
      ·
       rw [take_succ hn]
       exact ⟨hlt, by rw [gfold_snoc, hG]; simp only [gstep]; rw [if_pos hp], gok_same hg hp⟩
      ·
       exact ent_k [(500040, 40)] rfl rfl (.cons rfl (k_i (by simp)) <| by repeat (first | exact .nil | refine .cons rfl (by first | exact k_eq rfl | exact .data rfl) ?_)) (obs_cons rfl (ko_rel rfl) (obs_cons rfl (ko_same rfl) (obs_cons rfl (o_eq rfl) (by repeat (first | exact obs_nil | refine obs_cons rfl (o_eq rfl) ?_))))) rfl
      ·
       show x.rels.length - (i + 1) < x.rels.length - i; omega
     ·
      have hbl := (gok_paths hg hs).resolve_left hp
      refine awp_region mixed ?_
      refine xlz (op_fieldP rfl rfl rfl fl82_1) ?_
      refine xlz (op_load1 rfl rfl rfl rfl ty80 rfl rfl) ?_
      refine xlz (op_fieldP rfl rfl rfl fl40_0) ?_
      refine xlz (op_load1 rfl rfl rfl rfl ty9 rfl rfl) ?_
      refine xlz (op_fieldP rfl rfl rfl fl82_1) ?_
      refine xlz (op_load1 rfl rfl rfl rfl ty80 rfl rfl) ?_
      refine xlz (op_fieldP rfl rfl rfl fl40_0) ?_
      refine xlz (op_load1 rfl rfl rfl rfl ty9 rfl rfl) ?_
      refine xlz (op_lookup rfl rfl rfl rfl rfl rfl ty80 ty9 es9 ty22 rfl rfl (ks_grp _ _ (ks_last _ _)) (getX_new hg hbl _ _)) ?_
      refine xlz (o_ldA rfl rfl rfl rfl ty40 rfl (xlb rfl) rfl) ?_
      refine xlz (o_bs rfl rfl rfl rfl rfl ty22 ty40 rfl rfl) ?_
      refine xlz (o_app rfl rfl (by decide) rfl rfl rfl ty22 ty40 rfl (by decide) rfl (by intro d hd; first | (simp at hd; done) | (obtain ⟨x, _, rfl⟩ := List.mem_map.1 hd; rfl)) (by simp [D.cells]) (by first | (simp; done) | (simp; omega)) (by decide) rfl) ?_
      refine xlz (op_mapUpdate rfl rfl rfl rfl rfl rfl rfl rfl ty80 ty9 es9 rfl (ks_grp _ _ (ks_last _ _)) (putX_new hg hbl _ _)) ?_
      refine lend (fun _ => by kernel_rfl) ?_
      refine awp_region mixed ?_
      refine xlz (o_add rfl rfl rfl rfl (by first | omega | (simp; omega) | (simp at *; omega))) ?_
      refine lmv rfl rfl rfl rfl rfl ?_
      refine lendF ?_
      refine ⟨(i + 1, G ++ [(p, g)], some (z.path, [z])), ?_, ?_, ?_⟩
      ·
       rw [take_succ hn]
       exact ⟨hlt, by rw [gfold_snoc, hG]; simp only [gstep]; rw [if_neg hp], gok_new hg hbl⟩
      ·
       exact ent_k [(500040, 40)] rfl rfl (.cons rfl (k_i (by simp)) <| by repeat (first | exact .nil | refine .cons rfl (by first | exact k_eq rfl | exact .data rfl) ?_)) (obs_cons rfl (ko_rel rfl) (obs_cons rfl (ko_new rfl) (obs_cons rfl (o_eq rfl) (by repeat (first | exact obs_nil | refine obs_cons rfl (o_eq rfl) ?_))))) rfl
      ·
       show x.rels.length - (i + 1) < x.rels.length - i; omega
    ·
     obtain rfl := rng_ge (l := x.rels) (by simpa using hc3) hi
     rw [List.take_length] at hG hg
     refine awp_exit ?_
     refine xsr ?_
     refine xlz (op_loadA rfl rfl rfl rfl ty82 rfl (xlb rfl)) ?_
     refine xlz (op_store rfl rfl rfl rfl rfl rfl ty82 rfl (xlb rfl)) ?_
     refine las rfl rfl rfl rfl rfl ?_
     refine lendF ?_
     refine awp_ret ?_
     refine ⟨[_, _], ⟨⟨_, _, _, _, _, _, _, rfl, rfl, ty82, (xlb rfl), rfl⟩, rfl, trivial⟩, ?_⟩
     exact ent_k [(0, 8), (1, 9)] rfl rfl (.cons rfl (k_eq rfl) <| .cons rfl (k_i h0.symm) .nil) (obs_cons rfl (ko_rel (by rw [List.take_length, hok])) (obs_cons rfl (by rw [hok]; exact ko_end hG) obs_nil)) rfl

end Go.Pm

namespace Go.Pm
open Go.Proofs

set_option maxRecDepth 10000 in
set_option maxHeartbeats 2000000 in
theorem c24 (x : Idx) (hl : x.rels.length < 4611686018427387904) (hr : ∀ r ∈ x.rels, r.Sm) (p : Bytes) (v : Ver) : Fn PR 24 [.d x.d, .d (.str p), .d v.d] [] [.d (getR x ⟨p, v⟩).d, .d (.bool (findR (okR x) ⟨p, v⟩).isSome)] [] := by
 refine fn_of_awp Tryz.func24 rfl (N := 29) rfl ?_
 obtain ⟨q, hq⟩ : ∃ q, q = getR x ⟨p, v⟩ := ⟨_, rfl⟩
 have hqs := getR_sm hr ⟨p, v⟩
 rw [← hq] at hqs
 refine xsr ?_
 refine xlz (op_box rfl rfl (by decide) rfl rfl) ?_
 refine xlz (op_box rfl rfl (by decide) rfl rfl) ?_
 refine xlz (op_alloc rfl rfl (by decide) ty40 zk40 rfl) ?_
 refine las rfl rfl rfl rfl rfl ?_
 refine lendF ?_
 refine xsr ?_
 refine xlz (o_ldA rfl rfl rfl rfl ty25 rfl (xlb rfl) rfl) ?_
 refine xlz (o_callX (p := .tup [.agg [.map 1014, .map 2014], .d (I (checkI x.rels))]) (news := [1014, 2014]) (upd := [(1014, some (.map (relM (okR x)) [])), (2014, some (.map (grpD (grpOf (okR x))) []))]) [] 14 (c46 x hl hr) rfl rfl rfl ca46 rfl (by decide) handOK_nil rfl rfl rfl rfl (by kernel_rfl) (by kernel_rfl) (by kernel_rfl)) ?_
 refine lmv rfl rfl rfl rfl rfl ?_
 refine xlz (op_extract rfl rfl rfl rfl) ?_
 refine xlz (op_extract rfl rfl rfl rfl) ?_
 refine xlz (op_alloc rfl rfl (by decide) ty82 zk82 rfl) ?_
 refine xlz (op_store rfl rfl rfl rfl rfl rfl ty82 rfl (xlb rfl)) ?_
 refine las rfl rfl rfl rfl rfl ?_
 refine lendF ?_
 refine xsr ?_
 refine xlz (op_fieldP rfl rfl rfl fl82_0) ?_
 refine xlz (op_load1 rfl rfl rfl rfl ty79 rfl rfl) ?_
 refine lmv rfl rfl rfl rfl rfl ?_
 refine xlz (o_ldA rfl rfl rfl rfl ty38 rfl (xlb rfl) rfl) ?_
 refine xlz (o_bld rfl rfl rfl bl54 ty54 zk54 rfl rfl rfl) ?_
 refine xlz (op_lookup2D rfl rfl rfl rfl rfl rfl ty79 ty54 es54 ty40 rfl rfl (ks_rel _) (show _ = some q.d from by rw [hq]; exact getX_key x ⟨p, v⟩) (hasX_rel _ ⟨p, v⟩)) ?_
 refine lmv rfl rfl rfl rfl rfl ?_
 refine xlz (op_extract rfl rfl rfl rfl) ?_
 refine xlz (op_extract rfl rfl rfl rfl) ?_
 refine xlz (op_alloc rfl rfl (by decide) ty40 zk40 rfl) ?_
 refine xlz (op_store rfl rfl rfl rfl rfl rfl ty40 rfl (xlb rfl)) ?_
 refine las rfl rfl rfl rfl rfl ?_
 refine lendF ?_
 refine xsr ?_
 refine xlz (o_ldA rfl rfl rfl rfl ty40 rfl (xlb rfl) rfl) ?_
 refine xlz (o_call (c77 q hqs.1 (by have := hqs.2; omega)) rfl rfl rfl ca77 rfl rfl) ?_
 refine lmv rfl rfl rfl rfl rfl ?_
 refine xlz (op_store rfl rfl rfl rfl rfl rfl ty40 rfl (xlb rfl)) ?_
 refine las rfl rfl rfl rfl rfl ?_
 refine lendF ?_
 refine awp_ret ?_
 refine ⟨[_, _], ⟨⟨_, _, _, _, _, _, _, rfl, rfl, ty40, (xlb rfl), rfl⟩, rfl, trivial⟩, ?_⟩
 exact ent_d2 rfl (by rw [hq]) rfl rfl

set_option maxRecDepth 10000 in
set_option maxHeartbeats 2000000 in
theorem c37 (x : Idx) (hl : x.rels.length < 4611686018427387904) (hr : ∀ r ∈ x.rels, r.Sm) (p : Bytes) : Fn PR 37 [.d x.d, .d (.str p)] [] [.d (.list ((pathR x p).map fun r => r.ver.d))] [] := by
 refine fn_of_awp Tryz.func37 rfl (N := 31) rfl ?_
 obtain ⟨l, hl2⟩ : ∃ l, l = pathR x p := ⟨_, rfl⟩
 have hlm : ∀ r ∈ l, r.Sm ∧ relE r = 0 := fun r h => by rw [hl2] at h; have := okR_mem (pathR_mem h).1; exact ⟨hr r this.1, this.2⟩
 have hll : l.length ≤ 256 := by rw [hl2]; exact pathR_len x p
 refine xsr ?_
 refine xlz (op_box rfl rfl (by decide) rfl rfl) ?_
 refine las rfl rfl rfl rfl rfl ?_
 refine lendF ?_
 refine xsr ?_
 refine xlz (o_ldA rfl rfl rfl rfl ty25 rfl (xlb rfl) rfl) ?_
 refine xlz (o_callX (p := .tup [.agg [.map 1012, .map 2012], .d (I (checkI x.rels))]) (news := [1012, 2012]) (upd := [(1012, some (.map (relM (okR x)) [])), (2012, some (.map (grpD (grpOf (okR x))) []))]) [] 12 (c46 x hl hr) rfl rfl rfl ca46 rfl (by decide) handOK_nil rfl rfl rfl rfl (by kernel_rfl) (by kernel_rfl) (by kernel_rfl)) ?_
 refine lmv rfl rfl rfl rfl rfl ?_
 refine xlz (op_extract rfl rfl rfl rfl) ?_
 refine xlz (op_extract rfl rfl rfl rfl) ?_
 refine xlz (op_alloc rfl rfl (by decide) ty82 zk82 rfl) ?_
 refine xlz (op_store rfl rfl rfl rfl rfl rfl ty82 rfl (xlb rfl)) ?_
 refine las rfl rfl rfl rfl rfl ?_
 refine lendF ?_
 refine xsr ?_
 refine las rfl rfl rfl rfl rfl ?_
 refine lendF ?_
 refine awp_seq ?_
 refine xsr ?_
 refine xlz (op_fieldP rfl rfl rfl fl82_1) ?_
 refine xlz (op_load1 rfl rfl rfl rfl ty80 rfl rfl) ?_
 refine lmv rfl rfl rfl rfl rfl ?_
 refine xlz (op_lookupD rfl rfl rfl rfl rfl rfl ty80 ty9 es9 ty22 rfl rfl (ks_grp0 _) (show _ = some (relsD l) from by rw [hl2]; exact getX_path x p)) ?_
 refine xlz (o_lenE (n := l.length) rfl rfl rfl ty22 (by simp)) ?_
 refine lmv rfl rfl rfl rfl rfl ?_
 refine lendF ?_
 refine awp_block ?_
 refine awp_ent (ent_tail 7 500007 3 rfl rfl rfl (by decide)) ?_
 refine awp_loop (fun i => ⟨31, [(7, .tl ((l.take i).map fun r => r.ver.d) (some 500007)), (20, .d (I (i : Nat))), (18, .d (relsD l)), (19, .d (I l.length))], [(500007, .tail 3)]⟩) (fun i => l.length - i) (fun i => i ≤ l.length) 0 ?_ ?_ ?_
 ·
  exact ent_k [] rfl rfl ((by repeat (first | exact .nil | refine xkc ?_))) (obs_cons rfl (o_eq rfl) obs_nil) rfl
 ·
  exact Nat.zero_le _
 ·
  rintro i hi
  refine xsr ?_
  refine xlz (op_binI rfl rfl rfl rfl rfl (.inl rfl) rfl) ?_
  refine lendF ?_
  refine awp_seq ?_
  refine awp_cond rfl rfl (fun hc1 => ?_) (fun hc1 => ?_)
  ·
   obtain ⟨x, hn⟩ := rng_lt (l := l) (by simpa using hc1)
   have hlt := rng_le hn
   have hmem := List.mem_of_getElem? hn
   refine awp_skip ?_
   refine awp_seq ?_
   refine awp_block ?_
   refine xsr ?_
   refine xlz (o_ixN (i) rfl rfl rfl rfl ty22 (by first | rfl | omega | (simp; done) | (simp; omega)) hn ty40) ?_
   refine xlz (op_loadCA rfl rfl rfl ty40 rfl (xlb rfl)) ?_
   refine xlz (op_alloc rfl rfl (by decide) ty40 zk40 rfl) ?_
   refine xlz (op_store rfl rfl rfl rfl rfl rfl ty40 rfl (xlb rfl)) ?_
   refine lendF ?_
   refine awp_region mixed ?_
   refine lmv rfl rfl rfl rfl rfl ?_
   refine xlz (op_fieldP rfl rfl rfl fl40_1) ?_
   refine xlz (o_ldA rfl rfl rfl rfl ty38 rfl (xlb rfl) rfl) ?_
   refine xlz (o_bs rfl rfl rfl rfl rfl ty68 ty38 rfl rfl) ?_
   refine xlz (o_app rfl rfl (by decide) rfl rfl rfl ty68 ty38 rfl (by decide) rfl (by intro d hd; obtain ⟨x, _, rfl⟩ := List.mem_map.1 hd; rfl) (by simp [D.cells]) (by simp; omega) (by decide) (show _ = (l.take (i + 1)).map fun r => r.ver.d from by rw [take_succ hn]; simp)) ?_
   refine las rfl rfl rfl rfl rfl ?_
   refine lendF ?_
   refine awp_region mixed ?_
   refine xlz (o_add rfl rfl rfl rfl (by first | omega | (simp; omega) | (simp at *; omega))) ?_
   refine lmv rfl rfl rfl rfl rfl ?_
   refine lendF ?_
   refine ⟨i + 1, ?_, ?_, ?_⟩
   ·
    exact rng_le hn
   ·
    exact ent_k [(500007, 28)] rfl rfl ((by repeat (first | exact .nil | refine xkc ?_))) (obs_cons rfl (o_eq rfl) obs_nil) rfl
   ·
    omega
  ·
   obtain rfl := rng_ge (l := l) (by simpa using hc1) hi
   refine awp_exit ?_
   refine xsr ?_
   refine lmv rfl rfl rfl rfl rfl ?_
   refine las rfl rfl rfl rfl rfl ?_
   refine lendF ?_
   refine awp_ret ?_
   refine ⟨[_], ⟨rfl, trivial⟩, ?_⟩
   exact ent_d1 rfl (by rw [List.take_length, hl2])

end Go.Pm

namespace Go.Pm
open Go.Proofs

set_option maxRecDepth 10000 in
set_option maxHeartbeats 2000000 in
theorem c43 (x : Idx) (hl : x.rels.length < 4611686018427387904) (hr : ∀ r ∈ x.rels, r.Sm) (p : Bytes) : Fn PR 43 [.d x.d, .d (.str p)] [] [.d (setD (canonS (avS (pathR x p))))] [] := by
 refine fn_of_awp Tryz.func43 rfl (N := 39) rfl ?_
 obtain ⟨l, hl2⟩ : ∃ l, l = pathR x p := ⟨_, rfl⟩
 have hlm : ∀ r ∈ l, r.Sm ∧ relE r = 0 := fun r h => by rw [hl2] at h; have := okR_mem (pathR_mem h).1; exact ⟨hr r this.1, this.2⟩
 have hll : l.length ≤ 256 := by rw [hl2]; exact pathR_len x p
 refine xsr ?_
 refine xlz (op_box rfl rfl (by decide) rfl rfl) ?_
 refine las rfl rfl rfl rfl rfl ?_
 refine lendF ?_
 refine xsr ?_
 refine xlz (o_ldA rfl rfl rfl rfl ty25 rfl (xlb rfl) rfl) ?_
 refine xlz (o_callX (p := .tup [.agg [.map 1012, .map 2012], .d (I (checkI x.rels))]) (news := [1012, 2012]) (upd := [(1012, some (.map (relM (okR x)) [])), (2012, some (.map (grpD (grpOf (okR x))) []))]) [] 12 (c46 x hl hr) rfl rfl rfl ca46 rfl (by decide) handOK_nil rfl rfl rfl rfl (by kernel_rfl) (by kernel_rfl) (by kernel_rfl)) ?_
 refine lmv rfl rfl rfl rfl rfl ?_
 refine xlz (op_extract rfl rfl rfl rfl) ?_
 refine xlz (op_extract rfl rfl rfl rfl) ?_
 refine xlz (op_alloc rfl rfl (by decide) ty82 zk82 rfl) ?_
 refine xlz (op_store rfl rfl rfl rfl rfl rfl ty82 rfl (xlb rfl)) ?_
 refine las rfl rfl rfl rfl rfl ?_
 refine lendF ?_
 refine xsr ?_
 refine las rfl rfl rfl rfl rfl ?_
 refine lendF ?_
 refine awp_seq ?_
 refine xsr ?_
 refine xlz (op_fieldP rfl rfl rfl fl82_1) ?_
 refine xlz (op_load1 rfl rfl rfl rfl ty80 rfl rfl) ?_
 refine lmv rfl rfl rfl rfl rfl ?_
 refine xlz (op_lookupD rfl rfl rfl rfl rfl rfl ty80 ty9 es9 ty22 rfl rfl (ks_grp0 _) (show _ = some (relsD l) from by rw [hl2]; exact getX_path x p)) ?_
 refine xlz (o_lenE (n := l.length) rfl rfl rfl ty22 (by simp)) ?_
 refine lmv rfl rfl rfl rfl rfl ?_
 refine lendF ?_
 refine awp_block ?_
 refine awp_ent (ent_tail 7 500007 2 rfl rfl rfl (by decide)) ?_
 refine awp_loop (fun i => ⟨39, [(7, .tl ((avS (l.take i)).map Span.d) (some 500007)), (20, .d (I (i : Nat))), (18, .d (relsD l)), (19, .d (I l.length))], [(500007, .tail 2)]⟩) (fun i => l.length - i) (fun i => i ≤ l.length) 0 ?_ ?_ ?_
 ·
  exact ent_k [] rfl rfl ((by repeat (first | exact .nil | refine xkc ?_))) (obs_cons rfl (o_eq rfl) obs_nil) rfl
 ·
  exact Nat.zero_le _
 ·
  rintro i hi
  refine xsr ?_
  refine xlz (op_binI rfl rfl rfl rfl rfl (.inl rfl) rfl) ?_
  refine lendF ?_
  refine awp_seq ?_
  refine awp_cond rfl rfl (fun hc1 => ?_) (fun hc1 => ?_)
  ·
   obtain ⟨x, hn⟩ := rng_lt (l := l) (by simpa using hc1)
   have hlt := rng_le hn
   have hmem := List.mem_of_getElem? hn
   refine awp_skip ?_
   refine awp_seq ?_
   refine awp_block ?_
   refine xsr ?_
   refine xlz (o_ixN (i) rfl rfl rfl rfl ty22 (by first | rfl | omega | (simp; done) | (simp; omega)) hn ty40) ?_
   refine xlz (op_loadCA rfl rfl rfl ty40 rfl (xlb rfl)) ?_
   refine xlz (op_alloc rfl rfl (by decide) ty40 zk40 rfl) ?_
   refine xlz (op_store rfl rfl rfl rfl rfl rfl ty40 rfl (xlb rfl)) ?_
   refine lendF ?_
   refine xsr ?_
   refine xlz (op_fieldP rfl rfl rfl fl40_6) ?_
   refine xlz (op_load1 rfl rfl rfl rfl ty4 rfl rfl) ?_
   refine xlz (op_not rfl rfl rfl) ?_
   refine lendF ?_
   refine awp_cond rfl rfl (fun hc2 => ?_) (fun hc2 => ?_)
   ·
    have hy : x.yank = false := by simpa using hc2
    have hpb := place_bounds (relE_ver (hlm x hmem).2)
    refine awp_region mixed ?_
    refine lmv rfl rfl rfl rfl rfl ?_
    refine xlz (o_ldA rfl rfl rfl rfl ty40 rfl (xlb rfl) rfl) ?_
    refine xlz (o_call (c48 _) rfl rfl rfl ca48 rfl rfl) ?_
    refine xlz (o_ldA rfl rfl rfl rfl ty40 rfl (xlb rfl) rfl) ?_
    refine xlz (o_call (c48 _) rfl rfl rfl ca48 rfl rfl) ?_
    refine xlz (o_add rfl rfl rfl rfl (by first | omega | (simp; omega) | (simp at *; omega))) ?_
    refine xlz (o_bld rfl rfl rfl bl78 ty78 zk78 rfl rfl rfl) ?_
    refine xlz (o_bs rfl rfl rfl rfl rfl ty49 ty78 rfl rfl) ?_
    refine xlz (o_app rfl rfl (by decide) rfl rfl rfl ty49 ty78 rfl (by decide) rfl (by intro d hd; obtain ⟨x, _, rfl⟩ := List.mem_map.1 hd; rfl) (by simp [D.cells]) (by have := avS_len (l.take i); simp at this ⊢; omega) (by decide) rfl) ?_
    refine las rfl rfl rfl rfl rfl ?_
    refine lend (fun _ => by kernel_rfl) ?_
    refine awp_region mixed ?_
    refine xlz (o_add rfl rfl rfl rfl (by first | omega | (simp; omega) | (simp at *; omega))) ?_
    refine lmv rfl rfl rfl rfl rfl ?_
    refine lendF ?_
    refine ⟨i + 1, ?_, ?_, ?_⟩
    ·
     exact rng_le hn
    ·
     exact ent_k [(500007, 35)] rfl rfl (.cons rfl (k_tl rfl (by rw [take_succ hn, avS_yes hy]; simp)) <| .cons rfl (k_i (by simp)) <| by repeat (first | exact .nil | refine .cons rfl (by first | exact k_eq rfl | exact .data rfl) ?_)) (by repeat (first | exact obs_nil | refine obs_cons rfl (o_eq rfl) ?_)) rfl
    ·
     omega
   ·
    have hy : x.yank = true := by simpa using hc2
    refine awp_skip ?_
    refine awp_region mixed ?_
    refine xlz (o_add rfl rfl rfl rfl (by first | omega | (simp; omega) | (simp at *; omega))) ?_
    refine lmv rfl rfl rfl rfl rfl ?_
    refine lendF ?_
    refine ⟨i + 1, ?_, ?_, ?_⟩
    ·
     exact rng_le hn
    ·
     exact ent_k [] rfl rfl (.cons rfl (k_tl rfl (by rw [take_succ hn, avS_no hy])) <| .cons rfl (k_i (by simp)) <| by repeat (first | exact .nil | refine .cons rfl (by first | exact k_eq rfl | exact .data rfl) ?_)) (by repeat (first | exact obs_nil | refine obs_cons rfl (o_eq rfl) ?_)) rfl
    ·
     omega
  ·
   obtain rfl := rng_ge (l := l) (by simpa using hc1) hi
   refine awp_exit ?_
   refine xsr ?_
   refine xlz (o_mvD rfl rfl rfl rfl) ?_
   refine xlz (o_call (c86 (avS (l.take l.length)) (by rw [List.take_length]; have := avS_len l; omega)) rfl rfl rfl ca86 rfl rfl) ?_
   refine las rfl rfl rfl rfl rfl ?_
   refine lendF ?_
   refine awp_ret ?_
   refine ⟨[_], ⟨rfl, trivial⟩, ?_⟩
   exact ent_d1 rfl (by rw [List.take_length, hl2])

end Go.Pm

namespace Go.Pm
open Go.Proofs

set_option maxRecDepth 10000 in
set_option maxHeartbeats 2000000 in
theorem c51 (R : List Rls) (G : Grp) (ss : List Sel) (hs : ss.length ≤ 1000000) : Fn PR 51 [.agg [.map 1000000, .map 1000001], .d (selsD ss)] [(1000000, .map (relM R) []), (1000001, .map (grpD G) [])] [.d (relsD (selF R ss).1), .d (I (selF R ss).2)] [(1000000, .map (relM R) []), (1000001, .map (grpD G) [])] := by
 refine fn_of_awp Tryz.func51 rfl (N := 51) rfl ?_
 refine xsr ?_
 refine xlz (op_box rfl rfl (by decide) rfl rfl) ?_
 iterate 2 refine las rfl rfl rfl rfl rfl ?_
 refine lendF ?_
 refine awp_seq ?_
 refine xsr ?_
 refine las rfl rfl rfl rfl rfl ?_
 refine lendF ?_
 refine awp_block ?_
 refine awp_loop (fun i => ⟨51, [(6, .d (I (i : Nat))), (1, .d (selsD ss)), (2, .ptr 2 0)], [(2, .cells [.map 1000000, .map 1000001]), (1000001, .map (grpD G) []), (1000000, .map (relM R) [])]⟩) (fun i => ss.length - i) (fun i => 1 ≤ i ∧ incr (ss.drop (i - 1)) = incr ss) 1 ?_ ?_ ?_
 ·
  exact ent_k [] rfl rfl ((by repeat (first | exact .nil | refine xkc ?_))) (obs_cons rfl (o_eq rfl) (obs_cons rfl (o_eq rfl) (obs_cons rfl (o_eq rfl) obs_nil))) rfl
 ·
  exact ⟨Nat.le_refl _, rfl⟩
 ·
  rintro i ⟨hi, hI⟩
  refine awp_seq ?_
  refine xsr ?_
  iterate 2 refine lmv rfl rfl rfl rfl rfl ?_
  refine xlz (o_lenE (n := ss.length) rfl rfl rfl ty27 (by simp)) ?_
  refine xlz (op_binI rfl rfl rfl rfl rfl (.inl rfl) rfl) ?_
  refine lendF ?_
  refine awp_cond rfl rfl (fun hc1 => ?_) (fun hc1 => ?_)
  ·
   obtain ⟨x, hn⟩ := rng_lt (l := ss) (by simpa using hc1)
   have hlt := rng_le hn
   obtain ⟨y, hm⟩ := get_pred hn
   refine awp_skip ?_
   refine awp_seq ?_
   refine awp_block ?_
   refine xsr ?_
   iterate 2 refine lmv rfl rfl rfl rfl rfl ?_
   refine xlz (o_sub rfl rfl rfl rfl (by first | omega | (simp; omega) | (simp at *; omega))) ?_
   refine xlz (o_ixN ((i - 1)) rfl rfl rfl rfl ty27 (by first | rfl | omega | (simp; done) | (simp; omega)) hm ty54) ?_
   refine xlz (op_fieldC rfl rfl rfl fl54_0) ?_
   refine xlz (op_loadC1 rfl rfl rfl ty9 rfl rfl) ?_
   iterate 2 refine lmv rfl rfl rfl rfl rfl ?_
   refine xlz (o_ixN (i) rfl rfl rfl rfl ty27 (by first | rfl | omega | (simp; done) | (simp; omega)) hn ty54) ?_
   refine xlz (op_fieldC rfl rfl rfl fl54_0) ?_
   refine xlz (op_loadC1 rfl rfl rfl ty9 rfl rfl) ?_
   refine xlz (op_binS rfl rfl rfl rfl rfl (fun h => by first | cases h | (simp; omega)) rfl) ?_
   refine lend (fun _ => by kernel_rfl) ?_
   refine awp_cond rfl rfl (fun hc2 => ?_) (fun hc2 => ?_)
   ·
    have hb : Op.bytesLess y.path x.path = false := by simpa using hc2
    have hinc : incr ss = false := by rw [← hI, incr_step hn hm hi, hb]; rfl
    refine xsr ?_
    iterate 2 refine las rfl rfl rfl rfl rfl ?_
    refine lendF ?_
    refine awp_ret ?_
    refine ⟨[_, _], ⟨rfl, rfl, trivial⟩, ?_⟩
    rw [selF_1 hinc]
    exact ent_k [] rfl rfl (.cons rfl (.data rfl) <| .cons rfl (k_eq rfl) .nil) (obs_cons rfl (o_eq rfl) (obs_cons rfl (o_eq rfl) obs_nil)) rfl
   ·
    have hb : Op.bytesLess y.path x.path = true := by simpa using hc2
    refine awp_skip ?_
    refine awp_region mixed ?_
    refine lmv rfl rfl rfl rfl rfl ?_
    refine xlz (o_add rfl rfl rfl rfl (by first | omega | (simp; omega) | (simp at *; omega))) ?_
    refine las rfl rfl rfl rfl rfl ?_
    refine lendF ?_
    refine ⟨i + 1, ?_, ?_, ?_⟩
    ·
     exact ⟨by omega, by rw [← hI, incr_step hn hm hi, Nat.add_sub_cancel, hb]; rfl⟩
    ·
     exact ent_k [] rfl rfl ((by repeat (first | exact .nil | refine xkc ?_))) (obs_cons rfl (o_eq rfl) (obs_cons rfl (o_eq rfl) (obs_cons rfl (o_eq rfl) obs_nil))) rfl
    ·
     omega
  ·
   have hge : ss.length ≤ i := by simpa using hc1
   have hinc : incr ss = true := by rw [← hI, incr_end hge hi]
   refine awp_exit ?_
   refine xsr ?_
   refine las rfl rfl rfl rfl rfl ?_
   refine lendF ?_
   refine awp_seq ?_
   refine xsr ?_
   refine lmv rfl rfl rfl rfl rfl ?_
   refine xlz (o_lenE (n := ss.length) rfl rfl rfl ty27 (by simp)) ?_
   refine lmv rfl rfl rfl rfl rfl ?_
   refine lendF ?_
   refine awp_block ?_
   refine awp_ent (ent_tail 7 500007 9 rfl rfl rfl (by decide)) ?_
   refine awp_loop (fun i => ⟨51, [(7, .tl (((ss.take i).map (getK R)).map Rls.d) (some 500007)), (32, .d (I (i : Nat))), (2, .ptr 2 0), (30, .d (selsD ss)), (31, .d (I ss.length))], [(500007, .tail 9), (2, .cells [.map 1000000, .map 1000001]), (1000001, .map (grpD G) []), (1000000, .map (relM R) [])]⟩) (fun i => ss.length - i) (fun i => i ≤ ss.length ∧ (ss.drop i).all (hasK R) = ss.all (hasK R)) 0 ?_ ?_ ?_
   ·
    exact ent_k [] rfl rfl ((by repeat (first | exact .nil | refine xkc ?_))) (obs_cons rfl (o_eq rfl) (obs_cons rfl (o_eq rfl) (obs_cons rfl (o_eq rfl) (obs_cons rfl (o_eq rfl) obs_nil)))) rfl
   ·
    exact ⟨Nat.zero_le _, rfl⟩
   ·
    rintro i ⟨hi, hI⟩
    refine xsr ?_
    refine xlz (op_binI rfl rfl rfl rfl rfl (.inl rfl) rfl) ?_
    refine lendF ?_
    refine awp_seq ?_
    refine awp_cond rfl rfl (fun hc3 => ?_) (fun hc3 => ?_)
    ·
     obtain ⟨k, hn⟩ := rng_lt (l := ss) (by simpa using hc3)
     have hlt := rng_le hn
     obtain ⟨q, hq⟩ : ∃ q, q = getK R k := ⟨_, rfl⟩
     refine awp_skip ?_
     refine awp_seq ?_
     refine awp_block ?_
     refine xsr ?_
     refine xlz (o_ixN (i) rfl rfl rfl rfl ty27 (by first | rfl | omega | (simp; done) | (simp; omega)) hn ty54) ?_
     refine xlz (op_loadCA rfl rfl rfl ty54 rfl (xlb rfl)) ?_
     refine xlz (op_alloc rfl rfl (by decide) ty54 zk54 rfl) ?_
     refine xlz (op_store rfl rfl rfl rfl rfl rfl ty54 rfl (xlb rfl)) ?_
     refine lendF ?_
     refine xsr ?_
     refine xlz (op_fieldP rfl rfl rfl fl82_0) ?_
     refine xlz (op_load1 rfl rfl rfl rfl ty79 rfl rfl) ?_
     refine xlz (o_ldA rfl rfl rfl rfl ty54 rfl (xlb rfl) rfl) ?_
     refine xlz (op_lookup2D rfl rfl rfl rfl rfl rfl ty79 ty54 es54 ty40 rfl rfl (ks_rel _) (show _ = some q.d from by rw [hq]; exact getX_k R k) (hasX_rel _ k)) ?_
     refine lmv rfl rfl rfl rfl rfl ?_
     refine xlz (op_extract rfl rfl rfl rfl) ?_
     refine xlz (op_extract rfl rfl rfl rfl) ?_
     refine xlz (op_alloc rfl rfl (by decide) ty40 zk40 rfl) ?_
     refine xlz (op_store rfl rfl rfl rfl rfl rfl ty40 rfl (xlb rfl)) ?_
     refine las rfl rfl rfl rfl rfl ?_
     refine lendF ?_
     refine awp_seq ?_
     refine xsr ?_
     refine lmv rfl rfl rfl rfl rfl ?_
     refine xlz (op_not rfl rfl rfl) ?_
     refine lendF ?_
     refine awp_cond rfl rfl (fun hc4 => ?_) (fun hc4 => ?_)
     ·
      have hk : hasK R k = false := by simpa [hasK] using hc4
      have ha : ss.all (hasK R) = false := by rw [← hI, drop_cons hn]; simp [hk]
      refine xsr ?_
      iterate 2 refine las rfl rfl rfl rfl rfl ?_
      refine lendF ?_
      refine awp_ret ?_
      refine ⟨[_, _], ⟨rfl, rfl, trivial⟩, ?_⟩
      rw [selF_6 hinc ha]
      exact ent_k [] rfl rfl (.cons rfl (.data rfl) <| .cons rfl (k_eq rfl) .nil) (obs_cons rfl (o_eq rfl) (obs_cons rfl (o_eq rfl) obs_nil)) rfl
     ·
      have hk : hasK R k = true := by (have h := hc4); simp only [hasK]; simpa using h
      refine awp_skip ?_
      refine awp_region mixed ?_
      refine lmv rfl rfl rfl rfl rfl ?_
      refine xlz (o_ldA rfl rfl rfl rfl ty40 rfl (xlb rfl) rfl) ?_
      refine xlz (o_bs rfl rfl rfl rfl rfl ty22 ty40 rfl rfl) ?_
      refine xlz (o_app rfl rfl (by decide) rfl rfl rfl ty22 ty40 rfl (by decide) rfl (by intro d hd; obtain ⟨x, _, rfl⟩ := List.mem_map.1 hd; rfl) (by simp [D.cells]) (by simp; omega) (by decide) (show _ = ((ss.take (i + 1)).map (getK R)).map Rls.d from by rw [take_succ hn, hq]; simp)) ?_
      refine las rfl rfl rfl rfl rfl ?_
      refine lendF ?_
      refine awp_region mixed ?_
      refine xlz (o_add rfl rfl rfl rfl (by first | omega | (simp; omega) | (simp at *; omega))) ?_
      refine lmv rfl rfl rfl rfl rfl ?_
      refine lendF ?_
      refine ⟨i + 1, ?_, ?_, ?_⟩
      ·
       exact ⟨rng_le hn, by rw [← hI, drop_cons hn]; simp [hk]⟩
      ·
       exact ent_k [(500007, 48)] rfl rfl ((by repeat (first | exact .nil | refine xkc ?_))) (obs_cons rfl (o_eq rfl) (obs_cons rfl (o_eq rfl) (obs_cons rfl (o_eq rfl) (obs_cons rfl (o_eq rfl) obs_nil)))) rfl
      ·
       omega
    ·
     obtain rfl := rng_ge (l := ss) (by simpa using hc3) hi
     refine awp_exit ?_
     refine xsr ?_
     refine lmv rfl rfl rfl rfl rfl ?_
     iterate 2 refine las rfl rfl rfl rfl rfl ?_
     refine lendF ?_
     refine awp_ret ?_
     refine ⟨[_, _], ⟨rfl, rfl, trivial⟩, ?_⟩
     rw [selF_0 hinc (by rw [← hI, List.drop_length]; rfl)]
     exact ent_k [] rfl rfl (.cons rfl (.data (by rw [List.take_length]; rfl)) <| .cons rfl (k_eq rfl) .nil) (obs_cons rfl (ko_rel rfl) (obs_cons rfl (o_eq rfl) obs_nil)) rfl

end Go.Pm

namespace Go.Pm
open Go.Proofs

set_option maxRecDepth 10000 in
theorem c23tn  : Fn PR 23 [.nils] [] [.tl [] (some 0)] [(0, .tail 2)] := by
 refine fn_of_awp Tryz.func23 rfl (N := 8) rfl ?_
 refine xsr ?_
 refine las rfl rfl rfl rfl rfl ?_
 refine lendF ?_
 refine awp_seq ?_
 refine xsr ?_
 refine lmv rfl rfl rfl rfl rfl ?_
 refine xlz (op_nilS rfl (.inl rfl) rfl rfl rfl rfl ty26 rfl) ?_
 refine lendF ?_
 refine awp_condT rfl rfl rfl ?_
 refine xsr ?_
 refine las rfl rfl rfl rfl rfl ?_
 refine lendF ?_
 refine awp_ret ?_
 refine ⟨[_], ⟨rfl, trivial⟩, ?_⟩
 exact (ent_tail (s := St.of [.nils] []) 0 0 2 rfl rfl rfl (by decide)).trans (ent_k [] rfl rfl (.cons rfl (k_eq rfl) .nil) (obs_cons rfl (o_eq rfl) obs_nil) rfl)

set_option maxRecDepth 10000 in
theorem c23tf (s : List Req) (hs : s.length ≤ 1000000) : Fn PR 23 [.nn (s.map Req.d)] [] [.tl (s.map Req.d) (some 0)] [(0, .tail 2)] := by
 refine fn_of_awp Tryz.func23 rfl (N := 8) rfl ?_
 refine xsr ?_
 refine las rfl rfl rfl rfl rfl ?_
 refine lendF ?_
 refine awp_seq ?_
 refine xsr ?_
 refine lmv rfl rfl rfl rfl rfl ?_
 refine xlz (op_nilS rfl (.inl rfl) rfl rfl rfl rfl ty26 rfl) ?_
 refine lendF ?_
 refine awp_condF rfl rfl rfl ?_
 refine awp_skip ?_
 refine xsr ?_
 refine xlz (o_bs rfl rfl rfl rfl rfl ty26 ty51 rfl rfl) ?_
 refine lmv rfl rfl rfl rfl rfl ?_
 refine xlz (o_app rfl rfl (by decide) rfl rfl rfl ty26 ty51 rfl (by decide) rfl (by simp) (by intro d hd; obtain ⟨x, _, rfl⟩ := List.mem_map.1 hd; rfl) (by simp; omega) (by decide) rfl) ?_
 refine las rfl rfl rfl rfl rfl ?_
 refine lendF ?_
 refine awp_ret ?_
 refine ⟨[_], ⟨rfl, trivial⟩, ?_⟩
 exact ent_k [(0, 7)] rfl rfl (.cons rfl (k_tl rfl rfl) .nil) (obs_cons rfl (o_eq rfl) obs_nil) rfl
theorem c23t (s : List Req) (hs : s.length ≤ 1000000) : Fn PR 23 [.d (reqsD s)] [] [.tl (s.map Req.d) (some 0)] [(0, .tail 2)] := fn_nil (fun h => by have : s = [] := List.map_eq_nil_iff.1 h; subst this; exact c23tn) (c23tf s hs)

set_option maxRecDepth 10000 in
set_option maxHeartbeats 2000000 in
theorem c52 (L : List Rls) (q : Req) (hq : q.Sm) : Fn PR 52 [.d q.d, .ptr 1000000 0] [(1000000, .cells [.map 1000001]), (1000001, .map (chM L) [])] [.d (.bool (unsat L q))] [(1000000, .cells [.map 1000001]), (1000001, .map (chM L) [])] := by
 refine fn_of_awp Tryz.func52 rfl (N := 23) rfl ?_
 obtain ⟨r, hr⟩ : ∃ r, r = getP L q.path := ⟨_, rfl⟩
 refine xsr ?_
 refine xlz (op_box rfl rfl (by decide) rfl rfl) ?_
 refine las rfl rfl rfl rfl rfl ?_
 refine lendF ?_
 refine xsr ?_
 refine xlz (op_load1 rfl rfl rfl rfl ty92 rfl rfl) ?_
 refine xlz (op_fieldP rfl rfl rfl fl51_0) ?_
 refine xlz (op_load1 rfl rfl rfl rfl ty9 rfl rfl) ?_
 refine xlz (op_lookup2D rfl rfl rfl rfl rfl rfl ty92 ty9 es9 ty40 rfl rfl (ks_ch _) (show _ = some r.d from by rw [hr]; exact getX_ch L q.path) (hasX_ch _ q.path)) ?_
 refine lmv rfl rfl rfl rfl rfl ?_
 refine xlz (op_extract rfl rfl rfl rfl) ?_
 refine xlz (op_extract rfl rfl rfl rfl) ?_
 refine xlz (op_alloc rfl rfl (by decide) ty40 zk40 rfl) ?_
 refine xlz (op_store rfl rfl rfl rfl rfl rfl ty40 rfl (xlb rfl)) ?_
 refine las rfl rfl rfl rfl rfl ?_
 refine lendF ?_
 refine xsr ?_
 refine lmv rfl rfl rfl rfl rfl ?_
 refine xlz (op_not rfl rfl rfl) ?_
 refine lmv rfl rfl rfl rfl rfl ?_
 refine lsplit rfl (fun hg1 => ?_) (fun hg1 => ?_)
 ·
  refine lg (op_fieldP rfl rfl rfl fl51_1) rfl hg1 rfl rfl ?_
  refine lg (op_load1 rfl rfl rfl rfl ty49 rfl rfl) rfl hg1 rfl rfl ?_
  refine lg (o_ldA rfl rfl rfl rfl ty40 rfl (xlb rfl) rfl) rfl hg1 rfl rfl ?_
  refine lg (o_call (c48 r) rfl rfl rfl ca48 rfl rfl) rfl hg1 rfl rfl ?_
  refine lg (o_call (c28 q.set (placeOf r.ver).1 (by have := hq.set; omega)) rfl rfl rfl ca28 rfl rfl) rfl hg1 rfl rfl ?_
  refine lg (op_not rfl rfl rfl) rfl hg1 rfl rfl ?_
  refine xlz (o_pF rfl rfl (g01 hg1) rfl rfl) ?_
  refine las rfl rfl rfl rfl rfl ?_
  refine lend (fun _ => by kernel_rfl) ?_
  refine awp_ret ?_
  refine ⟨[_], ⟨rfl, trivial⟩, ?_⟩
  exact ent_k [] rfl rfl (.cons rfl (k_b (by simp_all [unsat])) .nil) (obs_cons rfl (o_eq rfl) (obs_cons rfl (o_eq rfl) obs_nil)) rfl
 ·
  iterate 6 refine lskip rfl hg1 rfl ?_
  refine xlz (o_pT rfl rfl (g00 hg1) rfl rfl) ?_
  refine las rfl rfl rfl rfl rfl ?_
  refine lend (fun _ => by kernel_rfl) ?_
  refine awp_ret ?_
  refine ⟨[_], ⟨rfl, trivial⟩, ?_⟩
  exact ent_k [] rfl rfl (.cons rfl (k_b (by simp_all [unsat])) .nil) (obs_cons rfl (o_eq rfl) (obs_cons rfl (o_eq rfl) obs_nil)) rfl

set_option maxRecDepth 10000 in
theorem c79 (L : List Rls) (l : List Req) (hl : l.length < 4611686018427387904) (hq : ∀ q ∈ l, q.Sm) : Fn PR 79 [.d (reqsD l), .fn (.func 52) [] [.ptr 1000000 0]] [(1000000, .cells [.map 1000001]), (1000001, .map (chM L) [])] [.d (I (ixG (unsat L) l 0))] [(1000000, .cells [.map 1000001]), (1000001, .map (chM L) [])] := by
 refine fn_of_awp Tryz.func79 rfl (N := 19) rfl ?_
 refine xsr ?_
 refine las rfl rfl rfl rfl rfl ?_
 refine lendF ?_
 refine awp_seq ?_
 refine xsr ?_
 refine lmv rfl rfl rfl rfl rfl ?_
 refine xlz (o_lenE (n := l.length) rfl rfl rfl ty26 (by simp)) ?_
 refine lmv rfl rfl rfl rfl rfl ?_
 refine lendF ?_
 refine awp_block ?_
 refine awp_loop (fun i => ⟨19, [(8, .d (I (i : Nat))), (0, .d (reqsD l)), (1, .fn (.func 52) [] [.ptr 1000000 0]), (7, .d (I l.length))], [(1000000, .cells [.map 1000001]), (1000001, .map (chM L) [])]⟩) (fun i => l.length - i) (fun i => i ≤ l.length ∧ ixG (unsat L) (l.drop i) i = ixG (unsat L) l 0) 0 ?_ ?_ ?_
 ·
  exact ent_k [] rfl rfl ((by repeat (first | exact .nil | refine xkc ?_))) (obs_cons rfl (o_eq rfl) (obs_cons rfl (o_eq rfl) obs_nil)) rfl
 ·
  exact ⟨Nat.zero_le _, rfl⟩
 ·
  rintro i ⟨hi, hI⟩
  refine xsr ?_
  refine xlz (op_binI rfl rfl rfl rfl rfl (.inl rfl) rfl) ?_
  refine lendF ?_
  refine awp_seq ?_
  refine awp_cond rfl rfl (fun hc1 => ?_) (fun hc1 => ?_)
  ·
   obtain ⟨x, hn⟩ := rng_lt (l := l) (by simpa using hc1)
   have hlt := rng_le hn
   have hmem := List.mem_of_getElem? hn
   refine awp_skip ?_
   refine awp_seq ?_
   refine awp_block ?_
   refine xsr ?_
   refine lmv rfl rfl rfl rfl rfl ?_
   refine las rfl rfl rfl rfl rfl ?_
   refine lendF ?_
   refine xsr ?_
   iterate 3 refine lmv rfl rfl rfl rfl rfl ?_
   refine xlz (o_ixN (i) rfl rfl rfl rfl ty26 (by first | rfl | omega | (simp; done) | (simp; omega)) hn ty51) ?_
   refine xlz (op_loadCA rfl rfl rfl ty51 rfl (xlb rfl)) ?_
   refine xlz (o_callR [1000000, 1000001] (c52 L x (hq x hmem)) rfl rfl rfl ca52 rfl (by decide) (handOK_cons (by decide) (by decide) rfl rfl (handOK_cons (by decide) (by decide) rfl rfl handOK_nil)) rfl) ?_
   refine lendF ?_
   refine awp_cond rfl rfl (fun hc2 => ?_) (fun hc2 => ?_)
   ·
    refine xsr ?_
    refine lmv rfl rfl rfl rfl rfl ?_
    refine las rfl rfl rfl rfl rfl ?_
    refine lendF ?_
    refine awp_ret ?_
    refine ⟨[_], ⟨rfl, trivial⟩, ?_⟩
    exact ent_k [] rfl rfl (.cons rfl (k_i (by rw [← hI, drop_cons hn, ixG_yes hc2])) .nil) (obs_cons rfl (o_eq rfl) (obs_cons rfl (o_eq rfl) obs_nil)) rfl
   ·
    refine awp_skip ?_
    refine awp_region mixed ?_
    refine xlz (o_add rfl rfl rfl rfl (by first | omega | (simp; omega) | (simp at *; omega))) ?_
    refine lmv rfl rfl rfl rfl rfl ?_
    refine lendF ?_
    refine ⟨i + 1, ?_, ?_, ?_⟩
    ·
     exact ⟨rng_le hn, by rw [← hI, drop_cons hn, ixG_no hc2]⟩
    ·
     exact ent_k [] rfl rfl ((by repeat (first | exact .nil | refine xkc ?_))) (obs_cons rfl (o_eq rfl) (obs_cons rfl (o_eq rfl) obs_nil)) rfl
    ·
     omega
  ·
   obtain rfl := rng_ge (l := l) (by simpa using hc1) hi
   refine awp_exit ?_
   refine xsr ?_
   refine las rfl rfl rfl rfl rfl ?_
   refine lendF ?_
   refine awp_ret ?_
   refine ⟨[_], ⟨rfl, trivial⟩, ?_⟩
   exact ent_k [] rfl rfl (.cons rfl (k_i (by rw [← hI]; simp [ixG])) .nil) (obs_cons rfl (o_eq rfl) (obs_cons rfl (o_eq rfl) obs_nil)) rfl

set_option maxRecDepth 10000 in
theorem c26 (L : List Rls) (l : List Req) (hl : l.length < 4611686018427387904) (hq : ∀ q ∈ l, q.Sm) : Fn PR 26 [.d (reqsD l), .fn (.func 52) [] [.ptr 1000000 0]] [(1000000, .cells [.map 1000001]), (1000001, .map (chM L) [])] [.d (.bool (l.any (unsat L)))] [(1000000, .cells [.map 1000001]), (1000001, .map (chM L) [])] := by
 refine fn_of_awp Tryz.func26 rfl (N := 9) rfl ?_
 refine xsr ?_
 refine las rfl rfl rfl rfl rfl ?_
 refine lendF ?_
 refine xsr ?_
 iterate 2 refine lmv rfl rfl rfl rfl rfl ?_
 refine xlz (o_callR [1000000, 1000001] (c79 L l hl hq) rfl rfl rfl ca79 rfl (by decide) (handOK_cons (by decide) (by decide) rfl rfl (handOK_cons (by decide) (by decide) rfl rfl handOK_nil)) rfl) ?_
 refine xlz (op_binI rfl rfl rfl rfl rfl (.inl rfl) rfl) ?_
 refine las rfl rfl rfl rfl rfl ?_
 refine lendF ?_
 refine awp_ret ?_
 refine ⟨[_], ⟨rfl, trivial⟩, ?_⟩
 exact ent_k [] rfl rfl (.cons rfl (k_b (by rw [← ixG_any])) .nil) (obs_cons rfl (o_eq rfl) (obs_cons rfl (o_eq rfl) obs_nil)) rfl

end Go.Pm

namespace Go.Pm
open Go.Proofs

set_option maxRecDepth 10000 in
set_option maxHeartbeats 4000000 in
theorem c15 (x : Idx) (hl : x.rels.length < 4611686018427387904) (hr : ∀ r ∈ x.rels, r.Sm) (needs : List Req) (ss : List Sel) (hq : ∀ q ∈ needs, q.Sm) (hn : needs.length ≤ 1000000) (hs : ss.length ≤ 1000000) : Fn PR 15 [.d x.d, .d (reqsD needs), .d (selsD ss)] [] [.d (I (solI x needs ss))] [] := by
 refine fn_of_awp Tryz.func15 rfl (N := 93) rfl ?_
 obtain ⟨L, hL⟩ : ∃ L, L = (selF (okR x) ss).1 := ⟨_, rfl⟩
 refine xsr ?_
 refine xlz (op_box rfl rfl (by decide) rfl rfl) ?_
 refine las rfl rfl rfl rfl rfl ?_
 refine lendF ?_
 refine xsr ?_
 refine xlz (o_ldA rfl rfl rfl rfl ty25 rfl (xlb rfl) rfl) ?_
 refine xlz (o_callX (p := .tup [.agg [.map 1021, .map 2021], .d (I (checkI x.rels))]) (news := [1021, 2021]) (upd := [(1021, some (.map (relM (okR x)) [])), (2021, some (.map (grpD (grpOf (okR x))) []))]) [] 21 (c46 x hl hr) rfl rfl rfl ca46 rfl (by decide) handOK_nil rfl rfl rfl rfl (by kernel_rfl) (by kernel_rfl) (by kernel_rfl)) ?_
 refine lmv rfl rfl rfl rfl rfl ?_
 refine xlz (op_extract rfl rfl rfl rfl) ?_
 refine xlz (op_extract rfl rfl rfl rfl) ?_
 refine xlz (op_alloc rfl rfl (by decide) ty82 zk82 rfl) ?_
 refine xlz (op_store rfl rfl rfl rfl rfl rfl ty82 rfl (xlb rfl)) ?_
 refine las rfl rfl rfl rfl rfl ?_
 refine lendF ?_
 refine awp_seq ?_
 refine xsr ?_
 refine lmv rfl rfl rfl rfl rfl ?_
 refine xlz (op_binI rfl rfl rfl rfl rfl (.inl rfl) rfl) ?_
 refine lendF ?_
 refine awp_cond rfl rfl (fun hc1 => ?_) (fun hc1 => ?_)
 ·
  have h1 : solI x needs ss = 1 := by unfold solI; rw [if_pos (by simpa using hc1)]
  refine xsr ?_
  refine las rfl rfl rfl rfl rfl ?_
  refine lendF ?_
  refine awp_ret ?_
  refine ⟨[_], ⟨rfl, trivial⟩, ?_⟩
  exact ent_i rfl h1.symm
 ·
  have h0 : checkI x.rels = 0 := by simpa using hc1
  refine awp_skip ?_
  refine xsr ?_
  refine xlz (op_loadA rfl rfl rfl rfl ty82 rfl (xlb rfl)) ?_
  refine lmv rfl rfl rfl rfl rfl ?_
  refine xlz (o_callR [1021, 2021] (c51 (okR x) (grpOf (okR x)) ss hs) rfl rfl rfl ca51 rfl (by decide) (handOK_cons (by decide) (by decide) rfl rfl (handOK_cons (by decide) (by decide) rfl rfl handOK_nil)) rfl) ?_
  refine lmv rfl rfl rfl rfl rfl ?_
  refine xlz (o_v (op_extract rfl rfl rfl rfl) (show _ = PV.d (relsD L) from by rw [hL]; rfl)) ?_
  refine xlz (op_extract rfl rfl rfl rfl) ?_
  iterate 2 refine las rfl rfl rfl rfl rfl ?_
  refine lendF ?_
  refine awp_seq ?_
  refine xsr ?_
  refine lmv rfl rfl rfl rfl rfl ?_
  refine xlz (op_binI rfl rfl rfl rfl rfl (.inl rfl) rfl) ?_
  refine lendF ?_
  refine awp_cond rfl rfl (fun hc2 => ?_) (fun hc2 => ?_)
  ·
   have h2 : solI x needs ss = (selF (okR x) ss).2 := by unfold solI; rw [if_neg (by simpa using h0), if_pos (by simpa using hc2)]
   refine xsr ?_
   refine lmv rfl rfl rfl rfl rfl ?_
   refine las rfl rfl rfl rfl rfl ?_
   refine lendF ?_
   refine awp_ret ?_
   refine ⟨[_], ⟨rfl, trivial⟩, ?_⟩
   exact ent_i rfl h2.symm
  ·
   have h2 : (selF (okR x) ss).2 = 0 := by simpa using hc2
   have hz : ∀ r ∈ L, r.Sm ∧ r.reqs.length ≤ 16 := fun r h => by rw [hL] at h; have := okR_mem (selF_mem h2 r h); exact ⟨hr r this.1, relE_reqs this.2⟩
   have hLl : L.length ≤ 1000000 := by rw [hL, (selF_ok h2).2.2]; simpa using hs
   have hpth : ∀ {i : Nat} {z : Rls}, L[i]? = some z → ∀ r ∈ L.take i, r.path ≠ z.path := by rw [hL]; exact fun h => selF_paths h2 h
   have hsol : solI x needs ss = (if L.any (fun r => r.reqs.any (unsat L)) then 17 else if needs.any (unsat L) then 17 else if (reachW L needs).length < L.length then 8 else 0) := by unfold solI; rw [if_neg (by simpa using h0), if_neg (by simpa using h2), ← hL]
   refine awp_skip ?_
   refine xsr ?_
   refine xlz (op_makeMap rfl rfl (by decide)) ?_
   refine xlz (op_alloc rfl rfl (by decide) ty92 zk92 rfl) ?_
   refine xlz (op_store rfl rfl rfl rfl rfl rfl ty92 rfl (xlb rfl)) ?_
   refine lendF ?_
   refine awp_seq ?_
   refine xsr ?_
   refine lmv rfl rfl rfl rfl rfl ?_
   refine xlz (o_lenE (n := L.length) rfl rfl rfl ty22 (by simp)) ?_
   refine lmv rfl rfl rfl rfl rfl ?_
   refine lendF ?_
   refine awp_block ?_
   refine awp_loop (fun i => ⟨93, [(38, .d (I (i : Nat))), (1, .d (reqsD needs)), (9, .d (relsD L)), (10, .ptr 10 0), (36, .d (relsD L)), (37, .d (I L.length))], [(35, .map (chM (L.take i)) []), (10, .cells [.map 35])]⟩) (fun i => L.length - i) (fun i => i ≤ L.length) 0 ?_ ?_ ?_
   ·
    exact ent_k [] rfl rfl ((by repeat (first | exact .nil | refine xkc ?_))) (obs_cons rfl (o_eq rfl) (obs_cons rfl (o_eq rfl) obs_nil)) rfl
   ·
    exact Nat.zero_le _
   ·
    rintro i hi
    refine xsr ?_
    refine xlz (op_binI rfl rfl rfl rfl rfl (.inl rfl) rfl) ?_
    refine lendF ?_
    refine awp_seq ?_
    refine awp_cond rfl rfl (fun hc3 => ?_) (fun hc3 => ?_)
    ·
     obtain ⟨z, hn⟩ := rng_lt (l := L) (by simpa using hc3)
     have hlt := rng_le hn
     refine awp_skip ?_
     refine awp_seq ?_
     refine awp_block ?_
     refine xsr ?_
     refine xlz (o_ixN (i) rfl rfl rfl rfl ty22 (by first | rfl | omega | (simp; done) | (simp; omega)) hn ty40) ?_
     refine xlz (op_loadCA rfl rfl rfl ty40 rfl (xlb rfl)) ?_
     refine xlz (op_alloc rfl rfl (by decide) ty40 zk40 rfl) ?_
     refine xlz (op_store rfl rfl rfl rfl rfl rfl ty40 rfl (xlb rfl)) ?_
     refine lendF ?_
     refine awp_region mixed ?_
     refine xlz (op_load1 rfl rfl rfl rfl ty92 rfl rfl) ?_
     refine xlz (op_fieldP rfl rfl rfl fl40_0) ?_
     refine xlz (op_load1 rfl rfl rfl rfl ty9 rfl rfl) ?_
     refine xlz (o_ldA rfl rfl rfl rfl ty40 rfl (xlb rfl) rfl) ?_
     refine xlz (op_mapUpdate rfl rfl rfl rfl rfl rfl rfl rfl ty92 ty9 es9 rfl (ks_ch _) (show _ = ments (chM (L.take (i + 1))) [] from (putX_ch (hpth hn)).trans (by rw [take_succ hn]))) ?_
     refine lendF ?_
     refine awp_region mixed ?_
     refine xlz (o_add rfl rfl rfl rfl (by first | omega | (simp; omega) | (simp at *; omega))) ?_
     refine lmv rfl rfl rfl rfl rfl ?_
     refine lendF ?_
     refine ⟨i + 1, ?_, ?_, ?_⟩
     ·
      exact rng_le hn
     ·
      exact ent_k [] rfl rfl ((by repeat (first | exact .nil | refine xkc ?_))) (obs_cons rfl (o_eq rfl) (obs_cons rfl (o_eq rfl) obs_nil)) rfl
     ·
      omega
    ·
     obtain rfl := rng_ge (l := L) (by simpa using hc3) hi
     refine awp_exit ?_
     refine xsr ?_
     refine xlz (op_fn rfl rfl rfl rfl rfl) ?_
     refine las rfl rfl rfl rfl rfl ?_
     refine lendF ?_
     refine awp_seq ?_
     refine xsr ?_
     refine lmv rfl rfl rfl rfl rfl ?_
     refine xlz (o_lenE (n := L.length) rfl rfl rfl ty22 (by simp)) ?_
     refine lmv rfl rfl rfl rfl rfl ?_
     refine lendF ?_
     refine awp_block ?_
     refine awp_loop (fun i => ⟨93, [(50, .d (I (i : Nat))), (1, .d (reqsD needs)), (9, .d (relsD L)), (10, .ptr 10 0), (13, .fn (.func 52) [] [.ptr 10 0]), (48, .d (relsD L)), (49, .d (I L.length))], [(35, .map (chM L) []), (10, .cells [.map 35])]⟩) (fun i => L.length - i) (fun i => i ≤ L.length ∧ (L.drop i).any (fun r => r.reqs.any (unsat L)) = L.any (fun r => r.reqs.any (unsat L))) 0 ?_ ?_ ?_
     ·
      exact ent_k [] rfl rfl ((by repeat (first | exact .nil | refine xkc ?_))) (obs_cons rfl (by rw [List.take_length]; exact o_eq rfl) (obs_cons rfl (o_eq rfl) obs_nil)) rfl
     ·
      exact ⟨Nat.zero_le _, rfl⟩
     ·
      rintro i ⟨hi, hI⟩
      refine xsr ?_
      refine xlz (op_binI rfl rfl rfl rfl rfl (.inl rfl) rfl) ?_
      refine lendF ?_
      refine awp_seq ?_
      refine awp_cond rfl rfl (fun hc4 => ?_) (fun hc4 => ?_)
      ·
       obtain ⟨z, hn⟩ := rng_lt (l := L) (by simpa using hc4)
       have hlt := rng_le hn
       have hmem := List.mem_of_getElem? hn
       refine awp_skip ?_
       refine awp_seq ?_
       refine awp_block ?_
       refine xsr ?_
       refine xlz (o_ixN (i) rfl rfl rfl rfl ty22 (by first | rfl | omega | (simp; done) | (simp; omega)) hn ty40) ?_
       refine xlz (op_loadCA rfl rfl rfl ty40 rfl (xlb rfl)) ?_
       refine xlz (op_alloc rfl rfl (by decide) ty40 zk40 rfl) ?_
       refine xlz (op_store rfl rfl rfl rfl rfl rfl ty40 rfl (xlb rfl)) ?_
       refine lendF ?_
       refine xsr ?_
       refine xlz (op_fieldP rfl rfl rfl fl40_2) ?_
       refine xlz (op_load1 rfl rfl rfl rfl ty26 rfl rfl) ?_
       refine lmv rfl rfl rfl rfl rfl ?_
       refine xlz (o_callR [10, 35] (c26 L z.reqs (by have := (hz z hmem).2; omega) (hz z hmem).1.reqs) rfl rfl rfl ca26 rfl (by decide) (handOK_cons (by decide) (by decide) rfl rfl (handOK_cons (by decide) (by decide) rfl rfl handOK_nil)) rfl) ?_
       refine lendF ?_
       refine awp_cond rfl rfl (fun hc5 => ?_) (fun hc5 => ?_)
       ·
        have hA : L.any (fun r => r.reqs.any (unsat L)) = true := by rw [← hI, drop_cons hn, List.any_cons, hc5]; rfl
        refine xsr ?_
        refine las rfl rfl rfl rfl rfl ?_
        refine lendF ?_
        refine awp_ret ?_
        refine ⟨[_], ⟨rfl, trivial⟩, ?_⟩
        first | exact ent_i rfl (by rw [hsol, if_pos hA]) | exact ent_i rfl (by rw [hsol, hA, hB]; rfl) | exact ent_i rfl (by rw [hsol, hA, hB, if_pos hC]; rfl) | exact ent_i rfl (by rw [hsol, hA, hB, if_neg hC]; rfl)
       ·
        refine awp_skip ?_
        refine awp_region mixed ?_
        refine xlz (o_add rfl rfl rfl rfl (by first | omega | (simp; omega) | (simp at *; omega))) ?_
        refine lmv rfl rfl rfl rfl rfl ?_
        refine lendF ?_
        refine ⟨i + 1, ?_, ?_, ?_⟩
        ·
         exact ⟨rng_le hn, by rw [← hI, drop_cons hn, List.any_cons, hc5]; rfl⟩
        ·
         exact ent_k [] rfl rfl ((by repeat (first | exact .nil | refine xkc ?_))) (obs_cons rfl (o_eq rfl) (obs_cons rfl (o_eq rfl) obs_nil)) rfl
        ·
         omega
      ·
       obtain rfl := rng_ge (l := L) (by simpa using hc4) hi
       have hA : L.any (fun r => r.reqs.any (unsat L)) = false := by rw [← hI, List.drop_length]; rfl
       refine awp_exit ?_
       refine awp_seq ?_
       refine xsr ?_
       iterate 2 refine lmv rfl rfl rfl rfl rfl ?_
       refine xlz (o_callR [10, 35] (c26 L needs (by omega) hq) rfl rfl rfl ca26 rfl (by decide) (handOK_cons (by decide) (by decide) rfl rfl (handOK_cons (by decide) (by decide) rfl rfl handOK_nil)) rfl) ?_
       refine lendF ?_
       refine awp_cond rfl rfl (fun hc6 => ?_) (fun hc6 => ?_)
       ·
        have hB : needs.any (unsat L) = true := hc6
        refine xsr ?_
        refine las rfl rfl rfl rfl rfl ?_
        refine lendF ?_
        refine awp_ret ?_
        refine ⟨[_], ⟨rfl, trivial⟩, ?_⟩
        first | exact ent_i rfl (by rw [hsol, if_pos hA]) | exact ent_i rfl (by rw [hsol, hA, hB]; rfl) | exact ent_i rfl (by rw [hsol, hA, hB, if_pos hC]; rfl) | exact ent_i rfl (by rw [hsol, hA, hB, if_neg hC]; rfl)
       ·
        have hB : needs.any (unsat L) = false := by simpa using hc6
        have hF : mz L [] needs ≤ 17000000 := by have := restN_len (fun r h => (hz r h).2) []; unfold mz; omega
        refine awp_skip ?_
        refine xsr ?_
        refine xlz (op_makeMap rfl rfl (by decide)) ?_
        refine las rfl rfl rfl rfl rfl ?_
        refine lendF ?_
        refine xsr ?_
        refine lmv rfl rfl rfl rfl rfl ?_
        refine xlz (o_callX (p := .tl (needs.map Req.d) (some 1064)) (news := [1064]) (upd := [(1064, some (.tail 2))]) [] 64 (c23t needs hn) rfl rfl rfl ca23 rfl (by decide) handOK_nil rfl rfl rfl rfl (by kernel_rfl) (by kernel_rfl) (by kernel_rfl)) ?_
        refine las rfl rfl rfl rfl rfl ?_
        refine lendF ?_
        refine awp_seq ?_
        refine awp_block ?_
        refine awp_loop (fun v => ⟨93, [(17, .tl (v.2.2.map Req.d) (some 501064)), (9, .d (relsD L)), (10, .ptr 10 0), (16, .map 62)], [(62, .map (seenM v.2.1) []), (501064, .tail 2), (10, .cells [.map 35]), (35, .map (chM L) [])]⟩) (fun v => v.1) (fun v => mz L v.2.1 v.2.2 ≤ v.1 ∧ v.1 ≤ 17000000 ∧ wl L v.1 v.2.1 v.2.2 = wl L (mz L [] needs) [] needs) (mz L [] needs, [], needs) ?_ ?_ ?_
        ·
         exact ent_k [(501064, 1064)] rfl rfl ((by repeat (first | exact .nil | refine xkc ?_))) (obs_cons rfl (o_eq rfl) (obs_cons rfl (o_eq rfl) (obs_cons rfl (o_eq rfl) (obs_cons rfl (o_eq rfl) obs_nil)))) rfl
        ·
         exact ⟨Nat.le_refl _, hF, rfl⟩
        ·
         rintro ⟨f, seen, queue⟩ ⟨hf, hf2, hW⟩
         dsimp only at hf hf2 hW ⊢
         refine awp_seq ?_
         refine xsr ?_
         refine lmv rfl rfl rfl rfl rfl ?_
         refine xlz (op_len rfl rfl rfl ty26) ?_
         refine xlz (op_binI rfl rfl rfl rfl rfl (.inl rfl) rfl) ?_
         refine lendF ?_
         refine awp_cond rfl rfl (fun hc7 => ?_) (fun hc7 => ?_)
         ·
          obtain ⟨q, rest, rfl⟩ : ∃ q rest, queue = q :: rest := by cases queue with | nil => simp at hc7 | cons q rest => exact ⟨q, rest, rfl⟩
          obtain ⟨f, rfl⟩ : ∃ m, f = m + 1 := ⟨f - 1, by simp [mz] at hf; omega⟩
          have hq0 : (q :: rest)[0]? = some q := rfl
          obtain ⟨r0, hr0⟩ : ∃ r, r = getP L q.path := ⟨_, rfl⟩
          refine awp_skip ?_
          refine awp_block ?_
          refine xsr ?_
          refine lmv rfl rfl rfl rfl rfl ?_
          refine xlz (o_ixN (0) rfl rfl rfl rfl ty26 (by first | rfl | omega | (simp; done) | (simp; omega)) hq0 ty51) ?_
          refine xlz (op_loadCA rfl rfl rfl ty51 rfl (xlb rfl)) ?_
          refine xlz (op_alloc rfl rfl (by decide) ty51 zk51 rfl) ?_
          refine xlz (op_store rfl rfl rfl rfl rfl rfl ty51 rfl (xlb rfl)) ?_
          refine lendF ?_
          refine xsr ?_
          refine lmv rfl rfl rfl rfl rfl ?_
          refine xlz (op_sliceT rfl rfl (by decide) rfl rfl ty26 ty51 (by intro d hd; obtain ⟨x, _, rfl⟩ := List.mem_map.1 hd; rfl) (IsZ.isN (.some rfl rfl (n := 1) (by first | rfl | omega | (simp; done) | (simp; omega)))) rfl (by simp)) ?_
          refine las rfl rfl rfl rfl rfl ?_
          refine lendF ?_
          refine xsr ?_
          refine lmv rfl rfl rfl rfl rfl ?_
          refine xlz (op_fieldP rfl rfl rfl fl51_0) ?_
          refine xlz (op_load1 rfl rfl rfl rfl ty9 rfl rfl) ?_
          refine xlz (op_lookupD rfl rfl rfl rfl rfl rfl ty93 ty9 es9 ty4 rfl rfl (ks_seen _) (getX_seen seen q.path)) ?_
          refine xlz (op_not rfl rfl rfl) ?_
          refine lendF ?_
          refine awp_cond rfl rfl (fun hc8 => ?_) (fun hc8 => ?_)
          ·
           have hp : q.path ∉ seen := by simpa using hc8
           refine xsr ?_
           refine lmv rfl rfl rfl rfl rfl ?_
           refine xlz (op_fieldP rfl rfl rfl fl51_0) ?_
           refine xlz (op_load1 rfl rfl rfl rfl ty9 rfl rfl) ?_
           refine xlz (op_mapUpdate rfl rfl rfl rfl rfl rfl rfl rfl ty93 ty9 es9 rfl (ks_seen _) (putX_seen hp)) ?_
           refine lendF ?_
           have hst : r0.reqs.length ≤ restN L seen := by rw [hr0]; have := restN_step hp L; omega
           have hfm : f + 1 ≤ 17000000 := hf2
           refine awp_region mixed ?_
           refine lmv rfl rfl rfl rfl rfl ?_
           refine xlz (op_load1 rfl rfl rfl rfl ty92 rfl rfl) ?_
           refine xlz (op_fieldP rfl rfl rfl fl51_0) ?_
           refine xlz (op_load1 rfl rfl rfl rfl ty9 rfl rfl) ?_
           refine xlz (op_lookupD rfl rfl rfl rfl rfl rfl ty92 ty9 es9 ty40 rfl rfl (ks_ch _) (show _ = some r0.d from by rw [hr0]; exact getX_ch L q.path)) ?_
           refine xlz (op_fieldV rfl rfl rfl fl40v2 ty26 rfl rfl) ?_
           refine xlz (o_app rfl rfl (by decide) rfl rfl rfl ty26 ty51 rfl (by decide) rfl (by intro d hd; obtain ⟨x, _, rfl⟩ := List.mem_map.1 hd; rfl) (by intro d hd; obtain ⟨x, _, rfl⟩ := List.mem_map.1 hd; rfl) (by have := hst; simp [mz] at this hf ⊢; omega) (by decide) (show _ = (rest ++ r0.reqs).map Req.d from by simp)) ?_
           refine las rfl rfl rfl rfl rfl ?_
           refine lendF ?_
           refine ⟨(f, seen ++ [q.path], rest ++ r0.reqs), ?_, ?_, ?_⟩
           ·
            exact ⟨by have := restN_step hp L; rw [← hr0] at this; simp [mz] at hf ⊢; omega, by show f ≤ _; omega, by rw [← hW, wl_new hp, hr0]⟩
           ·
            exact ent_k [(501064, 87)] rfl rfl (.cons rfl (k_eq rfl) <| by repeat (first | exact .nil | refine .cons rfl (by first | exact k_eq rfl | exact .data rfl) ?_)) (by repeat (first | exact obs_nil | refine obs_cons rfl (o_eq rfl) ?_)) rfl
           ·
            show f < f + 1; omega
          ·
           have hp : q.path ∈ seen := by simpa using hc8
           refine awp_skip ?_
           refine ⟨(f, seen, rest), ?_, ?_, ?_⟩
           ·
            exact ⟨by simp [mz] at hf ⊢; omega, by show f ≤ _; omega, by rw [← hW, wl_old hp]⟩
           ·
            exact ent_k [(501064, 72)] rfl rfl (.cons rfl (k_eq rfl) <| by repeat (first | exact .nil | refine .cons rfl (by first | exact k_eq rfl | exact .data rfl) ?_)) (by repeat (first | exact obs_nil | refine obs_cons rfl (o_eq rfl) ?_)) rfl
           ·
            show f < f + 1; omega
         ·
          have hqe : queue = [] := by cases queue with | nil => rfl | cons q rest => exfalso; (have h := hc7); simp at h; done
          subst hqe
          rw [wl_done] at hW
          refine awp_exit ?_
          refine awp_seq ?_
          refine xsr ?_
          refine lmv rfl rfl rfl rfl rfl ?_
          refine xlz (op_lenM rfl rfl rfl rfl ty93) ?_
          refine lmv rfl rfl rfl rfl rfl ?_
          refine xlz (o_lenE (n := L.length) rfl rfl rfl ty22 (by simp)) ?_
          refine xlz (op_binI rfl rfl rfl rfl rfl (.inl rfl) rfl) ?_
          refine lendF ?_
          refine awp_cond rfl rfl (fun hc9 => ?_) (fun hc9 => ?_)
          ·
           have hC : (reachW L needs).length < L.length := by (have h := hc9); rw [reachW, ← hW]; simp [ments, seenM] at h; first | omega | exact h
           refine xsr ?_
           refine las rfl rfl rfl rfl rfl ?_
           refine lendF ?_
           refine awp_ret ?_
           refine ⟨[_], ⟨rfl, trivial⟩, ?_⟩
           first | exact ent_i rfl (by rw [hsol, if_pos hA]) | exact ent_i rfl (by rw [hsol, hA, hB]; rfl) | exact ent_i rfl (by rw [hsol, hA, hB, if_pos hC]; rfl) | exact ent_i rfl (by rw [hsol, hA, hB, if_neg hC]; rfl)
          ·
           have hC : ¬ (reachW L needs).length < L.length := by (have h := hc9); rw [reachW, ← hW]; simp [ments, seenM] at h; omega
           refine awp_skip ?_
           refine xsr ?_
           refine las rfl rfl rfl rfl rfl ?_
           refine lendF ?_
           refine awp_ret ?_
           refine ⟨[_], ⟨rfl, trivial⟩, ?_⟩
           first | exact ent_i rfl (by rw [hsol, if_pos hA]) | exact ent_i rfl (by rw [hsol, hA, hB]; rfl) | exact ent_i rfl (by rw [hsol, hA, hB, if_pos hC]; rfl) | exact ent_i rfl (by rw [hsol, hA, hB, if_neg hC]; rfl)

end Go.Pm

namespace Go.Pm
open Go.Proofs

set_option maxRecDepth 10000 in
set_option maxHeartbeats 4000000 in
theorem c13 (x : Idx) (hl : x.rels.length ≤ 1000000) (hr : ∀ r ∈ x.rels, r.Sm) (needs : List Req) (hq : ∀ q ∈ needs, q.Sm) (hn : needs.length ≤ 1000000) : Fn PR 13 [.d x.d, .d (reqsD needs)] [] [.d (selsD (reachI x needs))] [] := by
 refine fn_of_awp Tryz.func13 rfl (N := 79) rfl ?_
 have hF : mz2 (okR x) ([], needs) ≤ 2000000 := by have := restK_len (L := okR x) (fun r h => relE_reqs (okR_mem h).2) []; have := okR_len x; simp only [mz2]; omega
 refine xsr ?_
 refine xlz (op_box rfl rfl (by decide) rfl rfl) ?_
 refine las rfl rfl rfl rfl rfl ?_
 refine lendF ?_
 refine xsr ?_
 refine xlz (o_ldA rfl rfl rfl rfl ty25 rfl (xlb rfl) rfl) ?_
 refine xlz (o_callX (p := .tup [.agg [.map 1017, .map 2017], .d (I (checkI x.rels))]) (news := [1017, 2017]) (upd := [(1017, some (.map (relM (okR x)) [])), (2017, some (.map (grpD (grpOf (okR x))) []))]) [] 17 (c46 x (by omega) hr) rfl rfl rfl ca46 rfl (by decide) handOK_nil rfl rfl rfl rfl (by kernel_rfl) (by kernel_rfl) (by kernel_rfl)) ?_
 refine lmv rfl rfl rfl rfl rfl ?_
 refine xlz (op_extract rfl rfl rfl rfl) ?_
 refine xlz (op_extract rfl rfl rfl rfl) ?_
 refine xlz (op_alloc rfl rfl (by decide) ty82 zk82 rfl) ?_
 refine xlz (op_store rfl rfl rfl rfl rfl rfl ty82 rfl (xlb rfl)) ?_
 refine las rfl rfl rfl rfl rfl ?_
 refine lendF ?_
 refine xsr ?_
 refine xlz (op_makeMap rfl rfl (by decide)) ?_
 refine las rfl rfl rfl rfl rfl ?_
 refine lendF ?_
 refine xsr ?_
 refine lmv rfl rfl rfl rfl rfl ?_
 refine xlz (o_callX (p := .tl (needs.map Req.d) (some 1022)) (news := [1022]) (upd := [(1022, some (.tail 2))]) [] 22 (c23t needs hn) rfl rfl rfl ca23 rfl (by decide) handOK_nil rfl rfl rfl rfl (by kernel_rfl) (by kernel_rfl) (by kernel_rfl)) ?_
 refine las rfl rfl rfl rfl rfl ?_
 refine lendF ?_
 refine awp_seq ?_
 refine awp_block ?_
 refine awp_loop (fun v => ⟨79, [(8, .tl (v.2.2.map Req.d) (some 501022)), (2, .ptr 2 0), (5, .ptr 5 0), (7, .map 20)], [(20, .map (selM v.2.1) []), (501022, .tail 2), (5, .cells [.map 1017, .map 2017]), (2017, .map (grpD (grpOf (okR x))) []), (1017, .map (relM (okR x)) []), (2, .cells [.d (relsD x.rels), .d (.list x.ifs)])]⟩) (fun v => v.1) (fun v => mz2 (okR x) v.2 ≤ v.1 ∧ v.1 ≤ 2000000 ∧ (∀ z ∈ v.2.2, z.Sm) ∧ wl2 x v.1 v.2.1 v.2.2 = reachS x needs) (mz2 (okR x) ([], needs), [], needs) ?_ ?_ ?_
 ·
  exact ent_k [(501022, 1022)] rfl rfl ((by repeat (first | exact .nil | refine xkc ?_))) (obs_cons rfl (o_eq rfl) (obs_cons rfl (o_eq rfl) (obs_cons rfl (o_eq rfl) (obs_cons rfl (o_eq rfl) (obs_cons rfl (o_eq rfl) (obs_cons rfl (o_eq rfl) obs_nil)))))) rfl
 ·
  exact ⟨Nat.le_refl _, hF, hq, rfl⟩
 ·
  rintro ⟨f, seen, queue⟩ ⟨hf, hf2, hS, hW⟩
  dsimp only at hf hf2 hS hW ⊢
  refine awp_seq ?_
  refine xsr ?_
  refine lmv rfl rfl rfl rfl rfl ?_
  refine xlz (op_len rfl rfl rfl ty26) ?_
  refine xlz (op_binI rfl rfl rfl rfl rfl (.inl rfl) rfl) ?_
  refine lendF ?_
  refine awp_cond rfl rfl (fun hc1 => ?_) (fun hc1 => ?_)
  ·
   obtain ⟨q, rest, rfl⟩ : ∃ q rest, queue = q :: rest := by cases queue with | nil => simp at hc1 | cons q rest => exact ⟨q, rest, rfl⟩
   obtain ⟨f, rfl⟩ : ∃ m, f = m + 1 := ⟨f - 1, by simp [mz2] at hf; omega⟩
   have hq0 : (q :: rest)[0]? = some q := rfl
   have hqs : q.Sm := hS q (by simp)
   obtain ⟨l, hl2⟩ : ∃ l, l = pathR x q.path := ⟨_, rfl⟩
   have hlm : ∀ r ∈ l, r.Sm ∧ r ∈ okR x := fun r h => by rw [hl2] at h; have := okR_mem (pathR_mem h).1; exact ⟨hr r this.1, (pathR_mem h).1⟩
   have hll : l.length ≤ 256 := by rw [hl2]; exact pathR_len x q.path
   have hW2 : wl2 x f (rgo q l (seen, rest)).1 (rgo q l (seen, rest)).2 = reachS x needs := by rw [← hW, hl2]; rfl
   refine awp_skip ?_
   refine awp_block ?_
   refine xsr ?_
   refine lmv rfl rfl rfl rfl rfl ?_
   refine xlz (o_ixN (0) rfl rfl rfl rfl ty26 (by first | rfl | omega | (simp; done) | (simp; omega)) hq0 ty51) ?_
   refine xlz (op_loadCA rfl rfl rfl ty51 rfl (xlb rfl)) ?_
   refine xlz (op_alloc rfl rfl (by decide) ty51 zk51 rfl) ?_
   refine xlz (op_store rfl rfl rfl rfl rfl rfl ty51 rfl (xlb rfl)) ?_
   refine lendF ?_
   refine xsr ?_
   refine lmv rfl rfl rfl rfl rfl ?_
   refine xlz (op_sliceT rfl rfl (by decide) rfl rfl ty26 ty51 (by intro d hd; obtain ⟨x, _, rfl⟩ := List.mem_map.1 hd; rfl) (IsZ.isN (.some rfl rfl (n := 1) (by first | rfl | omega | (simp; done) | (simp; omega)))) rfl (by simp)) ?_
   refine las rfl rfl rfl rfl rfl ?_
   refine lendF ?_
   refine xsr ?_
   refine xlz (op_fieldP rfl rfl rfl fl82_1) ?_
   refine xlz (op_load1 rfl rfl rfl rfl ty80 rfl rfl) ?_
   refine xlz (op_fieldP rfl rfl rfl fl51_0) ?_
   refine xlz (op_load1 rfl rfl rfl rfl ty9 rfl rfl) ?_
   refine xlz (op_lookupD rfl rfl rfl rfl rfl rfl ty80 ty9 es9 ty22 rfl rfl (ks_grp0 _) (show _ = some (relsD l) from by rw [hl2]; exact getX_path x q.path)) ?_
   refine xlz (o_lenE (n := l.length) rfl rfl rfl ty22 (by simp)) ?_
   refine lmv rfl rfl rfl rfl rfl ?_
   refine lendF ?_
   refine awp_block ?_
   refine awp_loop (fun u => ⟨79, [(8, .tl (u.2.2.map Req.d) (some 508030)), (37, .d (I (u.1 : Nat))), (2, .ptr 2 0), (5, .ptr 5 0), (7, .map 20), (9, .ptr 9 0), (28, .d (.agg [.str q.path, setD q.set])), (31, .ptr 5 1), (32, .map 2017), (33, .ptr 9 0), (34, .d (.str q.path)), (35, .d (relsD l)), (36, .d (I l.length))], [(20, .map (selM u.2.1) []), (508030, .tail 2), (9, .cells [.d (.str q.path), .d (setD q.set)]), (2017, .map (grpD (grpOf (okR x))) []), (5, .cells [.map 1017, .map 2017]), (1017, .map (relM (okR x)) []), (2, .cells [.d (relsD x.rels), .d (.list x.ifs)])]⟩) (fun u => l.length - u.1) (fun u => u.1 ≤ l.length ∧ mz2 (okR x) u.2 ≤ 2000000 ∧ (∀ z ∈ u.2.2, z.Sm) ∧ rgo q (l.drop u.1) u.2 = rgo q l (seen, rest)) (0, seen, rest) ?_ ?_ ?_
   ·
    exact ent_k [(508030, 30)] rfl rfl ((by repeat (first | exact .nil | refine xkc ?_))) (obs_cons rfl (o_eq rfl) (obs_cons rfl (o_eq rfl) (obs_cons rfl (o_eq rfl) (obs_cons rfl (o_eq rfl) (obs_cons rfl (o_eq rfl) (obs_cons rfl (o_eq rfl) (obs_cons rfl (o_eq rfl) obs_nil))))))) rfl
   ·
    exact ⟨Nat.zero_le _, by simp [mz2] at hf ⊢; omega, fun z hz => hS z (by simp [hz]), rfl⟩
   ·
    rintro ⟨i, s1, s2⟩ ⟨hi, hz2, hS2, hG⟩
    dsimp only at hi hz2 hS2 hG ⊢
    refine xsr ?_
    refine xlz (op_binI rfl rfl rfl rfl rfl (.inl rfl) rfl) ?_
    refine lendF ?_
    refine awp_seq ?_
    refine awp_cond rfl rfl (fun hc2 => ?_) (fun hc2 => ?_)
    ·
     obtain ⟨z, hn⟩ := rng_lt (l := l) (by simpa using hc2)
     have hlt := rng_le hn
     have hmem := List.mem_of_getElem? hn
     refine awp_skip ?_
     refine awp_seq ?_
     refine awp_block ?_
     refine xsr ?_
     refine xlz (o_ixN (i) rfl rfl rfl rfl ty22 (by first | rfl | omega | (simp; done) | (simp; omega)) hn ty40) ?_
     refine xlz (op_loadCA rfl rfl rfl ty40 rfl (xlb rfl)) ?_
     refine xlz (op_alloc rfl rfl (by decide) ty40 zk40 rfl) ?_
     refine xlz (op_store rfl rfl rfl rfl rfl rfl ty40 rfl (xlb rfl)) ?_
     refine lendF ?_
     refine xsr ?_
     refine lmv rfl rfl rfl rfl rfl ?_
     refine xlz (o_ldA rfl rfl rfl rfl ty40 rfl (xlb rfl) rfl) ?_
     refine xlz (o_call (c47 z) rfl rfl rfl ca47 rfl rfl) ?_
     refine xlz (op_lookupD rfl rfl rfl rfl rfl rfl ty85 ty54 es54 ty4 rfl rfl (ks_selM _) (getX_selM s1 z.sel)) ?_
     refine xlz (op_not rfl rfl rfl) ?_
     refine lmv rfl rfl rfl rfl rfl ?_
     refine lsplit rfl (fun hg3 => ?_) (fun hg3 => ?_)
     ·
      have hns : z.sel ∉ s1 := by simpa using (g11 hg3)
      refine lg (op_fieldP rfl rfl rfl fl51_1) rfl hg3 rfl rfl ?_
      refine lg (op_load1 rfl rfl rfl rfl ty49 rfl rfl) rfl hg3 rfl rfl ?_
      refine lg (o_ldA rfl rfl rfl rfl ty40 rfl (xlb rfl) rfl) rfl hg3 rfl rfl ?_
      refine lg (o_call (c48 z) rfl rfl rfl ca48 rfl rfl) rfl hg3 rfl rfl ?_
      refine lg (o_call (c28 q.set (placeOf z.ver).1 (by have := hqs.set; omega)) rfl rfl rfl ca28 rfl rfl) rfl hg3 rfl rfl ?_
      refine xlz (o_pT rfl rfl (g11 hg3) rfl rfl) ?_
      refine lend (fun _ => by kernel_rfl) ?_
      refine awp_cond rfl rfl (fun hc4 => ?_) (fun hc4 => ?_)
      ·
       have hgo := goR_yes (s := (s1, s2)) hns (q := q) (by simpa using hc4)
       refine xsr ?_
       refine lmv rfl rfl rfl rfl rfl ?_
       refine xlz (o_ldA rfl rfl rfl rfl ty40 rfl (xlb rfl) rfl) ?_
       refine xlz (o_call (c47 z) rfl rfl rfl ca47 rfl rfl) ?_
       refine xlz (op_mapUpdate rfl rfl rfl rfl rfl rfl rfl rfl ty85 ty54 es54 rfl (ks_selM _) (putX_selM hns)) ?_
       refine lendF ?_
       refine awp_region mixed ?_
       refine lmv rfl rfl rfl rfl rfl ?_
       refine xlz (op_fieldP rfl rfl rfl fl40_2) ?_
       refine xlz (op_load1 rfl rfl rfl rfl ty26 rfl rfl) ?_
       refine xlz (o_app rfl rfl (by decide) rfl rfl rfl ty26 ty51 rfl (by decide) rfl (by intro d hd; obtain ⟨x, _, rfl⟩ := List.mem_map.1 hd; rfl) (by intro d hd; obtain ⟨x, _, rfl⟩ := List.mem_map.1 hd; rfl) (by have h1 := goR_mz (q := q) (s := (s1, s2)) (hlm z hmem).2; rw [hgo] at h1; simp [mz2] at h1 hz2 ⊢; omega) (by decide) (show _ = (s2 ++ z.reqs).map Req.d from by simp)) ?_
       refine las rfl rfl rfl rfl rfl ?_
       refine lendF ?_
       refine awp_region mixed ?_
       refine xlz (o_add rfl rfl rfl rfl (by first | omega | (simp; omega) | (simp at *; omega))) ?_
       refine lmv rfl rfl rfl rfl rfl ?_
       refine lendF ?_
       refine ⟨(i + 1, s1 ++ [z.sel], s2 ++ z.reqs), ?_, ?_, ?_⟩
       ·
        have h1 := goR_mz (q := q) (s := (s1, s2)) (hlm z hmem).2
        have h3 := goR_sm (q := q) (s := (s1, s2)) hS2 (hlm z hmem).1
        rw [hgo] at h1 h3
        exact ⟨hlt, Nat.le_trans h1 hz2, h3, by rw [← hG, drop_cons hn, rgo, hgo]⟩
       ·
        exact ent_k [(508030, 59)] rfl rfl (.cons rfl (k_eq rfl) <| .cons rfl (k_i (by simp)) <| by repeat (first | exact .nil | refine .cons rfl (by first | exact k_eq rfl | exact .data rfl) ?_)) (by repeat (first | exact obs_nil | refine obs_cons rfl (o_eq rfl) ?_)) rfl
       ·
        show l.length - (i + 1) < l.length - i; omega
      ·
       have hgo := goR_no (s := (s1, s2)) (q := q) (r := z) (fun h => by (have h2 := hc4); simp_all)
       refine awp_skip ?_
       refine awp_region mixed ?_
       refine xlz (o_add rfl rfl rfl rfl (by first | omega | (simp; omega) | (simp at *; omega))) ?_
       refine lmv rfl rfl rfl rfl rfl ?_
       refine lendF ?_
       refine ⟨(i + 1, s1, s2), ?_, ?_, ?_⟩
       ·
        have h1 := goR_mz (q := q) (s := (s1, s2)) (hlm z hmem).2
        have h3 := goR_sm (q := q) (s := (s1, s2)) hS2 (hlm z hmem).1
        rw [hgo] at h1 h3
        exact ⟨hlt, Nat.le_trans h1 hz2, h3, by rw [← hG, drop_cons hn, rgo, hgo]⟩
       ·
        exact ent_k [] rfl rfl (.cons rfl (k_eq rfl) <| .cons rfl (k_i (by simp)) <| by repeat (first | exact .nil | refine .cons rfl (by first | exact k_eq rfl | exact .data rfl) ?_)) (by repeat (first | exact obs_nil | refine obs_cons rfl (o_eq rfl) ?_)) rfl
       ·
        show l.length - (i + 1) < l.length - i; omega
     ·
      have hns : z.sel ∈ s1 := by simpa using (g10 hg3)
      have hgo := goR_no (s := (s1, s2)) (q := q) (r := z) (fun h => h.1 hns)
      iterate 5 refine lskip rfl hg3 rfl ?_
      refine xlz (o_pF rfl rfl (g10 hg3) rfl rfl) ?_
      refine lend (fun _ => by kernel_rfl) ?_
      refine awp_condF rfl rfl rfl ?_
      refine awp_skip ?_
      refine awp_region mixed ?_
      refine xlz (o_add rfl rfl rfl rfl (by first | omega | (simp; omega) | (simp at *; omega))) ?_
      refine lmv rfl rfl rfl rfl rfl ?_
      refine lendF ?_
      refine ⟨(i + 1, s1, s2), ?_, ?_, ?_⟩
      ·
       have h1 := goR_mz (q := q) (s := (s1, s2)) (hlm z hmem).2
       have h3 := goR_sm (q := q) (s := (s1, s2)) hS2 (hlm z hmem).1
       rw [hgo] at h1 h3
       exact ⟨hlt, Nat.le_trans h1 hz2, h3, by rw [← hG, drop_cons hn, rgo, hgo]⟩
      ·
       exact ent_k [] rfl rfl (.cons rfl (k_eq rfl) <| .cons rfl (k_i (by simp)) <| by repeat (first | exact .nil | refine .cons rfl (by first | exact k_eq rfl | exact .data rfl) ?_)) (by repeat (first | exact obs_nil | refine obs_cons rfl (o_eq rfl) ?_)) rfl
      ·
       show l.length - (i + 1) < l.length - i; omega
    ·
     obtain rfl := rng_ge (l := l) (by simpa using hc2) hi
     refine awp_exit ?_
     refine ⟨(f, s1, s2), ?_, ?_, ?_⟩
     ·
      rw [List.drop_length] at hG
      have hG2 : (s1, s2) = rgo q l (seen, rest) := hG
      exact ⟨by have := rgo_mz (q := q) (l := l) (s := (seen, rest)) fun r h => (hlm r h).2; rw [← hG2] at this; simp [mz2] at hf this ⊢; omega, by show f ≤ _; omega, hS2, by rw [← hW2, ← hG2]⟩
     ·
      exact ent_k [(501022, 508030)] rfl rfl (.cons rfl (k_eq rfl) <| by repeat (first | exact .nil | refine .cons rfl (by first | exact k_eq rfl | exact .data rfl) ?_)) (by repeat (first | exact obs_nil | refine obs_cons rfl (o_eq rfl) ?_)) rfl
     ·
      show f < f + 1; omega
  ·
   have hqe : queue = [] := by cases queue with | nil => rfl | cons q rest => exfalso; (have h := hc1); simp at h; done
   subst hqe
   rw [wl2_done] at hW
   refine awp_exit ?_
   refine xsr ?_
   refine las rfl rfl rfl rfl rfl ?_
   refine lendF ?_
   refine awp_seq ?_
   refine xsr ?_
   refine xlz (op_fieldP rfl rfl rfl fl25_0) ?_
   refine xlz (op_load1 rfl rfl rfl rfl ty22 rfl rfl) ?_
   refine xlz (o_lenE (n := x.rels.length) rfl rfl rfl ty22 (by simp)) ?_
   refine lmv rfl rfl rfl rfl rfl ?_
   refine lendF ?_
   refine awp_block ?_
   refine awp_ent (ent_tail 12 500012 4 rfl rfl rfl (by decide)) ?_
   refine awp_loop (fun i => ⟨79, [(12, .tl ((((x.rels.take i).filter fun r => decide (r.sel ∈ seen)).map Rls.sel).map Sel.d) (some 500012)), (64, .d (I (i : Nat))), (7, .map 20), (62, .d (relsD x.rels)), (63, .d (I x.rels.length))], [(500012, .tail 4), (20, .map (selM seen) [])]⟩) (fun i => x.rels.length - i) (fun i => i ≤ x.rels.length) 0 ?_ ?_ ?_
   ·
    exact ent_k [] rfl rfl ((by repeat (first | exact .nil | refine xkc ?_))) (obs_cons rfl (o_eq rfl) (obs_cons rfl (o_eq rfl) obs_nil)) rfl
   ·
    exact Nat.zero_le _
   ·
    rintro i hi
    refine xsr ?_
    refine xlz (op_binI rfl rfl rfl rfl rfl (.inl rfl) rfl) ?_
    refine lendF ?_
    refine awp_seq ?_
    refine awp_cond rfl rfl (fun hc6 => ?_) (fun hc6 => ?_)
    ·
     obtain ⟨z, hn⟩ := rng_lt (l := x.rels) (by simpa using hc6)
     have hlt := rng_le hn
     refine awp_skip ?_
     refine awp_seq ?_
     refine awp_block ?_
     refine xsr ?_
     refine xlz (o_ixN (i) rfl rfl rfl rfl ty22 (by first | rfl | omega | (simp; done) | (simp; omega)) hn ty40) ?_
     refine xlz (op_loadCA rfl rfl rfl ty40 rfl (xlb rfl)) ?_
     refine xlz (op_alloc rfl rfl (by decide) ty40 zk40 rfl) ?_
     refine xlz (op_store rfl rfl rfl rfl rfl rfl ty40 rfl (xlb rfl)) ?_
     refine lendF ?_
     refine xsr ?_
     refine lmv rfl rfl rfl rfl rfl ?_
     refine xlz (o_ldA rfl rfl rfl rfl ty40 rfl (xlb rfl) rfl) ?_
     refine xlz (o_call (c47 z) rfl rfl rfl ca47 rfl rfl) ?_
     refine xlz (op_lookupD rfl rfl rfl rfl rfl rfl ty85 ty54 es54 ty4 rfl rfl (ks_selM _) (getX_selM seen z.sel)) ?_
     refine lendF ?_
     refine awp_cond rfl rfl (fun hc7 => ?_) (fun hc7 => ?_)
     ·
      have hz : z.sel ∈ seen := by simpa using hc7
      refine awp_region mixed ?_
      refine lmv rfl rfl rfl rfl rfl ?_
      refine xlz (o_ldA rfl rfl rfl rfl ty40 rfl (xlb rfl) rfl) ?_
      refine xlz (o_call (c47 z) rfl rfl rfl ca47 rfl rfl) ?_
      refine xlz (o_bs rfl rfl rfl rfl rfl ty27 ty54 rfl rfl) ?_
      refine xlz (o_app rfl rfl (by decide) rfl rfl rfl ty27 ty54 rfl (by decide) rfl (by intro d hd; obtain ⟨x, _, rfl⟩ := List.mem_map.1 hd; rfl) (by simp [D.cells]) (by have := List.length_filter_le (fun r : Rls => decide (r.sel ∈ seen)) (x.rels.take i); simp at this ⊢; omega) (by decide) (show _ = (((x.rels.take i).filter fun r => decide (r.sel ∈ seen)).map Rls.sel ++ [z.sel]).map Sel.d from by simp)) ?_
      refine las rfl rfl rfl rfl rfl ?_
      refine lendF ?_
      refine awp_region mixed ?_
      refine xlz (o_add rfl rfl rfl rfl (by first | omega | (simp; omega) | (simp at *; omega))) ?_
      refine lmv rfl rfl rfl rfl rfl ?_
      refine lendF ?_
      refine ⟨i + 1, ?_, ?_, ?_⟩
      ·
       exact rng_le hn
      ·
       exact ent_k [(500012, 76)] rfl rfl (.cons rfl (k_tl rfl (by rw [take_succ hn, fil_yes hz])) <| .cons rfl (k_i (by simp)) <| by repeat (first | exact .nil | refine .cons rfl (by first | exact k_eq rfl | exact .data rfl) ?_)) (by repeat (first | exact obs_nil | refine obs_cons rfl (o_eq rfl) ?_)) rfl
      ·
       omega
     ·
      have hz : z.sel ∉ seen := by simpa using hc7
      refine awp_skip ?_
      refine awp_region mixed ?_
      refine xlz (o_add rfl rfl rfl rfl (by first | omega | (simp; omega) | (simp at *; omega))) ?_
      refine lmv rfl rfl rfl rfl rfl ?_
      refine lendF ?_
      refine ⟨i + 1, ?_, ?_, ?_⟩
      ·
       exact rng_le hn
      ·
       exact ent_k [] rfl rfl (.cons rfl (k_tl rfl (by rw [take_succ hn, fil_no hz])) <| .cons rfl (k_i (by simp)) <| by repeat (first | exact .nil | refine .cons rfl (by first | exact k_eq rfl | exact .data rfl) ?_)) (by repeat (first | exact obs_nil | refine obs_cons rfl (o_eq rfl) ?_)) rfl
      ·
       omega
    ·
     obtain rfl := rng_ge (l := x.rels) (by simpa using hc6) hi
     refine awp_exit ?_
     refine xsr ?_
     refine lmv rfl rfl rfl rfl rfl ?_
     refine las rfl rfl rfl rfl rfl ?_
     refine lendF ?_
     refine awp_ret ?_
     refine ⟨[_], ⟨rfl, trivial⟩, ?_⟩
     exact ent_d1 rfl (by rw [List.take_length, hW]; rfl)

end Go.Pm
