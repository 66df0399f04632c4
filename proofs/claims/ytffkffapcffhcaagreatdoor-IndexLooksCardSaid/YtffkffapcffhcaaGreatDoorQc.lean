/- Part 3 of a proof about the index of a registry: plain functions, and walks through the program that show that it computes them (W5 .. W11). Own work. -/
import Derived.Test.YtffkffapcffhcaaGreatDoorQb
import Derived.ChangeArms
import Derived.DataReads
import Derived.Deep.Slices
import Derived.Carry
import Derived.Shelf.Vars
import Derived.ChangeMaps5
set_option autoImplicit false
set_option linter.unusedVariables false
set_option linter.unusedSimpArgs false
namespace Go.Pm
open Go.Proofs

set_option maxRecDepth 10000 in
theorem c125 (g : Nat) (f : UInt8 → Bool) (hca : callable PR g = true) (hcb : ∀ c : UInt8, Fn PR g [.d (.int .u8 c.toNat)] [] [.d (.bool (f c))] []) (s : Bytes) (hs : s.length < 4611686018427387904) : Fn PR 125 [.d (.str s), .fn (.func g) [] []] [] [.d (.bool (s.all f))] [] := by
 refine fn_of_awp Tryz.func125 rfl (N := 18) rfl ?_
 refine xsr ?_
 refine xlz (o_as rfl rfl rfl) ?_
 refine lendF ?_
 refine awp_seq ?_
 refine xsr ?_
 refine xlz (o_mv rfl rfl rfl) ?_
 refine xlz (op_lenS rfl rfl rfl ty9) ?_
 refine xlz (o_mv rfl rfl rfl) ?_
 refine lendF ?_
 refine awp_block ?_
 refine awp_loop (fun i => ⟨18, [(0, .d (.str s)), (1, .fn (.func g) [] []), (7, .d (I s.length)), (8, .d (I (i : Nat)))], []⟩) (fun i => s.length - i) (fun i => i ≤ s.length ∧ (s.drop i).all f = s.all f) 0 ?_ ?_ ?_
 ·
  exact ent_k [] rfl rfl (.cons rfl (by first | exact k_eq rfl | exact k_i (by simp) | exact .data rfl | exact k_d (by simp) | exact k_i (by simp; omega)) <| .cons rfl (by first | exact k_eq rfl | exact k_i (by simp) | exact .data rfl | exact k_d (by simp) | exact k_i (by simp; omega)) <| .cons rfl (by first | exact k_eq rfl | exact k_i (by simp) | exact .data rfl | exact k_d (by simp) | exact k_i (by simp; omega)) <| .cons rfl (by first | exact k_eq rfl | exact k_i (by simp) | exact .data rfl | exact k_d (by simp) | exact k_i (by simp; omega)) <| .nil) obs_nil rfl
 ·
  exact ⟨Nat.zero_le _, rfl⟩
 ·
  rintro i ⟨hi, hI⟩
  refine xsr ?_
  refine xlz (op_binI rfl rfl rfl rfl rfl (.inl rfl) rfl) ?_
  refine lendF ?_
  refine awp_seq ?_
  refine awp_cond rfl rfl (fun hc1 => ?_) (fun hc1 => ?_)
  ·
   obtain ⟨x, hn⟩ := rng_lt (l := s) hc1
   have hlt := rng_le hn
   refine awp_skip ?_
   refine awp_seq ?_
   refine awp_block ?_
   refine xsr ?_
   refine xlz (o_mv rfl rfl rfl) ?_
   refine xlz (o_as rfl rfl rfl) ?_
   refine lendF ?_
   refine xsr ?_
   refine xlz (o_mv rfl rfl rfl) ?_
   refine xlz (o_mv rfl rfl rfl) ?_
   refine xlz (o_mv rfl rfl rfl) ?_
   refine xlz (op_indexS rfl rfl rfl rfl rfl ty9 hn) ?_
   refine xlz (op_callP rfl rfl rfl hca rfl (hcb x) rfl) ?_
   refine xlz (op_not rfl rfl rfl) ?_
   refine lendF ?_
   refine awp_cond rfl rfl (fun hc2 => ?_) (fun hc2 => ?_)
   ·
    refine xsr ?_
    refine xlz (o_as rfl rfl rfl) ?_
    refine lendF ?_
    refine awp_ret ?_
    refine ⟨[_], ⟨rfl, trivial⟩, ?_⟩
    exact ent_d1 rfl (by rw [← hI]; first | (simp; done) | (rw [drop_cons hn]; simp_all))
   ·
    refine awp_skip ?_
    refine awp_region mixed ?_
    refine xlz (o_add rfl rfl rfl rfl (by omega)) ?_
    refine xlz (o_mv rfl rfl rfl) ?_
    refine lendF ?_
    refine ⟨i + 1, ?_, ?_, ?_⟩
    ·
     exact ⟨rng_le hn, by rw [← hI, drop_cons hn]; simp_all⟩
    ·
     exact ent_k [] rfl rfl (.cons rfl (by first | exact k_eq rfl | exact k_i (by simp) | exact .data rfl | exact k_d (by simp) | exact k_i (by simp; omega)) <| .cons rfl (by first | exact k_eq rfl | exact k_i (by simp) | exact .data rfl | exact k_d (by simp) | exact k_i (by simp; omega)) <| .cons rfl (by first | exact k_eq rfl | exact k_i (by simp) | exact .data rfl | exact k_d (by simp) | exact k_i (by simp; omega)) <| .cons rfl (by first | exact k_eq rfl | exact k_i (by simp) | exact .data rfl | exact k_d (by simp) | exact k_i (by simp; omega)) <| .nil) obs_nil rfl
    ·
     omega
  ·
   obtain rfl := rng_ge (l := s) hc1 hi
   refine awp_exit ?_
   refine xsr ?_
   refine xlz (o_as rfl rfl rfl) ?_
   refine lendF ?_
   refine awp_ret ?_
   refine ⟨[_], ⟨rfl, trivial⟩, ?_⟩
   exact ent_d1 rfl (by rw [← hI]; first | (simp; done) | (rw [drop_cons hn]; simp_all))

set_option maxRecDepth 10000 in
theorem c190 (s : Bytes) (hs : s.length < 4611686018427387904) : Fn PR 190 [.d (.str s)] [] [.d (.bool (s.all wordB))] [] := by
 refine fn_of_awp Tryz.func190 rfl (N := 15) rfl ?_
 refine xsr ?_
 refine xlz (o_as rfl rfl rfl) ?_
 refine lendF ?_
 refine awp_seq ?_
 refine xsr ?_
 refine xlz (o_as rfl rfl rfl) ?_
 refine lendF ?_
 refine awp_block ?_
 refine awp_loop (fun i => ⟨15, [(0, .d (.str s)), (3, .d (I (i : Nat)))], []⟩) (fun i => s.length - i) (fun i => i ≤ s.length ∧ (s.drop i).all wordB = s.all wordB) 0 ?_ ?_ ?_
 ·
  exact ent_k [] rfl rfl (.cons rfl (by first | exact k_eq rfl | exact k_i (by simp) | exact .data rfl | exact k_d (by simp) | exact k_i (by simp; omega)) <| .cons rfl (by first | exact k_eq rfl | exact k_i (by simp) | exact .data rfl | exact k_d (by simp) | exact k_i (by simp; omega)) <| .nil) obs_nil rfl
 ·
  exact ⟨Nat.zero_le _, rfl⟩
 ·
  rintro i ⟨hi, hI⟩
  refine awp_seq ?_
  refine xsr ?_
  refine xlz (o_mv rfl rfl rfl) ?_
  refine xlz (o_mv rfl rfl rfl) ?_
  refine xlz (op_lenS rfl rfl rfl ty9) ?_
  refine xlz (op_binI rfl rfl rfl rfl rfl (.inl rfl) rfl) ?_
  refine lendF ?_
  refine awp_cond rfl rfl (fun hc1 => ?_) (fun hc1 => ?_)
  ·
   obtain ⟨x, hn⟩ := rng_lt (l := s) hc1
   have hlt := rng_le hn
   refine awp_skip ?_
   refine awp_seq ?_
   refine awp_block ?_
   refine xsr ?_
   refine xlz (o_mv rfl rfl rfl) ?_
   refine xlz (o_mv rfl rfl rfl) ?_
   refine xlz (op_indexS rfl rfl rfl rfl rfl ty9 hn) ?_
   refine xlz (op_callP rfl rfl rfl ca199 rfl (c199 x) rfl) ?_
   refine xlz (op_not rfl rfl rfl) ?_
   refine lendF ?_
   refine awp_cond rfl rfl (fun hc2 => ?_) (fun hc2 => ?_)
   ·
    refine xsr ?_
    refine xlz (o_as rfl rfl rfl) ?_
    refine lendF ?_
    refine awp_ret ?_
    refine ⟨[_], ⟨rfl, trivial⟩, ?_⟩
    exact ent_d1 rfl (by rw [← hI]; first | (simp; done) | (rw [drop_cons hn]; simp_all))
   ·
    refine awp_skip ?_
    refine awp_region mixed ?_
    refine xlz (o_mv rfl rfl rfl) ?_
    refine xlz (o_add rfl rfl rfl rfl (by omega)) ?_
    refine xlz (o_as rfl rfl rfl) ?_
    refine lendF ?_
    refine ⟨i + 1, ?_, ?_, ?_⟩
    ·
     exact ⟨rng_le hn, by rw [← hI, drop_cons hn]; simp_all⟩
    ·
     exact ent_k [] rfl rfl (.cons rfl (by first | exact k_eq rfl | exact k_i (by simp) | exact .data rfl | exact k_d (by simp) | exact k_i (by simp; omega)) <| .cons rfl (by first | exact k_eq rfl | exact k_i (by simp) | exact .data rfl | exact k_d (by simp) | exact k_i (by simp; omega)) <| .nil) obs_nil rfl
    ·
     omega
  ·
   obtain rfl := rng_ge (l := s) hc1 hi
   refine awp_exit ?_
   refine xsr ?_
   refine xlz (o_as rfl rfl rfl) ?_
   refine lendF ?_
   refine awp_ret ?_
   refine ⟨[_], ⟨rfl, trivial⟩, ?_⟩
   exact ent_d1 rfl (by rw [← hI]; first | (simp; done) | (rw [drop_cons hn]; simp_all))

set_option maxRecDepth 10000 in
theorem c191 (l : List Bytes) (s : Bytes) (hl : l.length < 4611686018427387904) : Fn PR 191 [.d (.list (l.map .str)), .d (.str s)] [] [.d (.bool (l.any (fun x => x == s)))] [] := by
 refine fn_of_awp Tryz.func191 rfl (N := 18) rfl ?_
 refine xsr ?_
 refine xlz (o_as rfl rfl rfl) ?_
 refine lendF ?_
 refine awp_seq ?_
 refine xsr ?_
 refine xlz (o_as rfl rfl rfl) ?_
 refine lendF ?_
 refine awp_block ?_
 refine awp_loop (fun i => ⟨18, [(0, .d (.list (l.map .str))), (1, .d (.str s)), (5, .d (I (i : Nat)))], []⟩) (fun i => l.length - i) (fun i => i ≤ l.length ∧ (l.drop i).any (fun x => x == s) = l.any (fun x => x == s)) 0 ?_ ?_ ?_
 ·
  exact ent_k [] rfl rfl (.cons rfl (by first | exact k_eq rfl | exact k_i (by simp) | exact .data rfl | exact k_d (by simp) | exact k_i (by simp; omega)) <| .cons rfl (by first | exact k_eq rfl | exact k_i (by simp) | exact .data rfl | exact k_d (by simp) | exact k_i (by simp; omega)) <| .cons rfl (by first | exact k_eq rfl | exact k_i (by simp) | exact .data rfl | exact k_d (by simp) | exact k_i (by simp; omega)) <| .nil) obs_nil rfl
 ·
  exact ⟨Nat.zero_le _, rfl⟩
 ·
  rintro i ⟨hi, hI⟩
  refine awp_seq ?_
  refine xsr ?_
  refine xlz (o_mv rfl rfl rfl) ?_
  refine xlz (o_mv rfl rfl rfl) ?_
  refine xlz (op_len rfl rfl rfl ty71) ?_
  refine xlz (op_binI rfl rfl rfl rfl rfl (.inl rfl) rfl) ?_
  refine lendF ?_
  refine awp_cond rfl rfl (fun hc1 => ?_) (fun hc1 => ?_)
  ·
   obtain ⟨x, hn⟩ := rng_lt (l := l) (by simpa using hc1)
   have hlt := rng_le hn
   refine awp_skip ?_
   refine awp_seq ?_
   refine awp_block ?_
   refine xsr ?_
   refine xlz (o_mv rfl rfl rfl) ?_
   refine xlz (o_mv rfl rfl rfl) ?_
   refine xlz (o_ixM rfl rfl rfl hn rfl ty71 ty9) ?_
   refine xlz (op_loadC1 rfl rfl rfl ty9 rfl rfl) ?_
   refine xlz (o_mv rfl rfl rfl) ?_
   refine xlz (op_binS rfl rfl rfl rfl rfl (fun h => by first | cases h | (simp; omega)) rfl) ?_
   refine lendF ?_
   refine awp_cond rfl rfl (fun hc2 => ?_) (fun hc2 => ?_)
   ·
    refine xsr ?_
    refine xlz (o_as rfl rfl rfl) ?_
    refine lendF ?_
    refine awp_ret ?_
    refine ⟨[_], ⟨rfl, trivial⟩, ?_⟩
    exact ent_d1 rfl (by rw [← hI]; first | (simp; done) | (rw [drop_cons hn]; simp_all))
   ·
    refine awp_skip ?_
    refine awp_region mixed ?_
    refine xlz (o_mv rfl rfl rfl) ?_
    refine xlz (o_add rfl rfl rfl rfl (by omega)) ?_
    refine xlz (o_as rfl rfl rfl) ?_
    refine lendF ?_
    refine ⟨i + 1, ?_, ?_, ?_⟩
    ·
     exact ⟨rng_le hn, by rw [← hI, drop_cons hn]; simp_all⟩
    ·
     exact ent_k [] rfl rfl (.cons rfl (by first | exact k_eq rfl | exact k_i (by simp) | exact .data rfl | exact k_d (by simp) | exact k_i (by simp; omega)) <| .cons rfl (by first | exact k_eq rfl | exact k_i (by simp) | exact .data rfl | exact k_d (by simp) | exact k_i (by simp; omega)) <| .cons rfl (by first | exact k_eq rfl | exact k_i (by simp) | exact .data rfl | exact k_d (by simp) | exact k_i (by simp; omega)) <| .nil) obs_nil rfl
    ·
     omega
  ·
   obtain rfl := rng_ge (l := l) (by simpa using hc1) hi
   refine awp_exit ?_
   refine xsr ?_
   refine xlz (o_as rfl rfl rfl) ?_
   refine lendF ?_
   refine awp_ret ?_
   refine ⟨[_], ⟨rfl, trivial⟩, ?_⟩
   exact ent_d1 rfl (by rw [← hI]; first | (simp; done) | (rw [drop_cons hn]; simp_all))

set_option maxRecDepth 10000 in
theorem c126 (c : UInt8) : Fn PR 126 [.d (.int .u8 c.toNat)] [] [.d (.bool (smallB c || digitB c))] [] := by
 refine fn_of_awp Tryz.func126 rfl (N := 9) rfl ?_
 refine xsr ?_
 refine xlz (o_as rfl rfl rfl) ?_
 refine lendF ?_
 refine xsr ?_
 refine xlz (o_mv rfl rfl rfl) ?_
 refine xlz (op_callP rfl rfl rfl ca127 rfl (c127 c) rfl) ?_
 refine xlz (o_mv rfl rfl rfl) ?_
 refine lsplit rfl (fun hg1 => ?_) (fun hg1 => ?_)
 ·
  refine lg (o_mv rfl rfl rfl) rfl hg1 rfl rfl ?_
  refine lg (op_callP rfl rfl rfl ca128 rfl (c128 c) rfl) rfl hg1 rfl rfl ?_
  refine xlz (o_pF rfl rfl (g01 hg1) rfl rfl) ?_
  refine xlz (o_as rfl rfl rfl) ?_
  refine lendF ?_
  refine awp_ret ?_
  refine ⟨[_], ⟨rfl, trivial⟩, ?_⟩
  exact ent_d1 rfl (by simp_all)
 ·
  refine lskip rfl hg1 rfl ?_
  refine lskip rfl hg1 rfl ?_
  refine xlz (o_pT rfl rfl (g00 hg1) rfl rfl) ?_
  refine xlz (o_as rfl rfl rfl) ?_
  refine lendF ?_
  refine awp_ret ?_
  refine ⟨[_], ⟨rfl, trivial⟩, ?_⟩
  exact ent_d1 rfl (by simp_all)

set_option maxRecDepth 10000 in
theorem c192  : Fn PR 192 [] [] [.d (.list (kwords.map .str))] [] := by
 refine fn_of_awp Tryz.func192 rfl (N := 2) rfl ?_
 refine xsr ?_
 refine xlz (o_as rfl rfl rfl) ?_
 refine lendF ?_
 refine xsr ?_
 refine xlz (o_bs rfl rfl rfl rfl rfl ty71 ty9 rfl rfl) ?_
 refine xlz (o_as rfl rfl rfl) ?_
 refine lendF ?_
 refine awp_ret ?_
 refine ⟨[_], ⟨rfl, trivial⟩, ?_⟩
 exact ent_d1 rfl rfl

set_option maxRecDepth 10000 in
theorem c180 (s : Bytes) (hs : s.length < 4611686018427387904) : Fn PR 180 [.d (.str s)] [] [.d (.bool (isName s))] [] := by
 refine fn_of_awp Tryz.func180 rfl (N := 26) rfl ?_
 refine xsr ?_
 refine xlz (o_as rfl rfl rfl) ?_
 refine lendF ?_
 refine xsr ?_
 refine xlz (o_mv rfl rfl rfl) ?_
 refine xlz (op_lenS rfl rfl rfl ty9) ?_
 refine xlz (op_binI rfl rfl rfl rfl rfl (.inl rfl) rfl) ?_
 refine xlz (o_mv rfl rfl rfl) ?_
 refine lsplit rfl (fun hg1 => ?_) (fun hg1 => ?_)
 ·
  refine lg (o_mv rfl rfl rfl) rfl hg1 rfl rfl ?_
  refine lg (op_lenS rfl rfl rfl ty9) rfl hg1 rfl rfl ?_
  refine lg (op_binI rfl rfl rfl rfl rfl (.inl rfl) rfl) rfl hg1 rfl rfl ?_
  refine xlz (o_pT rfl rfl (g11 hg1) rfl rfl) ?_
  refine xlz (o_mv rfl rfl rfl) ?_
  refine lsplit rfl (fun hg2 => ?_) (fun hg2 => ?_)
  ·
   refine lg (o_mv rfl rfl rfl) rfl hg2 rfl rfl ?_
   have h0 : 0 < s.length := by simp at hg1; omega
   obtain ⟨c, hc0⟩ : ∃ c, s[0]? = some c := ⟨s[0], List.getElem?_eq_getElem h0⟩
   have hhd : s.head? = some c := by rw [List.head?_eq_getElem?]; exact hc0
   refine lg (op_indexS rfl rfl rfl rfl rfl ty9 (n := 0) hc0) rfl hg2 rfl rfl ?_
   refine lg (op_callP rfl rfl rfl ca178 rfl (c178 c) rfl) rfl hg2 rfl rfl ?_
   refine xlz (o_pT rfl rfl (g11 hg2) rfl rfl) ?_
   refine xlz (o_mv rfl rfl rfl) ?_
   refine lsplit rfl (fun hg3 => ?_) (fun hg3 => ?_)
   ·
    refine lg (o_mv rfl rfl rfl) rfl hg3 rfl rfl ?_
    refine lg (op_callP rfl rfl rfl ca190 rfl (c190 s hs) rfl) rfl hg3 rfl rfl ?_
    refine xlz (o_pT rfl rfl (g11 hg3) rfl rfl) ?_
    refine xlz (o_mv rfl rfl rfl) ?_
    refine lsplit rfl (fun hg4 => ?_) (fun hg4 => ?_)
    ·
     refine lg (op_callP rfl rfl rfl ca192 rfl (c192) rfl) rfl hg4 rfl rfl ?_
     refine lg (o_mv rfl rfl rfl) rfl hg4 rfl rfl ?_
     refine lg (op_callP rfl rfl rfl ca191 rfl (c191 kwords s (by decide)) rfl) rfl hg4 rfl rfl ?_
     refine lg (op_not rfl rfl rfl) rfl hg4 rfl rfl ?_
     refine xlz (o_pT rfl rfl (g11 hg4) rfl rfl) ?_
     refine xlz (o_as rfl rfl rfl) ?_
     refine lendF ?_
     refine awp_ret ?_
     refine ⟨[_], ⟨rfl, trivial⟩, ?_⟩
     exact ent_d1 rfl (by simp_all [isName] <;> first | done | omega | (intros; omega) | grind)
    ·
     refine lskip rfl hg4 rfl ?_
     refine lskip rfl hg4 rfl ?_
     refine lskip rfl hg4 rfl ?_
     refine lskip rfl hg4 rfl ?_
     refine xlz (o_pF rfl rfl (g10 hg4) rfl rfl) ?_
     refine xlz (o_as rfl rfl rfl) ?_
     refine lendF ?_
     refine awp_ret ?_
     refine ⟨[_], ⟨rfl, trivial⟩, ?_⟩
     exact ent_d1 rfl (by simp_all [isName] <;> first | done | omega | (intros; omega) | grind)
   ·
    refine lskip rfl hg3 rfl ?_
    refine lskip rfl hg3 rfl ?_
    refine xlz (o_pF rfl rfl (g10 hg3) rfl rfl) ?_
    refine xlz (o_mv rfl rfl rfl) ?_
    refine lskip rfl rfl rfl ?_
    refine lskip rfl rfl rfl ?_
    refine lskip rfl rfl rfl ?_
    refine lskip rfl rfl rfl ?_
    refine xlz (o_pF rfl rfl rfl rfl rfl) ?_
    refine xlz (o_as rfl rfl rfl) ?_
    refine lendF ?_
    refine awp_ret ?_
    refine ⟨[_], ⟨rfl, trivial⟩, ?_⟩
    exact ent_d1 rfl (by simp_all [isName] <;> first | done | omega | (intros; omega) | grind)
  ·
   refine lskip rfl hg2 rfl ?_
   refine lskip rfl hg2 rfl ?_
   refine lskip rfl hg2 rfl ?_
   refine xlz (o_pF rfl rfl (g10 hg2) rfl rfl) ?_
   refine xlz (o_mv rfl rfl rfl) ?_
   refine lskip rfl rfl rfl ?_
   refine lskip rfl rfl rfl ?_
   refine xlz (o_pF rfl rfl rfl rfl rfl) ?_
   refine xlz (o_mv rfl rfl rfl) ?_
   refine lskip rfl rfl rfl ?_
   refine lskip rfl rfl rfl ?_
   refine lskip rfl rfl rfl ?_
   refine lskip rfl rfl rfl ?_
   refine xlz (o_pF rfl rfl rfl rfl rfl) ?_
   refine xlz (o_as rfl rfl rfl) ?_
   refine lendF ?_
   refine awp_ret ?_
   refine ⟨[_], ⟨rfl, trivial⟩, ?_⟩
   exact ent_d1 rfl (by simp_all [isName] <;> first | done | omega | (intros; omega) | grind)
 ·
  refine lskip rfl hg1 rfl ?_
  refine lskip rfl hg1 rfl ?_
  refine lskip rfl hg1 rfl ?_
  refine xlz (o_pF rfl rfl (g10 hg1) rfl rfl) ?_
  refine xlz (o_mv rfl rfl rfl) ?_
  refine lskip rfl rfl rfl ?_
  refine lskip rfl rfl rfl ?_
  refine lskip rfl rfl rfl ?_
  refine xlz (o_pF rfl rfl rfl rfl rfl) ?_
  refine xlz (o_mv rfl rfl rfl) ?_
  refine lskip rfl rfl rfl ?_
  refine lskip rfl rfl rfl ?_
  refine xlz (o_pF rfl rfl rfl rfl rfl) ?_
  refine xlz (o_mv rfl rfl rfl) ?_
  refine lskip rfl rfl rfl ?_
  refine lskip rfl rfl rfl ?_
  refine lskip rfl rfl rfl ?_
  refine lskip rfl rfl rfl ?_
  refine xlz (o_pF rfl rfl rfl rfl rfl) ?_
  refine xlz (o_as rfl rfl rfl) ?_
  refine lendF ?_
  refine awp_ret ?_
  refine ⟨[_], ⟨rfl, trivial⟩, ?_⟩
  exact ent_d1 rfl (by simp_all [isName] <;> first | done | omega | (intros; omega) | grind)

end Go.Pm

namespace Go.Pm
open Go.Proofs

set_option maxRecDepth 10000 in
theorem c155 (s : Bytes) (hs : s.length < 4611686018427387904) : Fn PR 155 [.d (.str s)] [] [.d (.bool (segOK s))] [] := by
 refine fn_of_awp Tryz.func155 rfl (N := 24) rfl ?_
 refine xsr ?_
 refine xlz (o_as rfl rfl rfl) ?_
 refine lendF ?_
 refine awp_seq ?_
 refine xsr ?_
 refine xlz (o_as rfl rfl rfl) ?_
 refine lendF ?_
 refine awp_block ?_
 refine awp_loop (fun i => ⟨24, [(0, .d (.str s)), (3, .d (I (i : Nat)))], []⟩) (fun i => s.length - i) (fun i => i ≤ s.length ∧ (s.drop i).all (fun c => smallB c || digitB c) = s.all (fun c => smallB c || digitB c)) 0 ?_ ?_ ?_
 ·
  exact ent_k [] rfl rfl (.cons rfl (by first | exact k_eq rfl | exact k_i (by simp) | exact .data rfl | exact k_d (by simp) | exact k_i (by simp; omega)) <| .cons rfl (by first | exact k_eq rfl | exact k_i (by simp) | exact .data rfl | exact k_d (by simp) | exact k_i (by simp; omega)) <| .nil) obs_nil rfl
 ·
  exact ⟨Nat.zero_le _, rfl⟩
 ·
  rintro i ⟨hi, hI⟩
  refine awp_seq ?_
  refine xsr ?_
  refine xlz (o_mv rfl rfl rfl) ?_
  refine xlz (o_mv rfl rfl rfl) ?_
  refine xlz (op_lenS rfl rfl rfl ty9) ?_
  refine xlz (op_binI rfl rfl rfl rfl rfl (.inl rfl) rfl) ?_
  refine lendF ?_
  refine awp_cond rfl rfl (fun hc1 => ?_) (fun hc1 => ?_)
  ·
   obtain ⟨x, hn⟩ := rng_lt (l := s) hc1
   have hlt := rng_le hn
   refine awp_skip ?_
   refine awp_seq ?_
   refine awp_block ?_
   refine xsr ?_
   refine xlz (o_mv rfl rfl rfl) ?_
   refine xlz (o_mv rfl rfl rfl) ?_
   refine xlz (op_indexS rfl rfl rfl rfl rfl ty9 hn) ?_
   refine xlz (op_callP rfl rfl rfl ca178 rfl (c178 x) rfl) ?_
   refine xlz (op_not rfl rfl rfl) ?_
   refine xlz (o_mv rfl rfl rfl) ?_
   refine lsplit rfl (fun hg2 => ?_) (fun hg2 => ?_)
   ·
    refine lg (o_mv rfl rfl rfl) rfl hg2 rfl rfl ?_
    refine lg (o_mv rfl rfl rfl) rfl hg2 rfl rfl ?_
    refine lg (op_indexS rfl rfl rfl rfl rfl ty9 hn) rfl hg2 rfl rfl ?_
    refine lg (op_callP rfl rfl rfl ca179 rfl (c179 x) rfl) rfl hg2 rfl rfl ?_
    refine lg (op_not rfl rfl rfl) rfl hg2 rfl rfl ?_
    refine xlz (o_pT rfl rfl (g11 hg2) rfl rfl) ?_
    refine lendF ?_
    refine awp_cond rfl rfl (fun hc3 => ?_) (fun hc3 => ?_)
    ·
     refine xsr ?_
     refine xlz (o_as rfl rfl rfl) ?_
     refine lendF ?_
     refine awp_ret ?_
     refine ⟨[_], ⟨rfl, trivial⟩, ?_⟩
     exact ent_d1 rfl (by unfold segOK; rw [← hI]; first | (simp; done) | (rw [drop_cons hn]; simp_all))
    ·
     refine awp_skip ?_
     refine awp_region mixed ?_
     refine xlz (o_mv rfl rfl rfl) ?_
     refine xlz (o_add rfl rfl rfl rfl (by omega)) ?_
     refine xlz (o_as rfl rfl rfl) ?_
     refine lendF ?_
     refine ⟨i + 1, ?_, ?_, ?_⟩
     ·
      exact ⟨rng_le hn, by rw [← hI, drop_cons hn]; simp_all⟩
     ·
      exact ent_k [] rfl rfl (.cons rfl (by first | exact k_eq rfl | exact k_i (by simp) | exact .data rfl | exact k_d (by simp) | exact k_i (by simp; omega)) <| .cons rfl (by first | exact k_eq rfl | exact k_i (by simp) | exact .data rfl | exact k_d (by simp) | exact k_i (by simp; omega)) <| .nil) obs_nil rfl
     ·
      omega
   ·
    refine lskip rfl hg2 rfl ?_
    refine lskip rfl hg2 rfl ?_
    refine lskip rfl hg2 rfl ?_
    refine lskip rfl hg2 rfl ?_
    refine lskip rfl hg2 rfl ?_
    refine xlz (o_pF rfl rfl (g10 hg2) rfl rfl) ?_
    refine lendF ?_
    refine awp_cond rfl rfl (fun hc4 => ?_) (fun hc4 => ?_)
    ·
     refine xsr ?_
     refine xlz (o_as rfl rfl rfl) ?_
     refine lendF ?_
     refine awp_ret ?_
     refine ⟨[_], ⟨rfl, trivial⟩, ?_⟩
     exact ent_d1 rfl (by unfold segOK; rw [← hI]; first | (simp; done) | (rw [drop_cons hn]; simp_all))
    ·
     refine awp_skip ?_
     refine awp_region mixed ?_
     refine xlz (o_mv rfl rfl rfl) ?_
     refine xlz (o_add rfl rfl rfl rfl (by omega)) ?_
     refine xlz (o_as rfl rfl rfl) ?_
     refine lendF ?_
     refine ⟨i + 1, ?_, ?_, ?_⟩
     ·
      exact ⟨rng_le hn, by rw [← hI, drop_cons hn]; simp_all⟩
     ·
      exact ent_k [] rfl rfl (.cons rfl (by first | exact k_eq rfl | exact k_i (by simp) | exact .data rfl | exact k_d (by simp) | exact k_i (by simp; omega)) <| .cons rfl (by first | exact k_eq rfl | exact k_i (by simp) | exact .data rfl | exact k_d (by simp) | exact k_i (by simp; omega)) <| .nil) obs_nil rfl
     ·
      omega
  ·
   obtain rfl := rng_ge (l := s) hc1 hi
   refine awp_exit ?_
   refine xsr ?_
   refine xlz (o_mv rfl rfl rfl) ?_
   refine xlz (op_callP rfl rfl rfl ca180 rfl (c180 s hs) rfl) ?_
   refine xlz (o_as rfl rfl rfl) ?_
   refine lendF ?_
   refine awp_ret ?_
   refine ⟨[_], ⟨rfl, trivial⟩, ?_⟩
   exact ent_d1 rfl (by unfold segOK; rw [← hI]; first | (simp; done) | (rw [drop_cons hn]; simp_all))

end Go.Pm

namespace Go.Pm
abbrev B62 : Nat := 4611686018427387904
/-- Short enough for the machine. -/
structure Req.Sm (q : Req) : Prop where
  path : q.path.length ≤ 100000
  set : q.set.length ≤ 1000000
structure Rls.Sm (r : Rls) : Prop where
  path : r.path.length ≤ 100000
  arch : r.arch.length < B62
  iface : r.iface.length < B62
  cert : r.cert.length < B62
  len : r.reqs.length < B62
  reqs : ∀ q ∈ r.reqs, q.Sm

theorem eqDs_span (x y : Span) : eqDs [I x.lo, I x.hi] [I y.lo, I y.hi] = decide (x = y) := by
  cases x; cases y; simp [eqDs, eqD]; rw [Bool.eq_iff_iff]; simp
theorem eqDs_ver (x y : Ver) : eqDs [I x.maj, I x.min, I x.pat] [I y.maj, I y.min, I y.pat] = decide (x = y) := by
  cases x; cases y; simp [eqDs, eqD]; rw [Bool.eq_iff_iff]; simp
theorem eqDs_sel (x y : Sel) : eqDs [.str x.path, I x.ver.maj, I x.ver.min, I x.ver.pat] [.str y.path, I y.ver.maj, I y.ver.min, I y.ver.pat] = decide (x = y) := by
  obtain ⟨xp, ⟨x1, x2, x3⟩⟩ := x; obtain ⟨yp, ⟨y1, y2, y3⟩⟩ := y; simp [eqDs, eqD]; rw [Bool.eq_iff_iff]; simp

def reaches (q : Req) (r : Rls) : Bool := q.path == r.path && setHas q.set (placeOf r.ver).1
def anyReaches (l : List Req) (r : Rls) : Bool := l.any fun q => reaches q r
def satBy (q : Req) (y : Sel) : Bool := y.path == q.path && setHas q.set (placeOf y.ver).1
def incr : List Sel → Bool
  | a :: b :: r => Op.bytesLess a.path b.path && incr (b :: r)
  | _ => true
theorem incr_step {l : List Sel} {i : Nat} {x y : Sel} (hn : l[i]? = some x) (hm : l[i - 1]? = some y) (h1 : 1 ≤ i) : incr (l.drop (i - 1)) = (Op.bytesLess y.path x.path && incr (l.drop i)) := by
  rw [drop_cons hm, show i - 1 + 1 = i from by omega, drop_cons hn, incr]
theorem incr_end {l : List Sel} {i : Nat} (h : l.length ≤ i) (h1 : 1 ≤ i) : incr (l.drop (i - 1)) = true := by
  have : (l.drop (i - 1)).length ≤ 1 := by simp; omega
  match hl : l.drop (i - 1), this with
  | [], _ => rfl
  | [a], _ => rfl
theorem get_pred {α : Type} {l : List α} {i : Nat} {x : α} (hn : l[i]? = some x) : ∃ y, l[i - 1]? = some y := by
  have := (List.getElem?_eq_some_iff.1 hn).1
  exact ⟨_, List.getElem?_eq_getElem (show i - 1 < l.length by omega)⟩
theorem bytesLess_irrefl : ∀ (a : Bytes), Op.bytesLess a a = false
  | [] => rfl
  | a :: r => by simp [Op.bytesLess, bytesLess_irrefl r]
theorem bytesLess_asymm : ∀ (a b : Bytes), Op.bytesLess a b = true → Op.bytesLess b a = false
  | [], [], h => by cases h
  | [], _ :: _, _ => rfl
  | _ :: _, [], h => by cases h
  | a :: r, b :: q, h => by
    simp only [Op.bytesLess, Bool.or_eq_true, decide_eq_true_eq, Bool.and_eq_true, beq_iff_eq] at h
    simp only [Op.bytesLess, Bool.or_eq_false_iff, decide_eq_false_iff_not, Bool.and_eq_false_iff, beq_eq_false_iff_ne]
    rcases h with h | ⟨rfl, h⟩
    · exact ⟨by simpa using UInt8.le_of_lt h, .inl (fun e => by subst e; exact UInt8.lt_irrefl _ h)⟩
    · exact ⟨UInt8.lt_irrefl _, .inr (bytesLess_asymm _ _ h)⟩
theorem bytesLess_total : ∀ (a b : Bytes), Op.bytesLess a b = false → a ≠ b → Op.bytesLess b a = true
  | [], [], _, h => absurd rfl h
  | [], _ :: _, h, _ => by cases h
  | _ :: _, [], _, _ => rfl
  | a :: r, b :: q, h, hne => by
    simp only [Op.bytesLess, Bool.or_eq_false_iff, decide_eq_false_iff_not, Bool.and_eq_false_iff, beq_eq_false_iff_ne] at h
    simp only [Op.bytesLess, Bool.or_eq_true, decide_eq_true_eq, Bool.and_eq_true, beq_iff_eq]
    by_cases hab : a = b
    · subst hab
      refine .inr ⟨rfl, bytesLess_total _ _ (h.2.resolve_left (fun h => h rfl)) fun e => hne (by rw [e])⟩
    · exact .inl (UInt8.lt_of_le_of_ne (UInt8.not_lt.1 h.1) (Ne.symm hab))
/-- b ≤ a is the contrary of a < b. -/
theorem bytesLe_not (a b : Bytes) : (Op.bytesLess b a || b == a) = !Op.bytesLess a b := by
  cases h : Op.bytesLess a b with
  | true =>
    have h1 := bytesLess_asymm _ _ h
    have h2 : b ≠ a := by rintro rfl; rw [bytesLess_irrefl] at h; cases h
    simp [h1, h2]
  | false =>
    by_cases e : b = a
    · simp [e]
    · simp [bytesLess_total _ _ h (Ne.symm e)]

def fewReq (q : Req) : Bool := decide ((q.path.length : Int) ≤ 100) && decide ((q.set.length : Int) ≤ 8)
def fewReqs (l : List Req) : Bool := l.all fewReq && decide ((l.length : Int) ≤ 20)
def fewRls (r : Rls) : Bool := decide ((r.path.length : Int) ≤ 100) && decide ((r.arch.length : Int) ≤ 100) && decide ((r.iface.length : Int) ≤ 100) && decide ((r.cert.length : Int) ≤ 100) && fewReqs r.reqs
def fewRlss (l : List Rls) (most : Int) : Bool := l.all fewRls && decide ((l.length : Int) ≤ most)
theorem eqT_span (x y : Span) : eqDs (List.take 2 x.d.cells) (List.take 2 y.d.cells) = decide (x = y) := eqDs_span x y
theorem eqT_ver (x y : Ver) : eqDs (List.take 3 x.d.cells) (List.take 3 y.d.cells) = decide (x = y) := eqDs_ver x y
theorem eqT_sel (x y : Sel) : eqDs (List.take 4 x.d.cells) (List.take 4 y.d.cells) = decide (x = y) := eqDs_sel x y
theorem cons_eq_iff {α : Type} [DecidableEq α] (x y : α) (a b : List α) : decide (x :: a = y :: b) = (decide (x = y) && decide (a = b)) := by
  rw [Bool.eq_iff_iff]; simp
end Go.Pm
namespace Go.Pm
theorem req_eq (x y : Req) : decide (x = y) = (x.path == y.path && decide (x.set = y.set)) := by
  cases x; cases y; rw [Bool.eq_iff_iff]; simp
theorem rls_eq (a b : Rls) : decide (a = b) = (a.path == b.path && decide (a.ver = b.ver) && a.arch == b.arch && a.iface == b.iface && a.cert == b.cert && a.yank == b.yank && decide (a.reqs = b.reqs)) := by
  cases a; cases b; rw [Bool.eq_iff_iff]; simp; constructor
  · rintro ⟨rfl, rfl, rfl, rfl, rfl, rfl, rfl⟩; simp
  · rintro ⟨⟨⟨⟨⟨⟨rfl, rfl⟩, rfl⟩, rfl⟩, rfl⟩, rfl⟩, rfl⟩; simp
end Go.Pm

namespace Go.Pm
theorem wrapU64 {x : Int} (h1 : 0 ≤ x) (h2 : x < 18446744073709551616) : IntKind.u64.wrap x = x := by
  simp [IntKind.wrap, IntKind.bits, IntKind.signed]; omega
theorem wrapU8 {x : Int} (h1 : 0 ≤ x) (h2 : x < 256) : IntKind.u8.wrap x = x := by
  simp [IntKind.wrap, IntKind.bits, IntKind.signed]; omega
theorem conv8 (m : Nat) : IntKind.u8.wrap (m : Int) = ((UInt8.ofNat m).toNat : Int) := by
  simp [IntKind.wrap, IntKind.bits, IntKind.signed]
theorem or128_all : ∀ q, q < 256 → IntKind.u8.wrap ((BitVec.ofInt 8 ((q : Nat) : Int) ||| BitVec.ofInt 8 128).toNat : Int) = (((q % 128 + 128 : Nat)) : Int) := by decide +kernel
theorem and127_all : ∀ q, q < 256 → IntKind.u8.wrap ((BitVec.ofInt 8 ((q : Nat) : Int) &&& BitVec.ofInt 8 127).toNat : Int) = (((q % 128 : Nat)) : Int) := by decide +kernel
theorem or128 (m : Nat) : IntKind.u8.wrap ((BitVec.ofInt 8 ((UInt8.ofNat m).toNat : Int) ||| BitVec.ofInt 8 128).toNat : Int) = ((UInt8.ofNat (m % 128 + 128)).toNat : Int) := by
  rw [or128_all _ (UInt8.toNat_lt _)]
  congr 1
  simp only [UInt8.toNat_ofNat']
  omega
theorem and127 (b : UInt8) : IntKind.u8.wrap ((BitVec.ofInt 8 (b.toNat : Int) &&& BitVec.ofInt 8 127).toNat : Int) = ((b.toNat % 128 : Nat) : Int) := and127_all _ (UInt8.toNat_lt b)
theorem shr7 (m : Nat) : ((m : Int).fdiv (2 ^ min (Int.toNat 7) 64)) = ((m / 128 : Nat) : Int) := by
  rw [show (2 : Int) ^ min (Int.toNat 7) 64 = ((128 : Nat) : Int) from by decide, ← Int.ofNat_fdiv]
/-- The bytes of a number. -/
def uvarF : Nat → Nat → Bytes
  | 0, n => [UInt8.ofNat n]
  | f + 1, n => if n < 128 then [UInt8.ofNat n] else UInt8.ofNat (n % 128 + 128) :: uvarF f (n / 128)
def uvar (n : Nat) : Bytes := uvarF 9 n
theorem uvarF_len : ∀ (f n : Nat), (uvarF f n).length ≤ f + 1
  | 0, n => by simp [uvarF]
  | f + 1, n => by
    unfold uvarF
    split
    · simp
    · have := uvarF_len f (n / 128); simp; omega
theorem uvar_len (n : Nat) : (uvar n).length ≤ 10 := uvarF_len 9 n
theorem uvarF_lt {f n : Nat} (h : n < 128) : uvarF f n = [UInt8.ofNat n] := by cases f <;> simp [uvarF, h]
theorem pow128 (f n : Nat) (h : n < 128 ^ (f + 1 + 1)) : n / 128 < 128 ^ (f + 1) := by
  rw [Nat.div_lt_iff_lt_mul (by omega)]; rw [Nat.pow_succ] at h; exact h

/-- A number that is read: from a list of bytes, the offset, the round, what was read; the number, the offset behind it, whether it is right. -/
def scanL : Bytes → Nat → Nat → Nat → Nat × Nat × Bool
  | [], _, _, _ => (0, 0, false)
  | b :: r, p, i, acc => if 10 ≤ i then (0, 0, false) else if i = 9 ∧ 1 < b.toNat then (0, 0, false) else
    if b.toNat < 128 then (acc + b.toNat % 128 * 128 ^ i, p + 1, decide (0 < b.toNat) || decide (i = 0)) else scanL r (p + 1) (i + 1) (acc + b.toNat % 128 * 128 ^ i)
def rdU (s : Bytes) (p : Nat) : Nat × Nat × Bool := scanL (s.drop p) p 0 0
theorem scan_end {s : Bytes} {p i acc : Nat} (h : s.length ≤ p ∨ 10 ≤ i) : scanL (s.drop p) p i acc = (0, 0, false) := by
  rcases h with h | h
  · rw [List.drop_of_length_le h]; rfl
  · cases s.drop p with
    | nil => rfl
    | cons b r => simp [scanL, h]
section
variable {s : Bytes} {p i acc : Nat} {b : UInt8}
theorem scan_big (hn : s[p]? = some b) (hi : i = 9) (hb : 1 < b.toNat) : scanL (s.drop p) p i acc = (0, 0, false) := by
  rw [drop_cons hn]; simp [scanL, hi, hb]
theorem scan_stop (hn : s[p]? = some b) (hi : i ≤ 9) (h9 : i = 9 → b.toNat ≤ 1) (hb : b.toNat < 128) : scanL (s.drop p) p i acc = (acc + b.toNat % 128 * 128 ^ i, p + 1, decide (0 < b.toNat) || decide (i = 0)) := by
  rw [drop_cons hn, scanL, if_neg (by omega), if_neg (by intro h; have := h9 h.1; omega), if_pos hb]
theorem scan_next (hn : s[p]? = some b) (hi : i ≤ 9) (h9 : i = 9 → b.toNat ≤ 1) (hb : ¬ b.toNat < 128) : scanL (s.drop p) p i acc = scanL (s.drop (p + 1)) (p + 1) (i + 1) (acc + b.toNat % 128 * 128 ^ i) := by
  rw [drop_cons hn, scanL, if_neg (by omega), if_neg (by intro h; have := h9 h.1; omega), if_neg hb]
end
theorem acc_lt {acc i c : Nat} (h : acc < 128 ^ i) (hc : c < 128) : acc + c * 128 ^ i < 128 ^ (i + 1) := by
  have : (c + 1) * 128 ^ i ≤ 128 * 128 ^ i := Nat.mul_le_mul_right _ hc
  rw [Nat.add_mul] at this
  rw [Nat.pow_succ]; omega
theorem acc_u64 {acc i c : Nat} (h : acc < 128 ^ i) (hi : i ≤ 9) (hc : c < 128) (h9 : i = 9 → c ≤ 1) : acc + c * 128 ^ i < 18446744073709551616 := by
  rcases Nat.lt_or_ge i 9 with h8 | h8
  · have h1 := acc_lt h hc
    have h2 : 128 ^ (i + 1) ≤ 128 ^ 9 := Nat.pow_le_pow_right (by omega) (by omega)
    have h3 : (128 : Nat) ^ 9 < 18446744073709551616 := by decide
    omega
  · obtain rfl : i = 9 := by omega
    have := h9 rfl
    have h3 : (128 : Nat) ^ 9 = 9223372036854775808 := by decide
    rw [h3] at h ⊢
    have : c * 9223372036854775808 ≤ 1 * 9223372036854775808 := Nat.mul_le_mul_right _ this
    omega
theorem pow7 (i : Nat) : 2 ^ (7 * i) = 128 ^ i := by rw [Nat.pow_mul]
/-- What is shifted in. -/
theorem shl_in {acc i c : Nat} (h : acc < 128 ^ i) (hi : i ≤ 9) (hc : c < 128) (h9 : i = 9 → c ≤ 1) : IntKind.u64.wrap ((c : Int) * 2 ^ min (Int.toNat (((7 * i : Nat)) : Int)) 64) = ((c * 128 ^ i : Nat) : Int) := by
  have h1 := acc_u64 h hi hc h9
  rw [show min (Int.toNat (((7 * i : Nat)) : Int)) 64 = 7 * i from by simp; omega]
  have e : (c : Int) * 2 ^ (7 * i) = ((c * 128 ^ i : Nat) : Int) := by
    rw [← pow7]; simp
  rw [e, wrapU64 (by omega) (by omega)]
theorem or_in {acc i c : Nat} (h : acc < 128 ^ i) (hi : i ≤ 9) (hc : c < 128) (h9 : i = 9 → c ≤ 1) : IntKind.u64.wrap ((BitVec.ofInt 64 (acc : Int) ||| BitVec.ofInt 64 ((c * 128 ^ i : Nat) : Int)).toNat : Int) = ((acc + c * 128 ^ i : Nat) : Int) := by
  have h1 := acc_u64 h hi hc h9
  have e : (BitVec.ofInt 64 (acc : Int) ||| BitVec.ofInt 64 ((c * 128 ^ i : Nat) : Int)).toNat = acc + c * 128 ^ i := by
    rw [BitVec.toNat_or, BitVec.ofInt_natCast, BitVec.ofInt_natCast, BitVec.toNat_ofNat, BitVec.toNat_ofNat, Nat.mod_eq_of_lt (by omega), Nat.mod_eq_of_lt (by omega)]
    rw [Nat.or_comm, ← pow7, ← Nat.shiftLeft_eq, ← Nat.shiftLeft_add_eq_or_of_lt (by rw [pow7]; exact h), Nat.add_comm]
  rw [e, wrapU64 (by omega) (by omega)]
theorem shr63 (n : Nat) (h : n < 18446744073709551616) : (((n : Int).fdiv (2 ^ min (Int.toNat 63) 64)) == 0) = decide (n < 9223372036854775808) := by
  rw [show (2 : Int) ^ min (Int.toNat 63) 64 = ((9223372036854775808 : Nat) : Int) from by decide, ← Int.ofNat_fdiv]
  rw [Bool.eq_iff_iff]; simp; omega

theorem scanL_spec : ∀ (l : Bytes) (p i acc : Nat), acc < 128 ^ i → i ≤ 10 → (scanL l p i acc).1 < 18446744073709551616 ∧ (scanL l p i acc).2.1 ≤ p + l.length
  | [], p, i, acc, _, _ => by simp [scanL]
  | b :: r, p, i, acc, h, hi => by
    unfold scanL
    have hb : b.toNat % 128 < 128 := Nat.mod_lt _ (by omega)
    split
    · simp
    · split
      · simp
      · have hk : i = 9 → b.toNat % 128 ≤ 1 := by intro h9; have : ¬ 1 < b.toNat := by simp_all
                                                  omega
        split
        · exact ⟨acc_u64 h (by omega) hb hk, by simp⟩
        · have := scanL_spec r (p + 1) (i + 1) _ (acc_lt h hb) (by omega)
          simp only [List.length_cons]; exact ⟨this.1, by omega⟩
theorem rdU_lt (s : Bytes) (p : Nat) : (rdU s p).1 < 18446744073709551616 := (scanL_spec _ p 0 0 (by simp) (by omega)).1
theorem rdU_le {s : Bytes} {p : Nat} (h : p ≤ s.length) : (rdU s p).2.1 ≤ s.length := by
  have := (scanL_spec (s.drop p) p 0 0 (by simp) (by omega)).2
  simp at this; unfold rdU; omega
structure RS where
  s : Bytes
  pos : Nat
  e : Int
@[reducible] def RS.ob (r : RS) : Ob := .cells [.d (.str r.s), .d (I r.pos), .d (I r.e)]
def RS.take {α : Type} (r : RS) (y : α × Nat × Bool) (z : α) : α × RS := if r.e = 0 then (if y.2.2 then (y.1, { r with pos := y.2.1 }) else (z, { r with e := 9 })) else (z, r)
def rdOK (s : Bytes) (p : Nat) : Bool := (rdU s p).2.2 && decide ((rdU s p).1 < 9223372036854775808)
/-- A whole number. -/
def rdN (s : Bytes) (p : Nat) : Nat × Nat × Bool := if rdOK s p then ((rdU s p).1, (rdU s p).2.1, true) else (0, 0, false)
/-- A string. -/
def rdT (s : Bytes) (p : Nat) : Bytes × Nat × Bool := if rdOK s p && decide ((rdU s p).1 + (rdU s p).2.1 ≤ s.length) then ((s.drop (rdU s p).2.1).take (rdU s p).1, (rdU s p).2.1 + (rdU s p).1, true) else ([], 0, false)

/-! The readers of package codec -/
def RS.text (r : RS) : Bytes × RS := r.take (rdT r.s r.pos) []
def RS.uint (r : RS) : Int × RS := r.take (((rdN r.s r.pos).1 : Nat), (rdN r.s r.pos).2) 0
def rdC (s : Bytes) (p : Nat) (most : Int) : Nat × Nat × Bool := if (rdN s p).2.2 && decide (((rdN s p).1 : Int) ≤ most) then rdN s p else (0, 0, false)
def RS.count (r : RS) (most : Int) : Int × RS := r.take (((rdC r.s r.pos most).1 : Nat), (rdC r.s r.pos most).2) 0
def RS.done (r : RS) : Int := if r.e = 0 ∧ r.pos < r.s.length then 9 else r.e
def uintS (n : Int) : Bytes × Int := if n < 0 then ([], 2) else (uvar n.toNat, 0)
def textS (s : Bytes) : Bytes := uvar s.length ++ s

theorem ent_o1 {p1 : PV} {x1 y1 : D} {O O' : List (Nat × Ob)} (hO : ObsOK (ras []) (St.of [p1] O) O') (hnd : nodB [] O' = true) (h1 : toD p1 = some x1) (e1 : x1 = y1) : Ent (St.of [p1] O) (St.of [.d y1] O') :=
  ent_id rfl (.cons rfl (.data (by rw [h1, e1])) .nil) hO hnd
theorem ent_o3 {p1 p2 p3 : PV} {x1 y1 x2 y2 x3 y3 : D} {O O' : List (Nat × Ob)} (hO : ObsOK (ras []) (St.of [p1, p2, p3] O) O') (hnd : nodB [] O' = true) (h1 : toD p1 = some x1) (e1 : x1 = y1) (h2 : toD p2 = some x2) (e2 : x2 = y2) (h3 : toD p3 = some x3) (e3 : x3 = y3) : Ent (St.of [p1, p2, p3] O) (St.of [.d y1, .d y2, .d y3] O') :=
  ent_id rfl (.cons rfl (.data (by rw [h1, e1])) (.cons rfl (.data (by rw [h2, e2])) (.cons rfl (.data (by rw [h3, e3])) .nil))) hO hnd
theorem rdN_le {s : Bytes} {p : Nat} (h : p ≤ s.length) : (rdN s p).2.1 ≤ s.length := by
  unfold rdN; split
  · exact rdU_le h
  · simp
end Go.Pm

namespace Go.Pm
/-- The parts of a path: those that are done, the rest. -/
def catS : List Bytes → Bytes → List Bytes
  | out, [] => out
  | out, c :: r => if c = 47 then catS (out ++ [[]]) r else catS (out.set (out.length - 1) (out.getD (out.length - 1) [] ++ [c])) r
def segsF (s : Bytes) : List Bytes := catS [[]] s
theorem last_get {α : Type} {l : List α} (h : 0 < l.length) : ∃ x, l[l.length - 1]? = some x := ⟨_, List.getElem?_eq_getElem (by omega)⟩
theorem map_get {α β : Type} {f : α → β} {l : List α} {i : Nat} {x : α} (h : l[i]? = some x) : (l.map f)[i]? = some (f x) := by simp [h]
theorem getD_get {α : Type} {l : List α} {i : Nat} {x d : α} (h : l[i]? = some x) : l.getD i d = x := by simp [List.getD_eq_getElem?_getD, h]
theorem eqB {a b : UInt8} : ((a.toNat : Int) == (b.toNat : Int)) = decide (a = b) := by
  rw [Bool.eq_iff_iff]; simp [← UInt8.toNat_inj]; omega
theorem neB {a b : UInt8} : ((a.toNat : Int) != (b.toNat : Int)) = decide (a ≠ b) := by
  simp only [bne, eqB]; simp
theorem catS_len : ∀ (s : Bytes) (out : List Bytes), (catS out s).length ≤ out.length + s.length
  | [], out => by simp [catS]
  | c :: r, out => by
    unfold catS
    split
    · have := catS_len r (out ++ [[]]); simp at this ⊢; omega
    · have := catS_len r (out.set (out.length - 1) (out.getD (out.length - 1) [] ++ [c])); simp at this ⊢; omega
theorem catS_pos : ∀ (s : Bytes) (out : List Bytes), 0 < out.length → 0 < (catS out s).length
  | [], out, h => h
  | c :: r, out, h => by
    unfold catS
    split
    · exact catS_pos r _ (by simp)
    · exact catS_pos r _ (by simpa using h)
theorem catS_mem : ∀ (s : Bytes) (out : List Bytes) (n : Nat), (∀ y ∈ out, y.length ≤ n) → ∀ y ∈ catS out s, y.length ≤ n + s.length
  | [], out, n, h => fun y hy => by have := h y hy; simp; exact this
  | c :: r, out, n, h => by
    unfold catS
    have hg : (out.getD (out.length - 1) []).length ≤ n := by
      by_cases h0 : out.length - 1 < out.length
      · rw [List.getD_eq_getElem?_getD, List.getElem?_eq_getElem h0]; exact h _ (List.getElem_mem h0)
      · rw [List.getD_eq_getElem?_getD, List.getElem?_eq_none (by omega)]; simp
    split
    · intro y hy
      have := catS_mem r _ n (fun z hz => by
        rcases List.mem_append.1 hz with hz | hz
        · exact h z hz
        · simp at hz; subst hz; simp) y hy
      simp; omega
    · intro y hy
      have := catS_mem r _ (n + 1) (fun z hz => by
        rcases List.mem_or_eq_of_mem_set hz with hz | hz
        · have := h z hz; omega
        · subst hz; simp; exact hg) y hy
      simp; omega
theorem segsF_len (s : Bytes) : (segsF s).length ≤ s.length + 1 := by have := catS_len s [[]]; simp at this; unfold segsF; omega
theorem segsF_pos (s : Bytes) : 0 < (segsF s).length := catS_pos s _ (by simp)
theorem segsF_mem (s : Bytes) : ∀ y ∈ segsF s, y.length ≤ s.length := fun y hy => by have := catS_mem s [[]] 0 (by simp) y hy; omega

/-- The number behind a 'v', from a place on; what stood ahead of it. -/
def digs : Bytes → Int → Option Int
  | [], n => some n
  | c :: r, n => if digitB c then digs r (10 * n + ((c.toNat : Int) - 48)) else none
/-- The number of the last part of a path, or -1. -/
def majF (s : Bytes) : Int := if s.length < 2 ∨ s.length > 4 then -1 else if s.getD 0 0 ≠ 118 then -1 else if s.getD 1 0 = 48 ∧ s.length > 2 then -1 else (digs (s.drop 1) 0).getD (-1)
def majorF (p : Bytes) : Int × Int := if p.length > 64 then (0, 4) else if (segsF p).all segOK then (if (segsF p).length < 2 ∨ majF ((segsF p).getD ((segsF p).length - 1) []) < 0 then (0, 4) else (majF ((segsF p).getD ((segsF p).length - 1) []), 0)) else (0, 4)
def isPath (p : Bytes) : Bool := decide ((majorF p).2 = 0)
end Go.Pm
namespace Go.Pm
theorem catS_no : ∀ (s : Bytes) (out : List Bytes), (47 : UInt8) ∉ s → (catS out s).length = out.length
  | [], out, _ => rfl
  | c :: r, out, h => by
    simp only [List.mem_cons, not_or] at h
    unfold catS
    rw [if_neg (fun e => h.1 e.symm), catS_no r _ h.2]; simp
/-- A path has a slash. -/
theorem isPath_slash {p : Bytes} (h : isPath p = true) : ∃ j : Nat, p[j]? = some (47 : UInt8) := by
  have hm : (47 : UInt8) ∈ p := by
    apply Classical.byContradiction
    intro hn
    have h1 := catS_no p [[]] hn
    unfold isPath majorF at h
    split at h
    · simp at h
    · split at h
      · rw [if_pos (.inl (by show (catS [[]] p).length < 2; rw [h1]; decide))] at h; simp at h
      · simp at h
  exact List.mem_iff_getElem?.1 hm
theorem isPath_len {p : Bytes} (h : isPath p = true) : p.length ≤ 64 := by
  unfold isPath majorF at h
  split at h
  · simp at h
  · omega
theorem isPath_ok {p : Bytes} (h : isPath p = true) : (majorF p).2 = 0 := by simpa [isPath] using h
/-- The number of a path's line, or -1. -/
def majN (p : Bytes) : Int := if isPath p then (majorF p).1 else -1
end Go.Pm

namespace Go.Pm
def clampS (x : Span) : Span := ⟨if x.lo > 0 then x.lo else 0, if x.hi < 1000000 then x.hi else 1000000⟩
/-- Where a span goes, from the end. -/
def posS (l : List Span) (y : Span) : Nat → Nat
  | 0 => 0
  | k + 1 => match l[k]? with
    | some z => if z.lo > y.lo then posS l y k else k + 1
    | none => posS l y k
theorem pos_step {l : List Span} {y z : Span} {k : Nat} (hm : l[k - 1]? = some z) (h0 : 0 < k) (h : z.lo > y.lo) : posS l y k = posS l y (k - 1) := by
  obtain ⟨k, rfl⟩ : ∃ j, k = j + 1 := ⟨k - 1, by omega⟩
  simp only [Nat.add_sub_cancel] at hm ⊢
  simp [posS, hm, h]
theorem pos_stop {l : List Span} {y z : Span} {k : Nat} (hm : l[k - 1]? = some z) (h0 : 0 < k) (h : ¬ z.lo > y.lo) : posS l y k = k := by
  obtain ⟨k, rfl⟩ : ∃ j, k = j + 1 := ⟨k - 1, by omega⟩
  simp only [Nat.add_sub_cancel] at hm
  simp [posS, hm]; omega
theorem pos_le (l : List Span) (y : Span) : ∀ k, posS l y k ≤ k
  | 0 => Nat.le_refl _
  | k + 1 => by
    unfold posS
    split
    · split
      · exact Nat.le_succ_of_le (pos_le l y k)
      · exact Nat.le_refl _
    · exact Nat.le_succ_of_le (pos_le l y k)
def insS (l : List Span) (y : Span) : List Span := l.take (posS l y l.length) ++ y :: l.drop (posS l y l.length)
theorem insS_len (l : List Span) (y : Span) : (insS l y).length = l.length + 1 := by
  have := pos_le l y l.length
  simp [insS]; omega
def canon1 : List Span → List Span → List Span
  | acc, [] => acc
  | acc, x :: r => if (clampS x).lo ≥ (clampS x).hi then canon1 acc r else canon1 (insS acc (clampS x)) r
def mstep (out : List Span) (x : Span) : List Span := match out[out.length - 1]? with
  | some z => if x.lo ≤ z.hi then out.set (out.length - 1) ⟨z.lo, if x.hi > z.hi then x.hi else z.hi⟩ else out ++ [x]
  | none => out ++ [x]
def canonS (s : List Span) : List Span := (canon1 [] s).foldl mstep []
theorem mstep_nil {out : List Span} {x : Span} (h : ¬ 0 < out.length) : mstep out x = out ++ [x] := by
  have : out = [] := List.eq_nil_of_length_eq_zero (by omega)
  subst this; rfl
theorem mstep_in {out : List Span} {x z : Span} (h : out[out.length - 1]? = some z) (hl : x.lo ≤ z.hi) : mstep out x = out.set (out.length - 1) ⟨z.lo, if x.hi > z.hi then x.hi else z.hi⟩ := by simp [mstep, h, hl]
theorem mstep_out {out : List Span} {x z : Span} (h : out[out.length - 1]? = some z) (hl : ¬ x.lo ≤ z.hi) : mstep out x = out ++ [x] := by simp only [mstep, h, if_neg hl]
theorem mstep_len (out : List Span) (x : Span) : (mstep out x).length ≤ out.length + 1 := by
  unfold mstep; split
  · split <;> simp
  · simp
theorem canon1_len : ∀ (s acc : List Span), (canon1 acc s).length ≤ acc.length + s.length
  | [], acc => Nat.le_refl _
  | x :: r, acc => by
    unfold canon1; split
    · have := canon1_len r acc; simp; omega
    · have := canon1_len r (insS acc (clampS x)); rw [insS_len] at this; simp; omega
theorem mfold_len : ∀ (s out : List Span), (s.foldl mstep out).length ≤ out.length + s.length
  | [], out => Nat.le_refl _
  | x :: r, out => by
    have := mfold_len r (mstep out x); have := mstep_len out x; simp only [List.foldl_cons, List.length_cons]; omega
theorem canonS_len (s : List Span) : (canonS s).length ≤ s.length := by
  have h1 := canon1_len s []; have h2 := mfold_len (canon1 [] s) []; simp at h1 h2; unfold canonS; omega
end Go.Pm

namespace Go.Pm
def prevQ {α : Type} (l : List α) (i : Nat) : Option α := if i = 0 then none else l[i - 1]?
theorem prevQ_pos {α : Type} {l : List α} {i : Nat} {y : α} (h : 0 < i) (hy : l[i - 1]? = some y) : prevQ l i = some y := by
  unfold prevQ; rw [if_neg (by omega), hy]
theorem prevQ_succ {α : Type} {l : List α} {i : Nat} {x : α} (h : l[i]? = some x) : prevQ l (i + 1) = some x := by
  unfold prevQ; rw [if_neg (by omega), Nat.add_sub_cancel, h]
def ordE (q : Req) : Option Req → Bool
  | some y => !Op.bytesLess y.path q.path
  | none => false
def reqE (q : Req) (p : Option Req) : Int := if majN q.path < 0 then 4 else if q.set.length = 0 ∨ q.set ≠ canonS q.set then 1 else if ordE q p then 1 else 0
def reqsE : Option Req → List Req → Int
  | _, [] => 0
  | p, q :: r => if reqE q p ≠ 0 then reqE q p else reqsE (some q) r
def checkReqs (l : List Req) : Int := if l.length > 16 then 7 else reqsE none l
def isDig (s : Bytes) : Bool := decide (s.length = 0) || decide (s.length = 32)
def relE (r : Rls) : Int := if majN r.path < 0 then 4 else if r.ver.ok = false ∨ r.ver.maj ≠ majN r.path then 2 else if checkReqs r.reqs ≠ 0 then checkReqs r.reqs else if (isDig r.arch && isDig r.iface && isDig r.cert) then 0 else 1
def stepE (r : Rls) : Option Rls → Int
  | some b => if cmpR b r = 0 then 5 else if cmpR b r > 0 then 1 else 0
  | none => 0
def relsE : Option Rls → List Rls → Int
  | _, [] => 0
  | p, r :: t => if relE r ≠ 0 then relE r else if stepE r p ≠ 0 then stepE r p else relsE (some r) t
def checkI (l : List Rls) : Int := if l.length > 256 then 7 else relsE none l

section
variable {l : List Req} {i : Nat} {x : Req}
theorem reqsE_stop (hI : reqsE (prevQ l i) (l.drop i) = reqsE none l) (h16 : ¬ l.length > 16) (hn : l[i]? = some x) {e : Int} (h : reqE x (prevQ l i) = e) (h0 : e ≠ 0) : e = checkReqs l := by
  rw [checkReqs, if_neg h16, ← hI, drop_cons hn, reqsE, if_pos (by rw [h]; exact h0), h]
theorem reqsE_next (hI : reqsE (prevQ l i) (l.drop i) = reqsE none l) (hn : l[i]? = some x) (h : reqE x (prevQ l i) = 0) : reqsE (prevQ l (i + 1)) (l.drop (i + 1)) = reqsE none l := by
  rw [← hI, drop_cons hn, reqsE, if_neg (by rw [h]; simp), prevQ_succ hn]
theorem reqsE_end (hI : reqsE (prevQ l l.length) (l.drop l.length) = reqsE none l) (h16 : ¬ l.length > 16) : (0 : Int) = checkReqs l := by
  rw [checkReqs, if_neg h16, ← hI, List.drop_length, reqsE]
end
section
variable {l : List Rls} {i : Nat} {x : Rls}
theorem relsE_stop (hI : relsE (prevQ l i) (l.drop i) = relsE none l) (h16 : ¬ l.length > 256) (hn : l[i]? = some x) {e : Int} (h : relE x = e) (h0 : e ≠ 0) : e = checkI l := by
  rw [checkI, if_neg h16, ← hI, drop_cons hn, relsE, if_pos (by rw [h]; exact h0), h]
theorem relsE_stop2 (hI : relsE (prevQ l i) (l.drop i) = relsE none l) (h16 : ¬ l.length > 256) (hn : l[i]? = some x) (h : relE x = 0) {e : Int} (h2 : stepE x (prevQ l i) = e) (h0 : e ≠ 0) : e = checkI l := by
  rw [checkI, if_neg h16, ← hI, drop_cons hn, relsE, if_neg (by rw [h]; simp), if_pos (by rw [h2]; exact h0), h2]
theorem relsE_next (hI : relsE (prevQ l i) (l.drop i) = relsE none l) (hn : l[i]? = some x) (h : relE x = 0) (h2 : stepE x (prevQ l i) = 0) : relsE (prevQ l (i + 1)) (l.drop (i + 1)) = relsE none l := by
  rw [← hI, drop_cons hn, relsE, if_neg (by rw [h]; simp), if_neg (by rw [h2]; simp), prevQ_succ hn]
theorem relsE_end (hI : relsE (prevQ l l.length) (l.drop l.length) = relsE none l) (h16 : ¬ l.length > 256) : (0 : Int) = checkI l := by
  rw [checkI, if_neg h16, ← hI, List.drop_length, relsE]
end
theorem reqsE_ok : ∀ {l : List Req} {p : Option Req}, reqsE p l = 0 → ∀ q ∈ l, reqE q none = 0 ∨ ∃ y, reqE q (some y) = 0
  | [], _, _ => by simp
  | a :: r, p, h => fun q hq => by
    unfold reqsE at h
    split at h
    · rename_i h0; exact absurd h h0
    · rename_i h0
      rcases List.mem_cons.1 hq with rfl | hq
      · have h0 : reqE q p = 0 := by simpa using h0
        cases p with
        | none => exact .inl h0
        | some y => exact .inr ⟨y, h0⟩
      · exact reqsE_ok h q hq
/-- What a right index's releases are. -/
theorem relsE_ok : ∀ {l : List Rls} {p : Option Rls}, relsE p l = 0 → ∀ r ∈ l, relE r = 0
  | [], _, _ => by simp
  | a :: t, p, h => fun r hr => by
    unfold relsE at h
    split at h
    · rename_i h0; exact absurd h h0
    · rename_i h0
      split at h
      · rename_i h1; exact absurd h h1
      · rcases List.mem_cons.1 hr with rfl | hr
        · simpa using h0
        · exact relsE_ok h r hr
theorem checkI_ok {l : List Rls} (h : checkI l = 0) : ∀ r ∈ l, relE r = 0 := by
  unfold checkI at h; split at h
  · simp at h
  · exact relsE_ok h
theorem relE_ver {r : Rls} (h : relE r = 0) : r.ver.ok = true := by
  unfold relE at h
  split at h
  · simp at h
  · split at h
    · simp at h
    · rename_i h2; simp only [not_or] at h2; simpa using h2.1
theorem checkI_ver {l : List Rls} (h : checkI l = 0) : ∀ r ∈ l, r.ver.ok = true := fun r hr => relE_ver (checkI_ok h r hr)
end Go.Pm
namespace Go.Pm
section
variable {q : Req} {p : Option Req}
theorem reqE_1 (h : majN q.path < 0) : reqE q p = 4 := by unfold reqE; rw [if_pos h]
theorem reqE_2 (h : ¬ majN q.path < 0) (h2 : q.set.length = 0 ∨ q.set ≠ canonS q.set) : reqE q p = 1 := by unfold reqE; rw [if_neg h, if_pos h2]
theorem reqE_3 (h : ¬ majN q.path < 0) (h2 : ¬ (q.set.length = 0 ∨ q.set ≠ canonS q.set)) (h3 : ordE q p = true) : reqE q p = 1 := by unfold reqE; rw [if_neg h, if_neg h2, if_pos h3]
theorem reqE_0 (h : ¬ majN q.path < 0) (h2 : ¬ (q.set.length = 0 ∨ q.set ≠ canonS q.set)) (h3 : ordE q p = false) : reqE q p = 0 := by unfold reqE; rw [if_neg h, if_neg h2, h3]; rfl
theorem ordE_1 {l : List Req} {i : Nat} {y : Req} (h : prevQ l i = some y) {b : Bool} (h2 : Op.bytesLess y.path q.path = b) : ordE q (prevQ l i) = !b := by rw [h, ordE, h2]
theorem ordE_0 {l : List Req} {i : Nat} (h : i = 0) : ordE q (prevQ l i) = false := by subst h; rfl
end
section
variable {r b : Rls} {l : List Rls} {i : Nat}
theorem stepE_5 (h : prevQ l i = some b) (h2 : cmpR b r = 0) : stepE r (prevQ l i) = 5 := by rw [h, stepE, if_pos h2]
theorem stepE_1 (h : prevQ l i = some b) (h2 : ¬ cmpR b r = 0) (h3 : cmpR b r > 0) : stepE r (prevQ l i) = 1 := by rw [h, stepE, if_neg h2, if_pos h3]
theorem stepE_0 (h : prevQ l i = some b) (h2 : ¬ cmpR b r = 0) (h3 : ¬ cmpR b r > 0) : stepE r (prevQ l i) = 0 := by rw [h, stepE, if_neg h2, if_neg h3]
theorem stepE_z (h : i = 0) : stepE r (prevQ l i) = 0 := by subst h; rfl
theorem relE_1 (h : majN r.path < 0) : relE r = 4 := by unfold relE; rw [if_pos h]
theorem relE_2 (h : ¬ majN r.path < 0) (h2 : r.ver.ok = false ∨ r.ver.maj ≠ majN r.path) : relE r = 2 := by unfold relE; rw [if_neg h, if_pos h2]
theorem relE_3 (h : ¬ majN r.path < 0) (h2 : ¬ (r.ver.ok = false ∨ r.ver.maj ≠ majN r.path)) (h3 : checkReqs r.reqs ≠ 0) : relE r = checkReqs r.reqs := by unfold relE; rw [if_neg h, if_neg h2, if_pos h3]
theorem relE_4 (h : ¬ majN r.path < 0) (h2 : ¬ (r.ver.ok = false ∨ r.ver.maj ≠ majN r.path)) (h3 : checkReqs r.reqs = 0) {c : Bool} (h4 : (isDig r.arch && isDig r.iface && isDig r.cert) = c) : relE r = if c then 0 else 1 := by unfold relE; rw [if_neg h, if_neg h2, if_neg (by simp [h3]), h4]
end
end Go.Pm

namespace Go.Pm
def mAt (l m : Bytes) (k : Nat) : Bool := (l.drop k).take m.length == m
theorem ixS_eq (l m : Bytes) : ixS l m = match (List.range (l.length + 1 - m.length)).find? (mAt l m) with | some i => (i : Int) | none => -1 := rfl
theorem find_range {p : Nat → Bool} : ∀ (n : Nat), ((List.range n).find? p = none ↔ ∀ j, j < n → p j = false) := by
  intro n; simp
theorem ixS_none {l m : Bytes} (h : ∀ j, j < l.length + 1 - m.length → mAt l m j = false) : ixS l m = -1 := by
  rw [ixS_eq, (find_range _).2 h]
theorem ixS_found {l m : Bytes} {k : Nat} (hk : k < l.length + 1 - m.length) (hno : ∀ j, j < k → mAt l m j = false) (hm : mAt l m k = true) : ixS l m = k := by
  have : (List.range (l.length + 1 - m.length)).find? (mAt l m) = some k := List.find?_range_eq_some.2 ⟨hm, List.mem_range.2 hk, fun j hj => by simp [hno j hj]⟩
  rw [ixS_eq, this]
theorem mAt_drop (l m : Bytes) (k j : Nat) : mAt (l.drop k) m j = mAt l m (k + j) := by simp [mAt, List.drop_drop]
theorem ixS_tail {l m : Bytes} {k : Nat} (hno : ∀ j, j < k → mAt l m j = false) (hk : k ≤ l.length) (hm0 : 0 < m.length) : ixS l m = if ixS (l.drop k) m ≥ 0 then ixS (l.drop k) m + k else -1 := by
  rw [ixS_eq (l.drop k)]
  cases hf : (List.range ((l.drop k).length + 1 - m.length)).find? (mAt (l.drop k) m) with
  | none =>
    rw [if_neg (by simp)]
    refine ixS_none fun j hj => ?_
    rcases Nat.lt_or_ge j k with h | h
    · exact hno j h
    · have := (find_range _).1 hf (j - k) (by simp; omega)
      rw [mAt_drop, show k + (j - k) = j from by omega] at this; exact this
  | some i =>
    simp only [Int.natCast_nonneg, ge_iff_le, if_true]
    obtain ⟨h1, h2, h3⟩ := List.find?_range_eq_some.1 hf
    have h2 := List.mem_range.1 h2
    rw [ixS_found (k := k + i) (by simp at h2; omega) (fun j hj => ?_) (by rw [← mAt_drop]; exact h1)]
    · simp; omega
    · rcases Nat.lt_or_ge j k with h | h
      · exact hno j h
      · have := h3 (j - k) (by omega)
        rw [mAt_drop, show k + (j - k) = j from by omega] at this; simpa using this

/-! One byte -/
theorem ixB_none {l : Bytes} {c : UInt8} (h : Lib.indexByte l c < 0) : ∀ j : Nat, l[j]? ≠ some c := by
  induction l with
  | nil => intro j; simp
  | cons b r ih =>
    intro j
    have hg := Lib.indexByte_ge r c
    unfold Lib.indexByte at h
    split at h
    · simp at h
    · rename_i hb
      split at h
      · rename_i he
        cases j with
        | zero => simp; intro e; subst e; simp at hb
        | succ j => simp only [List.getElem?_cons_succ]; exact ih (by simp at he; omega) j
      · rename_i he; simp at he; omega
theorem ixB_some {l : Bytes} {c : UInt8} (h : 0 ≤ Lib.indexByte l c) : ∃ o : Nat, Lib.indexByte l c = o ∧ l[o]? = some c ∧ ∀ j, j < o → l[j]? ≠ some c := by
  induction l with
  | nil => simp [Lib.indexByte] at h
  | cons b r ih =>
    have hg := Lib.indexByte_ge r c
    unfold Lib.indexByte at h ⊢
    split
    · rename_i hb; exact ⟨0, rfl, by simpa using hb, fun j hj => by omega⟩
    · rename_i hb
      rw [if_neg hb] at h
      split at h
      · simp at h
      · rename_i he
        simp at he
        obtain ⟨o, h1, h2, h3⟩ := ih (by omega)
        rw [if_neg (by simp; omega)]
        refine ⟨o + 1, by rw [h1]; simp, by simpa using h2, fun j hj => ?_⟩
        cases j with
        | zero => simp; intro e; subst e; simp at hb
        | succ j => simp only [List.getElem?_cons_succ]; exact h3 j (by omega)
theorem mAt_head {l m : Bytes} {c0 : UInt8} {k : Nat} (h0 : m[0]? = some c0) (hm : mAt l m k = true) : l[k]? = some c0 := by
  simp only [mAt, beq_iff_eq] at hm
  have hl : 0 < m.length := (List.getElem?_eq_some_iff.1 h0).1
  rw [← hm] at h0
  rw [List.getElem?_take, if_pos hl, List.getElem?_drop] at h0
  simpa using h0
theorem mAt_second {l m : Bytes} {c1 : UInt8} {k : Nat} (h1 : m[1]? = some c1) (hm : mAt l m k = true) : l[k + 1]? = some c1 := by
  simp only [mAt, beq_iff_eq] at hm
  have hl : 1 < m.length := (List.getElem?_eq_some_iff.1 h1).1
  rw [← hm] at h1
  rw [List.getElem?_take, if_pos hl, List.getElem?_drop] at h1
  simpa using h1
theorem ixS_one (l : Bytes) (c : UInt8) : ixS l [c] = Lib.indexByte l c := by
  have hone : ∀ k, mAt l [c] k = decide (l[k]? = some c) := by
    intro k
    simp only [mAt, List.length_singleton]
    cases h : l[k]? with
    | none =>
      have : l.length ≤ k := by simpa using h
      rw [List.drop_of_length_le this]; simp
    | some b => rw [drop_cons h]; simp; rw [Bool.eq_iff_iff]; simp
  rcases Int.lt_or_le (Lib.indexByte l c) 0 with h | h
  · have hn := ixB_none h
    have hg := Lib.indexByte_ge l c
    rw [ixS_none (fun j _ => by rw [hone]; simp [hn j])]; omega
  · obtain ⟨o, h1, h2, h3⟩ := ixB_some h
    rw [h1, ixS_found (k := o) (by have := rng_le h2; simp; omega) (fun j hj => by rw [hone]; simp [h3 j hj]) (by rw [hone]; simp [h2])]
theorem ixS_nil (l : Bytes) : ixS l [] = 0 := ixS_found (k := 0) (by simp) (fun j hj => by omega) (by simp [mAt])
theorem ixS_self (l : Bytes) : ixS l l = 0 := ixS_found (k := 0) (by omega) (fun j hj => by omega) (by simp [mAt])
theorem ixS_long {l m : Bytes} (h : m.length ≥ l.length) (hne : ¬ m = l) : ixS l m = -1 := ixS_none fun j hj => by
  have hj0 : j = 0 := by omega
  have hl : m.length = l.length := by omega
  subst hj0
  simp only [mAt, List.drop_zero, hl, List.take_length]
  simp; exact fun e => hne e.symm
theorem ixS_ge (l m : Bytes) : -1 ≤ ixS l m := by
  rw [ixS_eq]; split
  · exact Int.le_trans (by decide) (Int.natCast_nonneg _)
  · exact Int.le_refl _

/-! Hashes -/
def hashN (l : Bytes) : Int := l.foldl (fun h c => h * 16777619 + (c.toNat : Int)) 0
abbrev M32 : Int := 4294967296
theorem wrapU32 (x : Int) : IntKind.u32.wrap x = x % M32 := by
  simp [IntKind.wrap, IntKind.bits, IntKind.signed]
theorem hashN_snoc (l : Bytes) (c : UInt8) : hashN (l ++ [c]) = hashN l * 16777619 + (c.toNat : Int) := by simp [hashN]
theorem hash_foldl (l : Bytes) : ∀ (h : Int), l.foldl (fun h c => h * 16777619 + (c.toNat : Int)) h = h * 16777619 ^ l.length + hashN l := by
  unfold hashN
  induction l with
  | nil => intro h; simp
  | cons c r ih =>
    intro h
    simp only [List.foldl_cons, List.length_cons]
    rw [ih, ih (0 * 16777619 + (c.toNat : Int)), Int.pow_succ]
    simp only [Int.zero_mul, Int.zero_add, Int.add_mul, Int.mul_assoc]
    rw [Int.mul_comm (16777619 ^ r.length) 16777619]
    omega
theorem hashN_cons (a : UInt8) (l : Bytes) : hashN (a :: l) = (a.toNat : Int) * 16777619 ^ l.length + hashN l := by
  have := hash_foldl l (a.toNat : Int)
  rw [← this]; simp [hashN]
/-- The hash's next: of a window, with the byte that goes and the one that comes. -/
theorem hash_roll (a c : UInt8) (w : Bytes) : hashN (w ++ [c]) = hashN (a :: w) * 16777619 + (c.toNat : Int) - 16777619 ^ (w.length + 1) * (a.toNat : Int) := by
  rw [hashN_snoc, hashN_cons, Int.pow_succ, Int.add_mul]
  have : (a.toNat : Int) * 16777619 ^ w.length * 16777619 = 16777619 ^ w.length * 16777619 * (a.toNat : Int) := by
    rw [Int.mul_assoc, Int.mul_comm]
  omega
theorem mod_step (x c : Int) : (((x % M32) * 16777619) % M32 + c) % M32 = (x * 16777619 + c) % M32 := by simp only [M32]; omega
theorem mod_roll (x k a : Int) : (x % M32 - ((k % M32) * a) % M32) % M32 = (x - k * a) % M32 := by
  rw [← Int.sub_emod, Int.sub_emod, Int.mul_emod, Int.emod_emod_of_dvd _ (Int.dvd_refl _), ← Int.mul_emod, ← Int.sub_emod]
end Go.Pm
namespace Go.Pm
theorem take_snoc {s : Bytes} {i : Nat} {c : UInt8} (hn : s[i]? = some c) : s.take (i + 1) = s.take i ++ [c] := by
  rw [List.take_add_one, hn]; rfl
theorem byte_mod (c : UInt8) : (c.toNat : Int) % M32 = c.toNat := by
  have := UInt8.toNat_lt c; simp only [M32]; omega
theorem hash_next {s : Bytes} {i : Nat} {c : UInt8} (hn : s[i]? = some c) : IntKind.u32.wrap (IntKind.u32.wrap (hashN (s.take i) % M32 * 16777619) + IntKind.u32.wrap (c.toNat : Int)) = hashN (s.take (i + 1)) % M32 := by
  rw [wrapU32, wrapU32, wrapU32, take_snoc hn, hashN_snoc, byte_mod, mod_step]
theorem powmod (a : Int) : ∀ k : Nat, (a % M32) ^ k % M32 = a ^ k % M32
  | 0 => by simp
  | k + 1 => by rw [Int.pow_succ, Int.pow_succ, Int.mul_emod, powmod a k, Int.emod_emod_of_dvd _ (Int.dvd_refl _), ← Int.mul_emod]
theorem pm_even {pw sq : Int} {k : Nat} (h : k % 2 = 0) : (pw * ((sq * sq) % M32) ^ (k / 2)) % M32 = (pw * sq ^ k) % M32 := by
  rw [Int.mul_emod, powmod, ← Int.mul_emod]
  obtain ⟨j, rfl⟩ : ∃ j, k = 2 * j := ⟨k / 2, by omega⟩
  rw [show 2 * j / 2 = j from by omega, Int.pow_mul, show sq ^ 2 = sq * sq from by rw [Int.pow_succ, Int.pow_succ]; simp]
theorem pm_odd {pw sq : Int} {k : Nat} (h : k % 2 = 1) : (((pw * sq) % M32) * ((sq * sq) % M32) ^ (k / 2)) % M32 = (pw * sq ^ k) % M32 := by
  rw [Int.mul_emod, powmod, Int.emod_emod_of_dvd _ (Int.dvd_refl _), ← Int.mul_emod]
  obtain ⟨j, rfl⟩ : ∃ j, k = 2 * j + 1 := ⟨k / 2, by omega⟩
  rw [show (2 * j + 1) / 2 = j from by omega, Int.pow_succ, Int.pow_mul, show sq ^ 2 = sq * sq from by rw [Int.pow_succ, Int.pow_succ]; simp]
  rw [Int.mul_assoc, Int.mul_comm sq]
theorem and1 (k : Nat) (h : k < 9223372036854775808) : IntKind.i64.wrap ((BitVec.ofInt 64 (k : Int) &&& BitVec.ofInt 64 1).toNat : Int) = ((k % 2 : Nat) : Int) := by
  have e : (BitVec.ofInt 64 (k : Int) &&& BitVec.ofInt 64 1).toNat = k % 2 := by
    rw [BitVec.toNat_and, BitVec.ofInt_natCast, BitVec.toNat_ofNat, Nat.mod_eq_of_lt (by omega)]
    rw [show (BitVec.ofInt 64 1).toNat = 1 from by decide, Nat.and_one_is_mod]
  rw [e, wrap64 (by omega) (by omega)]
theorem shr1 (k : Nat) : ((k : Int).fdiv (2 ^ min (Int.toNat 1) 64)) = ((k / 2 : Nat) : Int) := by
  rw [show (2 : Int) ^ min (Int.toNat 1) 64 = ((2 : Nat) : Int) from by decide, ← Int.ofNat_fdiv]
theorem shr4 (k : Nat) : ((k : Int).fdiv (2 ^ min (Int.toNat 4) 64)) = ((k / 16 : Nat) : Int) := by
  rw [show (2 : Int) ^ min (Int.toNat 4) 64 = ((16 : Nat) : Int) from by decide, ← Int.ofNat_fdiv]
theorem win_step {s : Bytes} {i n : Nat} {a c : UInt8} (hn : s[i]? = some c) (ha : s[i - n]? = some a) (h0 : 0 < n) (hi : n ≤ i) :
    hashN ((s.drop (i + 1 - n)).take n) = hashN ((s.drop (i - n)).take n) * 16777619 + (c.toNat : Int) - 16777619 ^ n * (a.toNat : Int) := by
  obtain ⟨m, rfl⟩ : ∃ m, n = m + 1 := ⟨n - 1, by omega⟩
  have e1 : (s.drop (i - (m + 1))).take (m + 1) = a :: (s.drop (i - (m + 1) + 1)).take m := by rw [drop_cons ha, List.take_succ_cons]
  have e2 : (s.drop (i + 1 - (m + 1))).take (m + 1) = (s.drop (i - (m + 1) + 1)).take m ++ [c] := by
    rw [show i + 1 - (m + 1) = i - (m + 1) + 1 from by omega, List.take_add_one]
    have : (s.drop (i - (m + 1) + 1))[m]? = some c := by rw [List.getElem?_drop, show i - (m + 1) + 1 + m = i from by omega, hn]
    rw [this]; rfl
  have hl : ((s.drop (i - (m + 1) + 1)).take m).length = m := by have := rng_le hn; simp; omega
  have := hash_roll a c ((s.drop (i - (m + 1) + 1)).take m)
  rw [hl] at this
  rw [e1, e2, this]
theorem roll_next {s : Bytes} {i n : Nat} {a c : UInt8} (hn : s[i]? = some c) (ha : s[i - n]? = some a) (h0 : 0 < n) (hi : n ≤ i) :
    IntKind.u32.wrap (IntKind.u32.wrap (IntKind.u32.wrap (hashN ((s.drop (i - n)).take n) % M32 * 16777619) + IntKind.u32.wrap (c.toNat : Int)) - IntKind.u32.wrap ((16777619 : Int) ^ n % M32 * IntKind.u32.wrap (a.toNat : Int))) = hashN ((s.drop (i + 1 - n)).take n) % M32 := by
  rw [win_step hn ha h0 hi]
  simp only [wrapU32, byte_mod]
  rw [mod_step, mod_roll]
theorem hash_ne {l m : Bytes} {k : Nat} (h : ((hashN ((l.drop k).take m.length) % M32) == (hashN m % M32)) = false) : mAt l m k = false := by
  simp only [mAt]
  cases hb : (l.drop k).take m.length == m with
  | false => rfl
  | true => simp only [beq_iff_eq] at hb; rw [hb] at h; simp at h
theorem ixS_le (l m : Bytes) : ixS l m ≤ l.length := by
  rw [ixS_eq]
  split
  · rename_i i h
    have := List.mem_range.1 (List.find?_range_eq_some.1 h).2.1
    omega
  · omega
end Go.Pm

namespace Go.Pm
/-! Words between blanks -/
def joinB : List Bytes → Bytes
  | [] => [32]
  | w :: r => 32 :: (w ++ joinB r)
theorem joinB_head (r : List Bytes) : ∃ t, joinB r = 32 :: t := by cases r <;> exact ⟨_, rfl⟩
/-- Two words without a blank, each with one behind it. -/
theorem word_eq : ∀ (w s t u : Bytes), (32 : UInt8) ∉ w → (32 : UInt8) ∉ s → w ++ 32 :: t = s ++ 32 :: u → w = s
  | [], [], _, _, _, _, _ => rfl
  | [], c :: s, t, u, _, hs, h => by simp at h; exact absurd (h.1 ▸ List.mem_cons_self) hs
  | c :: w, [], t, u, hw, _, h => by simp at h; exact absurd (h.1 ▸ List.mem_cons_self) hw
  | c :: w, d :: s, t, u, hw, hs, h => by
    simp only [List.cons_append, List.cons.injEq] at h
    obtain ⟨rfl, h⟩ := h
    simp only [List.mem_cons, not_or] at hw hs
    rw [word_eq w s t u hw.2 hs.2 h]
theorem mAt_pre {l m : Bytes} {k : Nat} : mAt l m k = true ↔ ∃ u, l.drop k = m ++ u := by
  simp only [mAt, beq_iff_eq]
  constructor
  · intro h
    refine ⟨(l.drop k).drop m.length, ?_⟩
    have := List.take_append_drop m.length (l.drop k)
    rw [h] at this; exact this.symm
  · rintro ⟨u, h⟩; rw [h, List.take_left]
theorem join_at (s : Bytes) (hs : (32 : UInt8) ∉ s) : ∀ (ws : List Bytes), (∀ w ∈ ws, (32 : UInt8) ∉ w) → ((∃ k, mAt (joinB ws) (32 :: (s ++ [32])) k = true) ↔ s ∈ ws)
  | [], _ => by
    simp only [List.not_mem_nil, iff_false]
    rintro ⟨k, hk⟩
    obtain ⟨u, hu⟩ := mAt_pre.1 hk
    have := congrArg List.length hu
    simp [joinB] at this; omega
  | w :: r, hw => by
    have ih := join_at s hs r (fun x hx => hw x (List.mem_cons_of_mem _ hx))
    have hww := hw w List.mem_cons_self
    obtain ⟨t, ht⟩ := joinB_head r
    constructor
    · rintro ⟨k, hk⟩
      obtain ⟨u, hu⟩ := mAt_pre.1 hk
      cases k with
      | zero =>
        rw [List.drop_zero, joinB, ht] at hu
        simp only [List.cons_append, List.cons.injEq, true_and, List.append_assoc, List.nil_append] at hu
        rw [word_eq w s t u hww hs (by simpa using hu)]; exact List.mem_cons_self
      | succ k =>
        rw [joinB, List.drop_succ_cons] at hu
        by_cases hkl : k < w.length
        · exfalso
          rw [List.drop_append_of_le_length (by omega), List.drop_eq_getElem_cons hkl] at hu
          simp only [List.cons_append, List.cons.injEq] at hu
          exact hww (hu.1 ▸ List.getElem_mem hkl)
        · refine List.mem_cons_of_mem _ (ih.1 ⟨k - w.length, mAt_pre.2 ⟨u, ?_⟩⟩)
          rw [← hu, List.drop_append, List.drop_of_length_le (by omega : w.length ≤ k)]; rfl
    · intro h
      rcases List.mem_cons.1 h with rfl | h
      · refine ⟨0, mAt_pre.2 ⟨t, ?_⟩⟩
        rw [List.drop_zero, joinB, ht]; simp
      · obtain ⟨k, hk⟩ := ih.2 h
        obtain ⟨u, hu⟩ := mAt_pre.1 hk
        refine ⟨k + w.length + 1, mAt_pre.2 ⟨u, ?_⟩⟩
        rw [joinB, List.drop_succ_cons, List.drop_append, List.drop_of_length_le (by omega : w.length ≤ k + w.length), List.nil_append, show k + w.length - w.length = k from by omega, hu]
theorem ixS_any (l m : Bytes) (hm : 0 < m.length) : decide (ixS l m ≥ 0) = true ↔ ∃ k, mAt l m k = true := by
  simp only [decide_eq_true_eq]
  constructor
  · intro h
    rw [ixS_eq] at h
    split at h
    · rename_i i hi; exact ⟨i, (List.find?_range_eq_some.1 hi).1⟩
    · simp at h
  · rintro ⟨k, hk⟩
    rw [ixS_eq]
    split
    · exact Int.natCast_nonneg _
    · rename_i hn
      have := (find_range _).1 hn k (by
        obtain ⟨u, hu⟩ := mAt_pre.1 hk
        have := congrArg List.length hu
        simp at this; omega)
      rw [hk] at this; cases this
def KW : Bytes := joinB kwords
theorem kw_iff {s : Bytes} (h : s.all wordB = true) : decide (ixS KW ([32] ++ s ++ [32]) ≥ 0) = kwords.any (· == s) := by
  have hs : (32 : UInt8) ∉ s := fun hm => by have := List.all_eq_true.1 h 32 hm; revert this; decide
  have h1 := ixS_any KW (32 :: (s ++ [32])) (by simp)
  have h2 := join_at s hs kwords (by decide)
  have h3 : ([32] ++ s ++ [32] : Bytes) = 32 :: (s ++ [32]) := by simp
  rw [h3, Bool.eq_iff_iff, h1]
  rw [show (kwords.any (· == s) = true) ↔ s ∈ kwords from by simp]
  exact h2

/-! Splitting -/
def splitB : Bytes → List Bytes
  | [] => [[]]
  | c :: r => if c = 47 then [] :: splitB r else match splitB r with
    | h :: t => (c :: h) :: t
    | [] => [[c]]
theorem splitB_pos : ∀ s, 0 < (splitB s).length
  | [] => by simp [splitB]
  | c :: r => by
    unfold splitB; split
    · simp
    · split <;> simp
theorem catS_split : ∀ (s : Bytes) (out : List Bytes) (l : Bytes), catS (out ++ [l]) s = out ++ (match splitB s with | h :: t => (l ++ h) :: t | [] => [l])
  | [], out, l => by simp [catS, splitB]
  | c :: r, out, l => by
    unfold catS splitB
    by_cases hc : c = 47
    · rw [if_pos hc, if_pos hc, catS_split r (out ++ [l]) []]
      have := splitB_pos r
      cases hr : splitB r with
      | nil => rw [hr] at this; simp at this
      | cons h t => simp
    · rw [if_neg hc, if_neg hc]
      have e : (out ++ [l]).set ((out ++ [l]).length - 1) ((out ++ [l]).getD ((out ++ [l]).length - 1) [] ++ [c]) = out ++ [l ++ [c]] := by
        simp [List.getD_eq_getElem?_getD]
      rw [e, catS_split r out (l ++ [c])]
      cases splitB r <;> simp
theorem segsF_split (s : Bytes) : segsF s = splitB s := by
  have := catS_split s [] []
  simp at this
  unfold segsF
  rw [this]
  have := splitB_pos s
  cases h : splitB s with
  | nil => rw [h] at this; simp at this
  | cons a t => rfl
theorem splitB_none : ∀ {s : Bytes}, (∀ j : Nat, s[j]? ≠ some 47) → splitB s = [s]
  | [], _ => rfl
  | c :: r, h => by
    unfold splitB
    rw [if_neg (fun e => h 0 (by simp [e])), splitB_none (s := r) (fun j => by have := h (j + 1); simpa using this)]
theorem splitB_some : ∀ {s : Bytes} {o : Nat}, s[o]? = some 47 → (∀ j, j < o → s[j]? ≠ some 47) → splitB s = s.take o :: splitB (s.drop (o + 1))
  | [], o, h, _ => by simp at h
  | c :: r, 0, h, _ => by simp at h; subst h; simp [splitB]
  | c :: r, o + 1, h, hno => by
    have hc : c ≠ 47 := fun e => hno 0 (by omega) (by simp [e])
    rw [splitB, if_neg hc, splitB_some (s := r) (o := o) (by simpa using h) (fun j hj => by have := hno (j + 1) (by omega); simpa using this)]
    simp
theorem count_none : ∀ {s : Bytes}, s.count 47 = 0 → ∀ j : Nat, s[j]? ≠ some 47 := by
  intro s h j hj
  have := List.count_eq_zero.1 h
  exact this (List.mem_of_getElem? hj)
theorem count_some {s : Bytes} {o : Nat} (h : s[o]? = some 47) (hno : ∀ j, j < o → s[j]? ≠ some 47) : s.count 47 = 1 + (s.drop (o + 1)).count 47 := by
  conv => lhs; rw [← List.take_append_drop o s, drop_cons h]
  rw [List.count_append, List.count_cons_self, List.count_eq_zero.2]
  · omega
  · intro hm
    obtain ⟨j, hj⟩ := List.mem_iff_getElem?.1 hm
    have hjl : j < o := by have := (List.getElem?_eq_some_iff.1 hj).1; simp at this; omega
    rw [List.getElem?_take, if_pos hjl] at hj
    exact hno j hjl hj
/-! The last place of a byte -/
def lastIx (s : Bytes) (c : UInt8) : Nat → Int
  | 0 => -1
  | k + 1 => if s[k]? = some c then k else lastIx s c k
theorem lastIx_lt (s : Bytes) (c : UInt8) : ∀ k, lastIx s c k < k ∧ -1 ≤ lastIx s c k
  | 0 => by simp [lastIx]
  | k + 1 => by
    unfold lastIx; have := lastIx_lt s c k; split
    · constructor <;> omega
    · constructor <;> omega
theorem lastIx_ge {s : Bytes} {c : UInt8} {j : Nat} (h : s[j]? = some c) : ∀ k, j < k → 0 ≤ lastIx s c k
  | 0, hk => by omega
  | k + 1, hk => by
    unfold lastIx; split
    · omega
    · rename_i hn
      rcases Nat.lt_or_ge j k with h1 | h1
      · exact lastIx_ge h k h1
      · have : j = k := by omega
        subst this; exact absurd h hn
end Go.Pm
namespace Go.Pm
def cutP (s m : Bytes) : Bytes × Bool := if (s.take m.length == m && decide (m.length ≤ s.length)) then (s.drop m.length, true) else (s, false)
end Go.Pm
namespace Go.Pm
theorem rep_get {d : List Bytes} {N : Nat} (h : d.length < N) : ((d ++ List.replicate (N - d.length) []).map D.str)[d.length]? = some (.str []) := by
  obtain ⟨k, hk⟩ : ∃ k, N - d.length = k + 1 := ⟨N - d.length - 1, by omega⟩
  rw [List.getElem?_map, List.getElem?_append_right (Nat.le_refl _), hk, Nat.sub_self, List.replicate_succ]
  rfl
theorem rep_set {d : List Bytes} {N : Nat} (x : Bytes) (h : d.length < N) : ((d ++ List.replicate (N - d.length) []).map D.str).set d.length (.str x) = ((d ++ [x]) ++ List.replicate (N - (d ++ [x]).length) []).map D.str := by
  obtain ⟨k, hk⟩ : ∃ k, N - d.length = k + 1 := ⟨N - d.length - 1, by omega⟩
  have hk2 : N - (d ++ [x]).length = k := by simp; omega
  rw [hk, hk2, List.map_append, List.set_append_right _ _ (by simp)]
  simp [List.replicate_succ]
theorem rep_take {d : List Bytes} {N : Nat} : (((d ++ List.replicate (N - d.length) []).map D.str).drop 0).take d.length = d.map D.str := by
  simp

def verF (s : Bytes) : Int × Bool := if majF s < 0 then (0, false) else (majF s, true)
theorem verF_no {s : Bytes} (h : majF s = -1) : verF s = (0, false) := by unfold verF; rw [h]; rfl
theorem verF_yes {s : Bytes} {v : Int} (h : majF s = v) (h0 : 0 ≤ v) : verF s = (v, true) := by unfold verF; rw [h, if_neg (by omega)]
theorem digs_ge : ∀ (l : Bytes) (n v : Int), 0 ≤ n → digs l n = some v → 0 ≤ v
  | [], n, v, h, hv => by simp [digs] at hv; omega
  | c :: r, n, v, h, hv => by
    unfold digs at hv
    split at hv
    · rename_i hd
      have : 48 ≤ (c.toNat : Int) := by simp [digitB] at hd; exact hd.1
      exact digs_ge r _ v (by omega) hv
    · cases hv
theorem digs_all : ∀ (l : Bytes) (n : Int), l.all digitB = true → ∃ v, digs l n = some v
  | [], n, _ => ⟨n, rfl⟩
  | c :: r, n, h => by
    simp only [List.all_cons, Bool.and_eq_true] at h
    unfold digs; rw [if_pos h.1]; exact digs_all r _ h.2
theorem digs_no : ∀ (l : Bytes) (n : Int), l.all digitB = false → digs l n = none
  | [], n, h => by simp at h
  | c :: r, n, h => by
    simp only [List.all_cons, Bool.and_eq_false_iff] at h
    unfold digs
    split
    · rename_i hd
      exact digs_no r _ (h.resolve_left (by simp [hd]))
    · rfl
theorem cutP_v {s : Bytes} (h : (cutP s [118]).2 = true) : s = 118 :: (cutP s [118]).1 := by
  unfold cutP at h ⊢
  split
  · rename_i hc
    simp at hc
    cases s with
    | nil => simp at hc
    | cons c r => simp at hc; subst hc; rfl
  · rename_i hc; rw [if_neg hc] at h; simp at h
theorem majF_v {s : Bytes} (h : (cutP s [118]).2 = true) : majF s = if (cutP s [118]).1.length < 1 ∨ (cutP s [118]).1.length > 3 then -1 else if (cutP s [118]).1.getD 0 0 = 48 ∧ (cutP s [118]).1.length > 1 then -1 else (digs (cutP s [118]).1 0).getD (-1) := by
  have hs := cutP_v h
  generalize (cutP s [118]).1 = T at hs
  subst hs
  unfold majF
  simp only [List.length_cons, List.getD_cons_zero, List.getD_cons_succ, List.drop_succ_cons, List.drop_zero]
  have e1 : (T.length + 1 < 2 ∨ T.length + 1 > 4) = (T.length < 1 ∨ T.length > 3) := by apply propext; omega
  have e2 : (T.length + 1 > 2) = (T.length > 1) := by apply propext; omega
  simp only [e1, e2]
  simp
theorem majF_nv {s : Bytes} (h : (cutP s [118]).2 = false) : majF s < 0 := by
  unfold majF
  split
  · decide
  · rename_i hl
    have h0 : s.getD 0 0 ≠ 118 := by
      intro e
      cases s with
      | nil => simp at hl
      | cons c r =>
        simp at e; subst e
        simp [cutP] at h
    rw [if_pos h0]; decide
theorem majorF_neg {p : Bytes} (h : majF ((segsF p).getD ((segsF p).length - 1) []) < 0) : majorF p = (0, 4) := by
  unfold majorF; split
  · rfl
  · split
    · rw [if_pos (.inr h)]
    · rfl
theorem majorF_long {p : Bytes} (h : p.length > 64) : majorF p = (0, 4) := by unfold majorF; rw [if_pos h]
theorem majorF_short {p : Bytes} (h : (segsF p).length < 2) : majorF p = (0, 4) := by
  unfold majorF; split
  · rfl
  · split
    · rw [if_pos (.inl h)]
    · rfl
theorem majorF_seg {p : Bytes} (h : (segsF p).all segOK = false) : majorF p = (0, 4) := by
  unfold majorF; split
  · rfl
  · rw [if_neg (by simp [h])]
theorem majorF_yes {p : Bytes} (h1 : ¬ p.length > 64) (h2 : (segsF p).all segOK = true) (h3 : ¬ (segsF p).length < 2) (h4 : ¬ majF ((segsF p).getD ((segsF p).length - 1) []) < 0) : majorF p = (majF ((segsF p).getD ((segsF p).length - 1) []), 0) := by
  unfold majorF; rw [if_neg h1, if_pos h2, if_neg (by omega)]
end Go.Pm
namespace Go.Pm
theorem count_none_neg {s : Bytes} (h : Lib.indexByte s 47 < 0) : s.count 47 = 0 := by
  refine List.count_eq_zero.2 fun hm => ?_
  obtain ⟨j, hj⟩ := List.mem_iff_getElem?.1 hm
  exact ixB_none h j hj
end Go.Pm

namespace Go.Pm
open Go.Proofs
def eqSet (a b : List Span) : Bool := decide (a = b)
theorem eqSet_len {a b : List Span} (h : ¬ a.length = b.length) : eqSet a b = false := by simp only [eqSet, decide_eq_false_iff_not]; rintro rfl; exact h rfl
theorem eqSet_yes {x y : Span} {a b : List Span} (h : x = y) : eqSet (x :: a) (y :: b) = eqSet a b := by subst h; simp [eqSet]
theorem eqSet_no {x y : Span} {a b : List Span} (h : ¬ x = y) : eqSet (x :: a) (y :: b) = false := by simp [eqSet, h]

def spB (x : SpB) : Span := ⟨x.lo, x.hi⟩
theorem clamp_lo (x : Span) : 0 ≤ (clampS x).lo := by unfold clampS; dsimp only; split <;> omega
theorem clamp_hi (x : Span) : (clampS x).hi ≤ 1000000 := by unfold clampS; dsimp only; split <;> omega
def keepB (x : Span) : Option SpB := if h : (clampS x).lo < (clampS x).hi then some ⟨(clampS x).lo, (clampS x).hi, clamp_lo x, by have := clamp_hi x; omega⟩ else none
def selB (s : List Span) : List SpB := s.filterMap keepB
theorem selB_yes {x : Span} {r : List Span} (h : (clampS x).lo < (clampS x).hi) : selB (x :: r) = ⟨(clampS x).lo, (clampS x).hi, clamp_lo x, by have := clamp_hi x; omega⟩ :: selB r := by simp [selB, keepB, h]
theorem selB_no {x : Span} {r : List Span} (h : ¬ (clampS x).lo < (clampS x).hi) : selB (x :: r) = selB r := by simp [selB, keepB, h]
def selS (s : List Span) : List Span := (selB s).map spB
theorem selS_yes {x : Span} {r : List Span} (h : (clampS x).lo < (clampS x).hi) : selS (x :: r) = clampS x :: selS r := by simp [selS, selB_yes h, spB]
theorem selS_no {x : Span} {r : List Span} (h : ¬ (clampS x).lo < (clampS x).hi) : selS (x :: r) = selS r := by simp [selS, selB_no h]

def SortedS (l : List Span) : Prop := l.Pairwise fun a b => a.lo ≤ b.lo
theorem pos_spec (l : List Span) (y : Span) : ∀ k, k ≤ l.length → (∀ i z, posS l y k ≤ i → i < k → l[i]? = some z → z.lo > y.lo) ∧ (∀ z, 0 < posS l y k → l[posS l y k - 1]? = some z → z.lo ≤ y.lo)
  | 0, _ => ⟨fun i z h1 h2 => by omega, fun z h => by simp [posS] at h⟩
  | k + 1, hk => by
    have hx : l[k]? = some l[k] := List.getElem?_eq_getElem (by omega)
    unfold posS
    simp only [hx]
    split
    · rename_i hgt
      obtain ⟨h1, h2⟩ := pos_spec l y k (by omega)
      refine ⟨fun i z hi1 hi2 hz => ?_, h2⟩
      by_cases hik : i = k
      · subst hik; rw [hx] at hz; injection hz with hz; subst hz; exact hgt
      · exact h1 i z hi1 (by omega) hz
    · rename_i hle
      refine ⟨fun i z hi1 hi2 => by omega, fun z _ hz => ?_⟩
      rw [Nat.add_sub_cancel, hx] at hz; injection hz with hz; subst hz; omega
theorem insS_sorted {l : List Span} {y : Span} (h : SortedS l) : SortedS (insS l y) := by
  obtain ⟨h1, h2⟩ := pos_spec l y l.length (Nat.le_refl _)
  have hp := pos_le l y l.length
  unfold insS
  generalize posS l y l.length = p at h1 h2 hp
  have hl : SortedS (l.take p ++ l.drop p) := by rw [List.take_append_drop]; exact h
  unfold SortedS at hl ⊢
  rw [List.pairwise_append] at hl ⊢
  have hd : ∀ b ∈ l.drop p, y.lo ≤ b.lo := by
    intro b hb
    obtain ⟨i, hi⟩ := List.mem_iff_getElem?.1 hb
    rw [List.getElem?_drop] at hi
    have := h1 (p + i) b (by omega) (List.getElem?_eq_some_iff.1 hi).1 hi
    omega
  have ht : ∀ a ∈ l.take p, a.lo ≤ y.lo := by
    intro a ha
    obtain ⟨i, hi⟩ := List.mem_iff_getElem?.1 ha
    have hip : i < p := by have := (List.getElem?_eq_some_iff.1 hi).1; simp at this; omega
    rw [List.getElem?_take, if_pos hip] at hi
    have hq : l[p - 1]? = some l[p - 1] := List.getElem?_eq_getElem (by omega)
    have hle := h2 _ (by omega) hq
    by_cases he : i = p - 1
    · subst he; rw [hq] at hi; injection hi with hi; subst hi; exact hle
    · have := List.pairwise_iff_getElem.1 h i (p - 1) (List.getElem?_eq_some_iff.1 hi).1 (by omega) (by omega)
      rw [(List.getElem?_eq_some_iff.1 hi).2] at this
      omega
  refine ⟨hl.1, List.pairwise_cons.2 ⟨hd, hl.2.1⟩, fun a ha b hb => ?_⟩
  rcases List.mem_cons.1 hb with rfl | hb
  · exact ht a ha
  · exact hl.2.2 a ha b hb
theorem insS_perm (l : List Span) (y : Span) : (insS l y).Perm (y :: l) := by
  unfold insS
  refine (List.perm_middle).trans ?_
  rw [List.take_append_drop]
theorem canon1_sorted : ∀ (s acc : List Span), SortedS acc → SortedS (canon1 acc s)
  | [], acc, h => h
  | x :: r, acc, h => by
    unfold canon1
    split
    · exact canon1_sorted r acc h
    · exact canon1_sorted r _ (insS_sorted h)
theorem canon1_perm : ∀ (s acc : List Span), (canon1 acc s).Perm (acc ++ selS s)
  | [], acc => by simp [canon1, selS, selB]
  | x :: r, acc => by
    unfold canon1
    split
    · rename_i h; rw [selS_no (by omega)]; exact canon1_perm r acc
    · rename_i h
      rw [selS_yes (by omega)]
      refine (canon1_perm r _).trans ?_
      refine ((insS_perm acc (clampS x)).append_right _).trans ?_
      exact List.perm_middle.symm
theorem mstep_comm (out : List Span) (x y : Span) (h : x.lo = y.lo) (hx : x.lo ≤ x.hi) (hy : y.lo ≤ y.hi) : mstep (mstep out x) y = mstep (mstep out y) x := by
  have key : ∀ (l : List Span) (z w : Span), (l ++ [z])[(l ++ [z]).length - 1]? = some z := fun l z w => by simp
  by_cases h0 : out = []
  · subst h0
    have e : ∀ u : Span, mstep [] u = [u] := fun u => rfl
    rw [e, e, mstep_in (out := [x]) (z := x) rfl (by omega), mstep_in (out := [y]) (z := y) rfl (by omega)]
    simp [h]; split <;> split <;> omega
  · obtain ⟨l, z, rfl⟩ : ∃ l z, out = l ++ [z] := ⟨out.dropLast, out.getLast h0, (List.dropLast_concat_getLast h0).symm⟩
    have hs : ∀ (l : List Span) (u v : Span), (l ++ [u]).set ((l ++ [u]).length - 1) v = l ++ [v]   := fun l u v => by
      rw [List.length_append, List.length_singleton, Nat.add_sub_cancel, List.set_append_right _ _ (Nat.le_refl _), Nat.sub_self]; rfl
    by_cases hz : x.lo ≤ z.hi
    · rw [mstep_in (key l z z) hz, mstep_in (key l z z) (by omega), hs, hs, mstep_in (key _ _ z) (by dsimp only; split <;> omega), mstep_in (key _ _ z) (by dsimp only; split <;> omega), hs, hs]
      congr 2
      dsimp only
      split <;> split <;> (simp only [Span.mk.injEq, true_and]; try split) <;> omega
    · rw [mstep_out (key l z z) hz, mstep_out (key l z z) (by omega), mstep_in (key _ _ z) (by omega), mstep_in (key _ _ z) (by omega), hs, hs]
      congr 2
      simp only [Span.mk.injEq, h, true_and]
      split <;> split <;> omega
theorem fold_front : ∀ (a : List Span) (out : List Span) (x : Span) (b : List Span), (∀ y ∈ a, y.lo = x.lo ∧ y.lo ≤ y.hi) → x.lo ≤ x.hi → (a ++ x :: b).foldl mstep out = (x :: (a ++ b)).foldl mstep out
  | [], out, x, b, _, _ => rfl
  | y :: a, out, x, b, h, hx => by
    have hy := h y (by simp)
    simp only [List.cons_append, List.foldl_cons]
    rw [fold_front a (mstep out y) x b (fun z hz => h z (by simp [hz])) hx]
    simp only [List.foldl_cons]
    rw [mstep_comm out y x hy.1 hy.2 hx]
theorem fold_perm : ∀ (l m : List Span) (out : List Span), l.Perm m → SortedS l → SortedS m → (∀ x ∈ l, x.lo ≤ x.hi) → l.foldl mstep out = m.foldl mstep out
  | [], m, out, hp, _, _, _ => by rw [List.nil_perm.1 hp]
  | x :: l, m, out, hp, hl, hm, hh => by
    have hx : x ∈ m := hp.mem_iff.1 (by simp)
    obtain ⟨a, b, rfl⟩ := List.append_of_mem hx
    have hp' : l.Perm (a ++ b) := (hp.trans List.perm_middle).cons_inv
    unfold SortedS at hm hl
    have hm' := List.pairwise_append.1 hm
    have hl' := List.pairwise_cons.1 hl
    have ha : ∀ y ∈ a, y.lo = x.lo ∧ y.lo ≤ y.hi := by
      intro y hy
      have h1 := hm'.2.2 y hy x (by simp)
      have hyl : y ∈ l := hp'.mem_iff.2 (by simp [hy])
      have h2 := hl'.1 y hyl
      exact ⟨by omega, hh y (by simp [hyl])⟩
    rw [fold_front a out x b ha (hh x (by simp))]
    simp only [List.foldl_cons]
    refine fold_perm l (a ++ b) (mstep out x) hp' hl'.2 ?_ (fun z hz => hh z (by simp [hz]))
    unfold SortedS
    rw [List.pairwise_append]
    exact ⟨hm'.1, (List.pairwise_cons.1 hm'.2.1).2, fun p hp q hq => hm'.2.2 p hp q (by simp [hq])⟩
theorem pdB_sortedS (l : List SpB) : SortedS ((pdB l).map spB) := by
  unfold SortedS
  rw [List.pairwise_map, List.pairwise_iff_getElem]
  intro i j hi hj hij
  exact pdB_sorted l i j _ _ hij (List.getElem?_eq_getElem hi) (List.getElem?_eq_getElem hj)
theorem selB_hi (s : List Span) : ∀ x ∈ selB s, x.lo < x.hi := by
  intro x hx
  obtain ⟨y, _, hy⟩ := List.mem_filterMap.1 hx
  unfold keepB at hy
  split at hy
  · rename_i h; injection hy with hy; subst hy; exact h
  · cases hy
/-- The program's canonical form is the reference's. -/
theorem canonP_eq (s : List Span) : ((pdB (selB s)).map spB).foldl mstep [] = canonS s := by
  unfold canonS
  refine fold_perm _ _ [] ?_ (pdB_sortedS _) (canon1_sorted s [] List.Pairwise.nil) ?_
  · refine ((pdB_perm (selB s)).map spB).trans ?_
    have := (canon1_perm s []).symm
    simpa [selS] using this
  · intro x hx
    obtain ⟨y, hy, rfl⟩ := List.mem_map.1 hx
    have := selB_hi s y ((pdB_perm _).mem_iff.1 hy)
    show y.lo ≤ y.hi
    omega

section
variable {out : List Span} {q : List SpB}
theorem arr_get {j : Nat} {x : SpB} (h : out.length ≤ j) (hn : q[j]? = some x) : (out.map Span.d ++ (q.drop out.length).map SpB.d)[j]? = some x.d := by
  rw [List.getElem?_append_right (by simpa using h), List.getElem?_map, List.getElem?_drop, List.length_map, show out.length + (j - out.length) = j from by omega, hn]; rfl
theorem arr_last {z : Span} (hz : out[out.length - 1]? = some z) : (out.map Span.d ++ (q.drop out.length).map SpB.d)[out.length - 1]? = some z.d := by
  have := (List.getElem?_eq_some_iff.1 hz).1
  rw [List.getElem?_append_left (by simpa using this), List.getElem?_map, hz]; rfl
theorem arr_in {z : Span} (hz : out[out.length - 1]? = some z) (h : Int) : (out.map Span.d ++ (q.drop out.length).map SpB.d).set (out.length - 1) ((Span.d z).upd 1 [I h]) = (out.set (out.length - 1) ⟨z.lo, h⟩).map Span.d ++ (q.drop (out.set (out.length - 1) ⟨z.lo, h⟩).length).map SpB.d := by
  have := (List.getElem?_eq_some_iff.1 hz).1
  rw [List.set_append_left _ _ (by simpa using this), List.length_set]
  congr 1
  rw [List.map_set]; rfl
theorem arr_out {u : SpB} (hk : q[out.length]? = some u) (x : SpB) : (out.map Span.d ++ (q.drop out.length).map SpB.d).set out.length (u.d.upd 0 [I x.lo, I x.hi]) = (out ++ [spB x]).map Span.d ++ (q.drop (out ++ [spB x]).length).map SpB.d := by
  rw [List.set_append_right _ _ (by simp), List.length_map, Nat.sub_self, drop_cons hk, List.map_cons, List.set_cons_zero]
  simp [SpB.d, spB, D.upd, wrD]
end
end Go.Pm

namespace Go.Pm
theorem majorF_ge (p : Bytes) : 0 ≤ (majorF p).1 := by
  unfold majorF
  split
  · exact Int.le_refl _
  · split
    · split
      · exact Int.le_refl _
      · rename_i h; simp only [not_or] at h; dsimp only; omega
    · exact Int.le_refl _
theorem majN_no {p : Bytes} (h : isPath p = false) : majN p < 0 := by unfold majN; rw [h]; simp
theorem majN_yes {p : Bytes} (h : isPath p = true) : ¬ majN p < 0 := by unfold majN; rw [h]; have := majorF_ge p; simp; omega
theorem majN_eq {p : Bytes} (h : isPath p = true) : majN p = (majorF p).1 := by unfold majN; rw [h]; rfl
def befQ : Option Req → PV
  | none => .d .nilp
  | some y => .cptr y.d.cells
theorem befQ_ren (ρ : Nat → Nat) (p : Option Req) : (befQ p).ren ρ = befQ p := by cases p <;> rfl
theorem befQ_next {l : List Req} {i : Nat} {x : Req} (h : l[i]? = some x) : PV.cptr x.d.cells = befQ (prevQ l (i + 1)) := by rw [prevQ_succ h]; rfl
theorem cmpI_zero {a b : Int} : cmpI a b = 0 ↔ a = b := by
  unfold cmpI
  split
  · constructor
    · intro h; cases h
    · intro h; omega
  · split
    · constructor
      · intro h; cases h
      · intro h; omega
    · constructor
      · intro _; omega
      · intro _; rfl
theorem cmpV_zero {a b : Ver} : cmpV a b = 0 ↔ a = b := by
  obtain ⟨a1, a2, a3⟩ := a; obtain ⟨b1, b2, b3⟩ := b
  have h1 := @cmpI_zero a1 b1; have h2 := @cmpI_zero a2 b2; have h3 := @cmpI_zero a3 b3
  simp only [cmpV, Ver.nums, cmpL, Ver.mk.injEq]
  by_cases e1 : cmpI a1 b1 = 0
  · rw [if_pos e1]
    by_cases e2 : cmpI a2 b2 = 0
    · rw [if_pos e2]
      by_cases e3 : cmpI a3 b3 = 0
      · rw [if_pos e3]; exact ⟨fun _ => ⟨h1.1 e1, h2.1 e2, h3.1 e3⟩, fun _ => rfl⟩
      · rw [if_neg e3]; exact ⟨fun h => absurd h e3, fun h => absurd (h3.2 h.2.2) e3⟩
    · rw [if_neg e2]; exact ⟨fun h => absurd h e2, fun h => absurd (h2.2 h.2.1) e2⟩
  · rw [if_neg e1]; exact ⟨fun h => absurd h e1, fun h => absurd (h1.2 h.1) e1⟩
theorem cmpS_zero {a b : Bytes} : cmpS a b = 0 ↔ a = b := by
  unfold cmpS
  split
  · rename_i h
    constructor
    · intro h; cases h
    · rintro rfl; rw [bytesLess_irrefl] at h; cases h
  · split
    · rename_i h; exact ⟨fun _ => h, fun _ => rfl⟩
    · rename_i h; exact ⟨fun h => (by cases h), fun e => absurd e h⟩
theorem cmpR_zero {a b : Rls} : cmpR a b = 0 ↔ a.sel = b.sel := by
  have h1 := @cmpS_zero a.path b.path; have h2 := @cmpV_zero a.ver b.ver
  unfold cmpR
  simp only [orI, Rls.sel, Sel.mk.injEq]
  by_cases e1 : cmpS a.path b.path = 0
  · rw [if_neg (by simpa using e1)]
    by_cases e2 : cmpV a.ver b.ver = 0
    · rw [if_neg (by simpa using e2)]; exact ⟨fun _ => ⟨h1.1 e1, h2.1 e2⟩, fun _ => rfl⟩
    · rw [if_pos e2]; exact ⟨fun h => absurd h e2, fun h => absurd (h2.2 h.2) e2⟩
  · rw [if_pos e1]; exact ⟨fun h => absurd h e1, fun h => absurd (h1.2 h.1) e1⟩
end Go.Pm
namespace Go.Pm
theorem dig3 {a b c : Bytes} {d : Bool} (h : d = [a, b, c].all isDig) : (isDig a && isDig b && isDig c) = d := by rw [h]; simp [Bool.and_assoc]
end Go.Pm

namespace Go.Pm
theorem bytesLess_trans : ∀ (a b c : Bytes), Op.bytesLess a b = true → Op.bytesLess b c = true → Op.bytesLess a c = true
  | a, [], _, h, _ => by cases a <;> simp [Op.bytesLess] at h
  | [], _ :: _, [], _, h => by cases h
  | [], _ :: _, _ :: _, _, _ => rfl
  | _ :: _, _ :: _, [], _, h => by cases h
  | a :: r, b :: q, c :: t, h, k => by
    simp only [Op.bytesLess, Bool.or_eq_true, decide_eq_true_eq, Bool.and_eq_true, beq_iff_eq] at h k ⊢
    rcases h with h | ⟨rfl, h⟩
    · rcases k with k | ⟨rfl, k⟩
      · exact .inl (UInt8.lt_trans h k)
      · exact .inl h
    · rcases k with k | ⟨rfl, k⟩
      · exact .inl k
      · exact .inr ⟨rfl, bytesLess_trans _ _ _ h k⟩
theorem cmpI_neg {a b : Int} : cmpI a b < 0 ↔ a < b := by
  unfold cmpI; split
  · simp [*]
  · split
    · simp; omega
    · simp; omega
theorem cmpV_neg {a b : Ver} : cmpV a b < 0 ↔ a.maj < b.maj ∨ (a.maj = b.maj ∧ (a.min < b.min ∨ (a.min = b.min ∧ a.pat < b.pat))) := by
  obtain ⟨a1, a2, a3⟩ := a; obtain ⟨b1, b2, b3⟩ := b
  have h1 := @cmpI_zero a1 b1; have h2 := @cmpI_zero a2 b2; have h3 := @cmpI_zero a3 b3
  have n1 := @cmpI_neg a1 b1; have n2 := @cmpI_neg a2 b2; have n3 := @cmpI_neg a3 b3
  simp only [cmpV, Ver.nums, cmpL]
  by_cases e1 : cmpI a1 b1 = 0
  · rw [if_pos e1]
    have := h1.1 e1
    by_cases e2 : cmpI a2 b2 = 0
    · rw [if_pos e2]
      have := h2.1 e2
      by_cases e3 : cmpI a3 b3 = 0
      · rw [if_pos e3]; have := h3.1 e3; simp; omega
      · rw [if_neg e3, n3]; omega
    · rw [if_neg e2, n2]
      have : ¬ a2 = b2 := fun h => e2 (h2.2 h)
      omega
  · rw [if_neg e1, n1]
    have : ¬ a1 = b1 := fun h => e1 (h1.2 h)
    omega
theorem cmpS_neg {a b : Bytes} : cmpS a b < 0 ↔ Op.bytesLess a b = true := by
  unfold cmpS; split
  · simp [*]
  · split
    · rename_i h; subst h; simp [bytesLess_irrefl]
    · simp [*]
theorem cmpR_neg {a b : Rls} : cmpR a b < 0 ↔ Op.bytesLess a.path b.path = true ∨ (a.path = b.path ∧ cmpV a.ver b.ver < 0) := by
  have h1 := @cmpS_zero a.path b.path; have n1 := @cmpS_neg a.path b.path
  unfold cmpR
  simp only [orI]
  by_cases e1 : cmpS a.path b.path = 0
  · rw [if_neg (by simpa using e1)]
    have hp := h1.1 e1
    rw [hp, bytesLess_irrefl]
    by_cases e2 : cmpV a.ver b.ver = 0
    · rw [if_neg (by simpa using e2)]; simp [e2]
    · rw [if_pos e2]; simp
  · rw [if_pos e1, n1]
    have : ¬ a.path = b.path := fun h => e1 (h1.2 h)
    simp [this]
theorem cmpR_trans {a b c : Rls} (h : cmpR a b < 0) (k : cmpR b c < 0) : cmpR a c < 0 := by
  rw [cmpR_neg] at *
  rcases h with h | ⟨h1, h2⟩
  · rcases k with k | ⟨k1, k2⟩
    · exact .inl (bytesLess_trans _ _ _ h k)
    · exact .inl (by rw [← k1]; exact h)
  · rcases k with k | ⟨k1, k2⟩
    · exact .inl (by rw [h1]; exact k)
    · refine .inr ⟨h1.trans k1, ?_⟩
      rw [cmpV_neg] at *
      omega
theorem relsE_sorted : ∀ (l : List Rls) (p : Option Rls), relsE p l = 0 → (∀ b, p = some b → ∀ r ∈ l, cmpR b r < 0) ∧ l.Pairwise fun a b => cmpR a b < 0
  | [], p, _ => ⟨fun b _ r hr => by simp at hr, .nil⟩
  | x :: t, p, h => by
    unfold relsE at h
    split at h
    · rename_i h0; exact absurd h h0
    · split at h
      · rename_i h1; exact absurd h h1
      · rename_i h1
        obtain ⟨k1, k2⟩ := relsE_sorted t (some x) h
        refine ⟨fun b hb r hr => ?_, List.pairwise_cons.2 ⟨k1 x rfl, k2⟩⟩
        subst hb
        have hbx : cmpR b x < 0 := by
          simp only [stepE] at h1
          split at h1
          · simp at h1
          · split at h1
            · simp at h1
            · omega
        rcases List.mem_cons.1 hr with rfl | hr
        · exact hbx
        · exact cmpR_trans hbx (k1 x rfl r hr)
theorem checkI_sorted {l : List Rls} (h : checkI l = 0) : l.Pairwise fun a b => cmpR a b < 0 := by
  unfold checkI at h; split at h
  · simp at h
  · exact (relsE_sorted l none h).2
theorem sorted_take {l : List Rls} (h : l.Pairwise fun a b => cmpR a b < 0) {i : Nat} {x : Rls} (hn : l[i]? = some x) : ∀ r ∈ l.take i, cmpR r x < 0 := by
  intro r hr
  obtain ⟨j, hj⟩ := List.mem_iff_getElem?.1 hr
  have hji : j < i := by have := (List.getElem?_eq_some_iff.1 hj).1; simp at this; omega
  rw [List.getElem?_take, if_pos hji] at hj
  have := List.pairwise_iff_getElem.1 h j i (List.getElem?_eq_some_iff.1 hj).1 (List.getElem?_eq_some_iff.1 hn).1 hji
  rw [(List.getElem?_eq_some_iff.1 hj).2, (List.getElem?_eq_some_iff.1 hn).2] at this
  exact this

/-! ### Groups by path -/
abbrev Grp := List (Bytes × List Rls)
def lookG : Grp → Bytes → List Rls
  | [], _ => []
  | e :: r, q => if e.1 = q then e.2 else lookG r q
theorem lookG_no : ∀ {a : Grp} {q : Bytes} (b : Grp), (∀ e ∈ a, e.1 ≠ q) → lookG (a ++ b) q = lookG b q
  | [], _, _, _ => rfl
  | e :: r, q, b, h => by
    simp only [List.cons_append, lookG]
    rw [if_neg (h e (by simp)), lookG_no b fun e he => h e (by simp [he])]
theorem lookG_snoc : ∀ (a : Grp) (q p : Bytes) (g : List Rls), p ≠ q → lookG (a ++ [(p, g)]) q = lookG a q
  | [], q, p, g, h => by simp [lookG, h]
  | e :: r, q, p, g, h => by
    simp only [List.cons_append, lookG]
    rw [lookG_snoc r q p g h]
def gstep (s : Grp × Option (Bytes × List Rls)) (x : Rls) : Grp × Option (Bytes × List Rls) := match s.2 with
  | none => (s.1, some (x.path, [x]))
  | some e => if e.1 = x.path then (s.1, some (e.1, e.2 ++ [x])) else (s.1 ++ [e], some (x.path, [x]))
def gfold (l : List Rls) : Grp × Option (Bytes × List Rls) := l.foldl gstep ([], none)
def grpOf (l : List Rls) : Grp := (gfold l).1 ++ (gfold l).2.toList
structure GOK (l : List Rls) (G : Grp) (cur : Option (Bytes × List Rls)) : Prop where
  look : ∀ q, lookG (G ++ cur.toList) q = l.filter fun r => r.path == q
  less : ∀ e ∈ G, ∀ c, cur = some c → Op.bytesLess e.1 c.1 = true
  has : ∀ c, cur = some c → ∃ r ∈ l, r.path = c.1
  non : cur = none → l = [] ∧ G = []
theorem bytesLess_ne {a b : Bytes} (h : Op.bytesLess a b = true) : a ≠ b := by rintro rfl; rw [bytesLess_irrefl] at h; cases h
theorem gok_nil : GOK [] [] none := ⟨fun q => rfl, fun e he => (by simp at he), fun c h => (by cases h), fun _ => ⟨rfl, rfl⟩⟩
theorem gok_none {l : List Rls} {G : Grp} (h : GOK l G none) (x : Rls) : GOK (l ++ [x]) G (some (x.path, [x])) := by
  obtain ⟨rfl, rfl⟩ := h.non rfl
  refine ⟨fun q => ?_, fun e he => (by simp at he), fun c hc => ⟨x, (by simp), (by injection hc with hc; subst hc; rfl)⟩, fun h => (by cases h)⟩
  by_cases hq : x.path = q <;> simp [lookG, hq]
theorem gok_same {l : List Rls} {G : Grp} {p : Bytes} {g : List Rls} (h : GOK l G (some (p, g))) {x : Rls} (hp : p = x.path) : GOK (l ++ [x]) G (some (p, g ++ [x])) := by
  have hne : ∀ e ∈ G, e.1 ≠ p := fun e he => bytesLess_ne (h.less e he _ rfl)
  refine ⟨fun q => ?_, fun e he c hc => (by injection hc with hc; subst hc; exact h.less e he (p, g) rfl), fun c hc => ⟨x, (by simp), (by injection hc with hc; subst hc; exact hp.symm)⟩, fun h => (by cases h)⟩
  have hl := h.look q
  simp only [Option.toList] at hl ⊢
  by_cases hq : p = q
  · subst hq
    rw [lookG_no _ hne] at hl ⊢
    simp only [lookG, if_pos] at hl ⊢
    rw [List.filter_append, ← hl]
    simp [hp]
  · rw [lookG_snoc _ _ _ _ hq] at hl ⊢
    rw [hl, List.filter_append]
    have : ¬ x.path = q := fun e => hq (hp.trans e)
    simp [this]
theorem gok_new {l : List Rls} {G : Grp} {p : Bytes} {g : List Rls} (h : GOK l G (some (p, g))) {x : Rls} (hl : Op.bytesLess p x.path = true) : GOK (l ++ [x]) (G ++ [(p, g)]) (some (x.path, [x])) := by
  have hless : ∀ e ∈ G ++ [(p, g)], Op.bytesLess e.1 x.path = true := by
    intro e he
    rcases List.mem_append.1 he with he | he
    · exact bytesLess_trans _ _ _ (h.less e he _ rfl) hl
    · simp at he; subst he; exact hl
  refine ⟨fun q => ?_, fun e he c hc => (by injection hc with hc; subst hc; exact hless e he), fun c hc => ⟨x, (by simp), (by injection hc with hc; subst hc; rfl)⟩, fun h => (by cases h)⟩
  have hk := h.look q
  simp only [Option.toList] at hk ⊢
  by_cases hq : x.path = q
  · subst hq
    have hno := fun e he => bytesLess_ne (hless e he)
    rw [lookG_no _ hno]
    have := lookG_no (a := G ++ [(p, g)]) (q := x.path) [] hno
    rw [List.append_nil, hk] at this
    rw [List.filter_append, this]; simp [lookG]
  · rw [lookG_snoc _ _ _ _ hq, hk, List.filter_append]; simp [hq]
theorem gok_paths {l : List Rls} {G : Grp} {p : Bytes} {g : List Rls} (h : GOK l G (some (p, g))) {x : Rls} (hs : ∀ r ∈ l, cmpR r x < 0) : p = x.path ∨ Op.bytesLess p x.path = true := by
  obtain ⟨r, hr, he⟩ := h.has _ rfl
  have := hs r hr
  rw [cmpR_neg] at this
  have he : r.path = p := he
  rcases this with h1 | ⟨h1, _⟩
  · exact .inr (by rw [← he]; exact h1)
  · exact .inl (by rw [← he]; exact h1)

/-! ### The maps -/
def grpD (G : Grp) : List (D × D) := G.map fun e => (.str e.1, relsD e.2)
def relM (l : List Rls) : List (D × D) := l.map fun r => (r.sel.d, r.d)
theorem eqK_str (a b : Bytes) : eqK (.str a) (.str b) = decide (a = b) := by
  simp only [eqK, D.cells, eqDs, eqD]; rw [Bool.eq_iff_iff]; simp
theorem eqK_sel (a b : Sel) : eqK a.d b.d = decide (a = b) := eqDs_sel a b
theorem grpD_ments (G : Grp) (es : List (D × PV)) : ments (grpD G) es = G.map (fun e => (D.str e.1, PV.d (relsD e.2))) ++ es := by simp [ments, grpD]
theorem getX_grp : ∀ {G : Grp} {q : Bytes} (z : PV) (es : List (D × PV)), (∀ e ∈ G, e.1 ≠ q) → getX (.str q) z (G.map (fun e => (D.str e.1, PV.d (relsD e.2))) ++ es) = getX (.str q) z es
  | [], _, _, _, _ => rfl
  | e :: r, q, z, es, h => by
    simp only [List.map_cons, List.cons_append, getX, eqK_str]
    rw [if_neg (by simp; exact fun h2 => h e (by simp) h2.symm), getX_grp z es fun e he => h e (by simp [he])]
theorem putX_grp : ∀ {G : Grp} {q : Bytes} (P : PV) (es : List (D × PV)), (∀ e ∈ G, e.1 ≠ q) → putX (.str q) P (G.map (fun e => (D.str e.1, PV.d (relsD e.2))) ++ es) = G.map (fun e => (D.str e.1, PV.d (relsD e.2))) ++ putX (.str q) P es
  | [], _, _, _, _ => rfl
  | e :: r, q, P, es, h => by
    simp only [List.map_cons, List.cons_append, putX, eqK_str]
    rw [if_neg (by simp; exact fun h2 => h e (by simp) h2.symm), putX_grp P es fun e he => h e (by simp [he])]
theorem getX_look : ∀ (G : Grp) (q : Bytes), toD (getX (.str q) .nils (ments (grpD G) [])) = some (relsD (lookG G q))
  | [], _ => rfl
  | e :: r, q => by
    have ih := getX_look r q
    rw [grpD_ments] at ih ⊢
    simp only [List.map_cons, List.cons_append, getX, eqK_str, lookG]
    by_cases h : e.1 = q
    · rw [if_pos (by simp [h]), if_pos h]; rfl
    · rw [if_neg (by simp; exact fun h2 => h h2.symm), if_neg h]; exact ih
theorem ks_grp (G : Grp) (es : List (D × PV)) (h : ∀ e ∈ es, kOK .string [.str] e.1 = true) : ∀ e ∈ ments (grpD G) es, kOK .string [.str] e.1 = true := by
  intro e he
  rw [grpD_ments] at he
  rcases List.mem_append.1 he with he | he
  · obtain ⟨x, _, rfl⟩ := List.mem_map.1 he; rfl
  · exact h e he
theorem ks_rel (l : List Rls) : ∀ e ∈ ments (relM l) [], kOK .struct [.str, .int .i64, .int .i64, .int .i64] e.1 = true := by
  intro e he
  simp only [ments, relM, List.append_nil] at he
  obtain ⟨x, hx, rfl⟩ := List.mem_map.1 he
  obtain ⟨y, _, rfl⟩ := List.mem_map.1 hx
  rfl
theorem putX_rel : ∀ {l : List Rls} {x : Rls}, (∀ r ∈ l, r.sel ≠ x.sel) → putX x.sel.d (.d x.d) (ments (relM l) []) = ments (relM (l ++ [x])) []
  | [], x, _ => rfl
  | y :: r, x, h => by
    have ih := putX_rel (l := r) (x := x) fun z hz => h z (by simp [hz])
    simp only [ments, relM, List.append_nil, List.map_cons, List.cons_append] at ih ⊢
    simp only [putX, eqK_sel]
    rw [if_neg (by simp only [decide_eq_true_eq]; exact fun h2 => h y (by simp) h2.symm), ih]
def zeroV : Ver := ⟨0, 0, 0⟩
def zeroR : Rls := ⟨[], zeroV, [], [], [], [], false⟩
def findR (l : List Rls) (k : Sel) : Option Rls := l.find? fun r => r.sel == k
theorem getX_rel (z : Rls) : ∀ (l : List Rls) (k : Sel), toD (getX k.d (.d z.d) (ments (relM l) [])) = some ((findR l k).getD z).d
  | [], _ => rfl
  | y :: r, k => by
    have ih := getX_rel z r k
    simp only [ments, relM, List.append_nil, List.map_cons] at ih ⊢
    simp only [getX, eqK_sel, findR, List.find?_cons]
    by_cases h : y.sel = k
    · rw [if_pos (by simp [h]), show (y.sel == k) = true from by simp [h]]; rfl
    · rw [if_neg (by simp only [decide_eq_true_eq]; exact fun h2 => h h2.symm), show (y.sel == k) = false from by simp [h]]
      exact ih
theorem hasX_rel : ∀ (l : List Rls) (k : Sel), hasX k.d (ments (relM l) []) = (findR l k).isSome
  | [], _ => rfl
  | y :: r, k => by
    have ih := hasX_rel r k
    simp only [ments, relM, List.append_nil, List.map_cons] at ih ⊢
    simp only [hasX, eqK_sel, findR, List.find?_cons]
    by_cases h : y.sel = k
    · rw [show (y.sel == k) = true from by simp [h]]; simp [h]
    · rw [show (y.sel == k) = false from by simp [h], ih, show decide (k = y.sel) = false from by simp only [decide_eq_false_iff_not]; exact fun h2 => h h2.symm]; rfl
end Go.Pm
namespace Go.Pm
theorem take_succ {α : Type} {l : List α} {i : Nat} {x : α} (h : l[i]? = some x) : l.take (i + 1) = l.take i ++ [x] := by rw [List.take_add_one, h]; rfl
end Go.Pm

namespace Go.Pm
def lastE (X : Nat) : Option (Bytes × List Rls) → List (D × PV)
  | none => []
  | some e => [(.str e.1, .tl (e.2.map Rls.d) (some X))]
theorem ks_last (X : Nat) (cur : Option (Bytes × List Rls)) : ∀ e ∈ lastE X cur, kOK .string [.str] e.1 = true := by
  intro e he
  cases cur with
  | none => cases he
  | some c => simp [lastE] at he; subst he; rfl
def okR (x : Idx) : List Rls := if checkI x.rels = 0 then x.rels else []
theorem gfold_snoc (l : List Rls) (x : Rls) : gfold (l ++ [x]) = gstep (gfold l) x := by simp [gfold]
section
variable {l : List Rls} {G : Grp} {p : Bytes} {g : List Rls} {z : Rls}
theorem getX_same (h : GOK l G (some (p, g))) (hp : p = z.path) (P Z : PV) : getX (.str z.path) Z (ments (grpD G) [(.str p, P)]) = P := by
  rw [grpD_ments, getX_grp _ _ fun e he => by rw [← hp]; exact bytesLess_ne (h.less e he _ rfl)]
  simp [getX, eqK_str, hp]
theorem putX_same (h : GOK l G (some (p, g))) (hp : p = z.path) (P Q : PV) : putX (.str z.path) P (ments (grpD G) [(.str p, Q)]) = ments (grpD G) [(.str p, P)] := by
  rw [grpD_ments, putX_grp _ _ fun e he => by rw [← hp]; exact bytesLess_ne (h.less e he _ rfl), grpD_ments]
  simp [putX, eqK_str, hp]
theorem keys_new (h : GOK l G (some (p, g))) (hl : Op.bytesLess p z.path = true) : ∀ e ∈ G, e.1 ≠ z.path := fun e he => bytesLess_ne (bytesLess_trans _ _ _ (h.less e he _ rfl) hl)
theorem getX_new (h : GOK l G (some (p, g))) (hl : Op.bytesLess p z.path = true) (P Z : PV) : getX (.str z.path) Z (ments (grpD G) [(.str p, P)]) = Z := by
  rw [grpD_ments, getX_grp _ _ (keys_new h hl)]
  have := bytesLess_ne hl
  have this' : ¬ z.path = p := fun e => this e.symm
  simp [getX, eqK_str, this']
theorem putX_new (h : GOK l G (some (p, g))) (hl : Op.bytesLess p z.path = true) (P Q : PV) : putX (.str z.path) P (ments (grpD G) [(.str p, Q)]) = ments (grpD G) [(.str p, Q), (.str z.path, P)] := by
  rw [grpD_ments, putX_grp _ _ (keys_new h hl), grpD_ments]
  have := bytesLess_ne hl
  have this' : ¬ z.path = p := fun e => this e.symm
  simp [putX, eqK_str, this']
theorem sel_ne (hs : ∀ r ∈ l, cmpR r z < 0) : ∀ r ∈ l, r.sel ≠ z.sel := fun r hr e => by
  have := hs r hr
  rw [cmpR_zero.2 e] at this
  exact absurd this (by decide)
theorem grp_le {ρ : Nat → Nat} (G : Grp) : LeM ρ (G.map fun e => (D.str e.1, PV.d (relsD e.2))) (G.map fun e => (D.str e.1, PV.d (relsD e.2))) := leM_same _ fun e he => by
  obtain ⟨x, _, rfl⟩ := List.mem_map.1 he
  exact .same (.d _)
theorem ko_none {ρ : Nat → Nat} {z : Rls} {x y : Nat} (hx : x = ρ y) : LeO ρ (.map (grpD []) [(.str z.path, .tl [z.d] (some x))]) (.map (grpD []) (lastE y (some (z.path, [z])))) :=
  .map (.cons (k_tl hx rfl) .nil)
theorem ko_same {ρ : Nat → Nat} {x y : Nat} (hx : x = ρ y) : LeO ρ (.map (grpD G) [(.str p, .tl ((g ++ [z]).map Rls.d) (some x))]) (.map (grpD G) (lastE y (some (p, g ++ [z])))) :=
  .map (by rw [grpD_ments, grpD_ments]; exact leM_app (grp_le G) (.cons (k_tl hx rfl) .nil))
theorem ko_new {ρ : Nat → Nat} {x y w : Nat} (hx : x = ρ y) : LeO ρ (.map (grpD G) [(.str p, .tl (g.map Rls.d) (some w)), (.str z.path, .tl [z.d] (some x))]) (.map (grpD (G ++ [(p, g)])) (lastE y (some (z.path, [z])))) :=
  .map (by
    rw [grpD_ments, grpD_ments, List.map_append, List.append_assoc]
    exact leM_app (grp_le G) (.cons (.data rfl) (.cons (k_tl hx rfl) .nil)))
theorem ko_end0 {ρ : Nat → Nat} : LeO ρ (.map (grpD []) []) (.map (grpD (grpOf [])) []) := .map .nil
theorem ko_end {ρ : Nat → Nat} {y : Nat} (h : gfold l = (G, some (p, g))) : LeO ρ (.map (grpD G) [(.str p, .tl (g.map Rls.d) (some y))]) (.map (grpD (grpOf l)) []) :=
  .map (by
    rw [grpD_ments, grpD_ments, grpOf, h, List.append_nil]
    dsimp only [Option.toList]
    rw [List.map_append]
    exact leM_app (grp_le G) (.cons (.data rfl) .nil))
theorem ko_rel {ρ : Nat → Nat} {a b : List Rls} (h : a = b) : LeO ρ (.map (relM a) []) (.map (relM b) []) := by
  subst h
  exact .map (leM_same _ fun e he => by
    simp only [ments, relM, List.append_nil] at he
    obtain ⟨x, hx, rfl⟩ := List.mem_map.1 he
    exact .same (.d _))
theorem look_grp {l : List Rls} (h : l.Pairwise fun a b => cmpR a b < 0) (q : Bytes) : lookG (grpOf l) q = l.filter fun r => r.path == q := by
  have key : ∀ i, i ≤ l.length → GOK (l.take i) (gfold (l.take i)).1 (gfold (l.take i)).2 := by
    intro i
    induction i with
    | zero => intro _; simp only [List.take_zero]; exact gok_nil
    | succ i ih =>
      intro hi
      have hn := List.getElem?_eq_getElem (l := l) (i := i) (by omega)
      have hs := sorted_take h hn
      have hg := ih (by omega)
      rw [take_succ hn, gfold_snoc]
      generalize gfold (l.take i) = s at hg ⊢
      obtain ⟨G, cur⟩ := s
      cases cur with
      | none => exact gok_none hg _
      | some e =>
        obtain ⟨p, g⟩ := e
        by_cases hp : p = l[i].path
        · have : gstep (G, some (p, g)) l[i] = (G, some (p, g ++ [l[i]])) := by simp only [gstep]; rw [if_pos hp]
          rw [this]; exact gok_same hg hp
        · have : gstep (G, some (p, g)) l[i] = (G ++ [(p, g)], some (l[i].path, [l[i]])) := by simp only [gstep]; rw [if_neg hp]
          rw [this]
          exact gok_new hg ((gok_paths hg hs).resolve_left hp)
  have := (key l.length (Nat.le_refl _)).look q
  rw [List.take_length] at this
  exact this
end
end Go.Pm
namespace Go.Pm
theorem checkI_len {l : List Rls} (h : checkI l = 0) : l.length ≤ 256 := by
  unfold checkI at h; split at h
  · simp at h
  · omega
theorem gok_len {l : List Rls} {G : Grp} {c : Bytes × List Rls} (h : GOK l G (some c)) : c.2.length ≤ l.length := by
  have hno : ∀ e ∈ G, e.1 ≠ c.1 := fun e he => bytesLess_ne (h.less e he _ rfl)
  have := h.look c.1
  simp only [Option.toList] at this
  rw [lookG_no _ hno] at this
  simp only [lookG, if_pos] at this
  rw [this]; exact List.length_filter_le _ _
end Go.Pm

namespace Go.Pm
theorem okR_sorted (x : Idx) : (okR x).Pairwise fun a b => cmpR a b < 0 := by
  unfold okR; split
  · rename_i h; exact checkI_sorted h
  · exact .nil
def pathR (x : Idx) (p : Bytes) : List Rls := (okR x).filter fun r => r.path == p
theorem getX_path (x : Idx) (p : Bytes) : toD (getX (.str p) .nils (ments (grpD (grpOf (okR x))) [])) = some (relsD (pathR x p)) := by
  rw [getX_look, look_grp (okR_sorted x)]; rfl
theorem ks_grp0 (G : Grp) : ∀ e ∈ ments (grpD G) [], kOK .string [.str] e.1 = true := ks_grp G [] (by simp)
theorem okR_mem {x : Idx} {r : Rls} (h : r ∈ okR x) : r ∈ x.rels ∧ relE r = 0 := by
  unfold okR at h; split at h
  · rename_i h0; exact ⟨h, checkI_ok h0 r h⟩
  · simp at h
theorem okR_len (x : Idx) : (okR x).length ≤ 256 := by
  unfold okR; split
  · rename_i h; exact checkI_len h
  · simp
theorem pathR_mem {x : Idx} {p : Bytes} {r : Rls} (h : r ∈ pathR x p) : r ∈ okR x ∧ r.path = p := by simpa [pathR] using h
theorem pathR_len (x : Idx) (p : Bytes) : (pathR x p).length ≤ 256 := Nat.le_trans (List.length_filter_le _ _) (okR_len x)
theorem relE_reqs {r : Rls} (h : relE r = 0) : r.reqs.length ≤ 16 := by
  unfold relE at h
  split at h
  · simp at h
  · split at h
    · simp at h
    · split at h
      · rename_i h1; exact absurd h h1
      · rename_i h1
        simp only [checkReqs, ne_eq, Decidable.not_not] at h1
        split at h1
        · simp at h1
        · omega
def getR (x : Idx) (k : Sel) : Rls := (findR (okR x) k).getD zeroR
theorem zeroR_sm : zeroR.Sm := ⟨by decide, by decide, by decide, by decide, by decide, fun q hq => by simp [zeroR] at hq⟩
theorem getR_sm {x : Idx} (h : ∀ r ∈ x.rels, r.Sm) (k : Sel) : (getR x k).Sm ∧ (getR x k).reqs.length ≤ 16 := by
  unfold getR
  cases hf : findR (okR x) k with
  | none => exact ⟨zeroR_sm, by decide⟩
  | some r =>
    have hm := okR_mem (List.mem_of_find?_eq_some hf)
    exact ⟨h r hm.1, relE_reqs hm.2⟩
theorem getX_key (x : Idx) (k : Sel) : toD (getX k.d (.d zeroR.d) (ments (relM (okR x)) [])) = some (getR x k).d := getX_rel zeroR (okR x) k
def avS (l : List Rls) : List Span := (l.filter fun r => !r.yank).map fun r => ⟨(placeOf r.ver).1, (placeOf r.ver).1 + 1⟩
theorem avS_yes {l : List Rls} {x : Rls} (h : x.yank = false) : avS (l ++ [x]) = avS l ++ [⟨(placeOf x.ver).1, (placeOf x.ver).1 + 1⟩] := by simp [avS, h]
theorem avS_no {l : List Rls} {x : Rls} (h : x.yank = true) : avS (l ++ [x]) = avS l := by simp [avS, h]
theorem avS_len (l : List Rls) : (avS l).length ≤ l.length := by simp [avS]; exact List.length_filter_le _ _
end Go.Pm
namespace Go.Pm
theorem place_bounds {v : Ver} (h : v.ok = true) : 0 ≤ (placeOf v).1 ∧ (placeOf v).1 < 1000000 := by
  have hb := ok_bounds h
  unfold placeOf
  rw [if_pos h]
  dsimp only
  omega
end Go.Pm

namespace Go.Pm
def getK (R : List Rls) (k : Sel) : Rls := (findR R k).getD zeroR
def hasK (R : List Rls) (k : Sel) : Bool := (findR R k).isSome
def selF (R : List Rls) (ss : List Sel) : List Rls × Int := if incr ss then (if ss.all (hasK R) then (ss.map (getK R), 0) else ([], 6)) else ([], 1)
theorem selF_1 {R : List Rls} {ss : List Sel} (h : incr ss = false) : selF R ss = ([], 1) := by unfold selF; rw [h]; rfl
theorem selF_6 {R : List Rls} {ss : List Sel} (h : incr ss = true) (h2 : ss.all (hasK R) = false) : selF R ss = ([], 6) := by unfold selF; rw [h, h2]; rfl
theorem selF_0 {R : List Rls} {ss : List Sel} (h : incr ss = true) (h2 : ss.all (hasK R) = true) : selF R ss = (ss.map (getK R), 0) := by unfold selF; rw [h, h2]; rfl
theorem getX_k (R : List Rls) (k : Sel) : toD (getX k.d (.d zeroR.d) (ments (relM R) [])) = some (getK R k).d := getX_rel zeroR R k
end Go.Pm

namespace Go.Pm
def findP (L : List Rls) (p : Bytes) : Option Rls := L.find? fun r => r.path == p
def getP (L : List Rls) (p : Bytes) : Rls := (findP L p).getD zeroR
def chM (L : List Rls) : List (D × D) := L.map fun r => (.str r.path, r.d)
theorem getX_ch : ∀ (L : List Rls) (p : Bytes), toD (getX (.str p) (.d zeroR.d) (ments (chM L) [])) = some (getP L p).d
  | [], _ => rfl
  | y :: r, p => by
    have ih := getX_ch r p
    simp only [ments, chM, List.append_nil, List.map_cons] at ih ⊢
    simp only [getX, eqK_str, getP, findP, List.find?_cons]
    by_cases h : y.path = p
    · rw [if_pos (by simp [h]), show (y.path == p) = true from by simp [h]]; rfl
    · rw [if_neg (by simp only [decide_eq_true_eq]; exact fun h2 => h h2.symm), show (y.path == p) = false from by simp [h]]
      exact ih
theorem hasX_ch : ∀ (L : List Rls) (p : Bytes), hasX (.str p) (ments (chM L) []) = (findP L p).isSome
  | [], _ => rfl
  | y :: r, p => by
    have ih := hasX_ch r p
    simp only [ments, chM, List.append_nil, List.map_cons] at ih ⊢
    simp only [hasX, eqK_str, findP, List.find?_cons]
    by_cases h : y.path = p
    · rw [show (y.path == p) = true from by simp [h]]; simp [h]
    · rw [show (y.path == p) = false from by simp [h], ih, show decide (p = y.path) = false from by simp only [decide_eq_false_iff_not]; exact fun h2 => h h2.symm]; rfl
theorem ks_ch (L : List Rls) : ∀ e ∈ ments (chM L) [], kOK .string [.str] e.1 = true := by
  intro e he
  simp only [ments, chM, List.append_nil] at he
  obtain ⟨x, hx, rfl⟩ := List.mem_map.1 he
  obtain ⟨y, _, rfl⟩ := List.mem_map.1 hx
  rfl
/-- A requirement that the chosen ones do not answer. -/
def unsat (L : List Rls) (q : Req) : Bool := !((findP L q.path).isSome && setHas q.set (placeOf (getP L q.path).ver).1)
def ixG {α : Type} (f : α → Bool) : List α → Nat → Int
  | [], _ => -1
  | x :: r, i => if f x then (i : Int) else ixG f r (i + 1)
theorem ixG_no {α : Type} {f : α → Bool} {x : α} {r : List α} {i : Nat} (h : f x = false) : ixG f (x :: r) i = ixG f r (i + 1) := by simp [ixG, h]
theorem ixG_yes {α : Type} {f : α → Bool} {x : α} {r : List α} {i : Nat} (h : f x = true) : ixG f (x :: r) i = i := by simp [ixG, h]
theorem ixG_any {α : Type} (f : α → Bool) : ∀ (l : List α) (i : Nat), decide (ixG f l i ≥ 0) = l.any f
  | [], _ => rfl
  | x :: r, i => by
    cases h : f x with
    | true => rw [ixG_yes h, List.any_cons, h]; simp
    | false => rw [ixG_no h, ixG_any f r, List.any_cons, h]; simp
end Go.Pm

namespace Go.Pm
theorem fl40v2 : fldT PR 40 2 = some (4, 26) := by kernel_rfl
def seenM (seen : List Bytes) : List (D × D) := seen.map fun p => (.str p, .bool true)
theorem getX_seen : ∀ (seen : List Bytes) (p : Bytes), toD (getX (.str p) (.d (.bool false)) (ments (seenM seen) [])) = some (.bool (decide (p ∈ seen)))
  | [], _ => rfl
  | y :: r, p => by
    have ih := getX_seen r p
    simp only [ments, seenM, List.append_nil, List.map_cons] at ih ⊢
    simp only [getX, eqK_str]
    by_cases h : p = y
    · rw [if_pos (by simp [h])]; simp [h, toD]
    · rw [if_neg (by simpa using h), ih]; simp [h]
theorem putX_seen : ∀ {seen : List Bytes} {p : Bytes}, p ∉ seen → putX (.str p) (.d (.bool true)) (ments (seenM seen) []) = ments (seenM (seen ++ [p])) []
  | [], _, _ => rfl
  | y :: r, p, h => by
    simp only [List.mem_cons, not_or] at h
    have ih := putX_seen h.2
    simp only [ments, seenM, List.append_nil, List.map_cons, List.cons_append] at ih ⊢
    simp only [putX, eqK_str]
    rw [if_neg (by simpa using h.1), ih]
theorem ks_seen (l : List Bytes) : ∀ e ∈ ments (seenM l) [], kOK .string [.str] e.1 = true := by
  intro e he
  simp only [ments, seenM, List.append_nil] at he
  obtain ⟨x, hx, rfl⟩ := List.mem_map.1 he
  obtain ⟨y, _, rfl⟩ := List.mem_map.1 hx
  rfl
theorem putX_ch : ∀ {l : List Rls} {x : Rls}, (∀ r ∈ l, r.path ≠ x.path) → putX (.str x.path) (.d x.d) (ments (chM l) []) = ments (chM (l ++ [x])) []
  | [], x, _ => rfl
  | y :: r, x, h => by
    have ih := putX_ch (l := r) (x := x) fun z hz => h z (by simp [hz])
    simp only [ments, chM, List.append_nil, List.map_cons, List.cons_append] at ih ⊢
    simp only [putX, eqK_str]
    rw [if_neg (by simp only [decide_eq_true_eq]; exact fun h2 => h y (by simp) h2.symm), ih]
/-- What is reached: by how many steps, what was seen, what waits. -/
def wl (L : List Rls) : Nat → List Bytes → List Req → List Bytes
  | 0, seen, _ => seen
  | n + 1, seen, [] => seen
  | n + 1, seen, q :: r => if q.path ∈ seen then wl L n seen r else wl L n (seen ++ [q.path]) (r ++ (getP L q.path).reqs)
def restN (L : List Rls) (seen : List Bytes) : Nat := match L with
  | [] => 0
  | r :: t => (if r.path ∈ seen then 0 else r.reqs.length) + restN t seen
def mz (L : List Rls) (seen : List Bytes) (queue : List Req) : Nat := queue.length + restN L seen
theorem restN_mono (p : Bytes) (seen : List Bytes) : ∀ L, restN L (seen ++ [p]) ≤ restN L seen
  | [] => Nat.le_refl _
  | r :: t => by
    have := restN_mono p seen t
    unfold restN
    by_cases h : r.path ∈ seen
    · rw [if_pos h, if_pos (by simp [h])]; omega
    · rw [if_neg h]; split <;> omega
theorem restN_step {p : Bytes} {seen : List Bytes} (hp : p ∉ seen) : ∀ L, restN L (seen ++ [p]) + (getP L p).reqs.length ≤ restN L seen
  | [] => by simp [getP, findP, zeroR, restN]
  | r :: t => by
    unfold restN
    by_cases h : r.path = p
    · have e : getP (r :: t) p = r := by simp [getP, findP, h]
      rw [e, if_pos (by simp [h]), if_neg (by rw [h]; exact hp)]
      have := restN_mono p seen t
      omega
    · have e : getP (r :: t) p = getP t p := by
        have : (r.path == p) = false := by simp [h]
        simp only [getP, findP, List.find?_cons, this]
      rw [e]
      have := restN_step hp t
      by_cases h2 : r.path ∈ seen
      · rw [if_pos h2, if_pos (by simp [h2])]; omega
      · rw [if_neg h2, if_neg (by simp [h2, h])]; omega
theorem restN_len {L : List Rls} (h : ∀ r ∈ L, r.reqs.length ≤ 16) (seen : List Bytes) : restN L seen ≤ 16 * L.length := by
  induction L with
  | nil => exact Nat.le_refl _
  | cons r t ih =>
    have := ih fun x hx => h x (by simp [hx])
    have := h r (by simp)
    unfold restN
    simp only [List.length_cons]
    split <;> omega
theorem wl_done {L : List Rls} {n : Nat} {seen : List Bytes} : wl L n seen [] = seen := by cases n <;> rfl
theorem wl_old {L : List Rls} {n : Nat} {seen : List Bytes} {q : Req} {r : List Req} (h : q.path ∈ seen) : wl L (n + 1) seen (q :: r) = wl L n seen r := by rw [wl, if_pos h]
theorem wl_new {L : List Rls} {n : Nat} {seen : List Bytes} {q : Req} {r : List Req} (h : q.path ∉ seen) : wl L (n + 1) seen (q :: r) = wl L n (seen ++ [q.path]) (r ++ (getP L q.path).reqs) := by rw [wl, if_neg h]
def reachW (L : List Rls) (needs : List Req) : List Bytes := wl L (mz L [] needs) [] needs
def solI (x : Idx) (needs : List Req) (ss : List Sel) : Int :=
  if checkI x.rels ≠ 0 then 1
  else if (selF (okR x) ss).2 ≠ 0 then (selF (okR x) ss).2
  else if (selF (okR x) ss).1.any (fun r => r.reqs.any (unsat (selF (okR x) ss).1)) then 17
  else if needs.any (unsat (selF (okR x) ss).1) then 17
  else if (reachW (selF (okR x) ss).1 needs).length < (selF (okR x) ss).1.length then 8 else 0
theorem selF_ok {R : List Rls} {ss : List Sel} (h : (selF R ss).2 = 0) : incr ss = true ∧ ss.all (hasK R) = true ∧ (selF R ss).1 = ss.map (getK R) := by
  unfold selF at h ⊢
  split at h
  · rename_i h1
    split at h
    · rename_i h2; simp [h1, h2]
    · simp at h
  · simp at h
theorem getK_path {R : List Rls} {k : Sel} (h : hasK R k = true) : (getK R k).sel = k ∧ getK R k ∈ R := by
  unfold hasK at h
  obtain ⟨r, hr⟩ := Option.isSome_iff_exists.1 h
  have h1 := List.find?_some hr
  have h2 := List.mem_of_find?_eq_some hr
  unfold getK; rw [hr]
  exact ⟨by simpa using h1, h2⟩
theorem incr_pair : ∀ {ss : List Sel}, incr ss = true → ss.Pairwise fun a b => Op.bytesLess a.path b.path = true
  | [], _ => .nil
  | [a], _ => List.pairwise_singleton _ _
  | a :: b :: r, h => by
    simp only [incr, Bool.and_eq_true] at h
    have ih := incr_pair h.2
    refine List.pairwise_cons.2 ⟨fun c hc => ?_, ih⟩
    rcases List.mem_cons.1 hc with rfl | hc
    · exact h.1
    · exact bytesLess_trans _ _ _ h.1 ((List.pairwise_cons.1 ih).1 c hc)
theorem selF_paths {R : List Rls} {ss : List Sel} (h : (selF R ss).2 = 0) {i : Nat} {z : Rls} (hn : (selF R ss).1[i]? = some z) : ∀ r ∈ (selF R ss).1.take i, r.path ≠ z.path := by
  obtain ⟨h1, h2, h3⟩ := selF_ok h
  rw [h3] at hn ⊢
  intro r hr
  obtain ⟨j, hj⟩ := List.mem_iff_getElem?.1 hr
  have hji : j < i := by have := (List.getElem?_eq_some_iff.1 hj).1; simp at this; omega
  rw [List.getElem?_take, if_pos hji, List.getElem?_map] at hj
  rw [List.getElem?_map] at hn
  obtain ⟨a, ha, rfl⟩ := Option.map_eq_some_iff.1 hj
  obtain ⟨b, hb, rfl⟩ := Option.map_eq_some_iff.1 hn
  have pa := (getK_path (List.all_eq_true.1 h2 a (List.mem_of_getElem? ha))).1
  have pb := (getK_path (List.all_eq_true.1 h2 b (List.mem_of_getElem? hb))).1
  have := List.pairwise_iff_getElem.1 (incr_pair h1) j i (List.getElem?_eq_some_iff.1 ha).1 (List.getElem?_eq_some_iff.1 hb).1 hji
  rw [(List.getElem?_eq_some_iff.1 ha).2, (List.getElem?_eq_some_iff.1 hb).2] at this
  have e1 : (getK R a).path = a.path := congrArg Sel.path pa
  have e2 : (getK R b).path = b.path := congrArg Sel.path pb
  rw [e1, e2]
  exact bytesLess_ne this
theorem selF_mem {R : List Rls} {ss : List Sel} (h : (selF R ss).2 = 0) : ∀ r ∈ (selF R ss).1, r ∈ R := by
  obtain ⟨h1, h2, h3⟩ := selF_ok h
  rw [h3]
  intro r hr
  obtain ⟨k, hk, rfl⟩ := List.mem_map.1 hr
  exact (getK_path (List.all_eq_true.1 h2 k hk)).2
end Go.Pm

namespace Go.Pm
def selM (seen : List Sel) : List (D × D) := seen.map fun k => (k.d, .bool true)
theorem getX_selM : ∀ (seen : List Sel) (k : Sel), toD (getX k.d (.d (.bool false)) (ments (selM seen) [])) = some (.bool (decide (k ∈ seen)))
  | [], _ => rfl
  | y :: r, p => by
    have ih := getX_selM r p
    simp only [ments, selM, List.append_nil, List.map_cons] at ih ⊢
    simp only [getX, eqK_sel]
    by_cases h : p = y
    · rw [if_pos (by simp [h])]; simp [h, toD]
    · rw [if_neg (by simpa using h), ih]; simp [h]
theorem putX_selM : ∀ {seen : List Sel} {p : Sel}, p ∉ seen → putX p.d (.d (.bool true)) (ments (selM seen) []) = ments (selM (seen ++ [p])) []
  | [], _, _ => rfl
  | y :: r, p, h => by
    simp only [List.mem_cons, not_or] at h
    have ih := putX_selM h.2
    simp only [ments, selM, List.append_nil, List.map_cons, List.cons_append] at ih ⊢
    simp only [putX, eqK_sel]
    rw [if_neg (by simpa using h.1), ih]
theorem ks_selM (l : List Sel) : ∀ e ∈ ments (selM l) [], kOK .struct [.str, .int .i64, .int .i64, .int .i64] e.1 = true := by
  intro e he
  simp only [ments, selM, List.append_nil] at he
  obtain ⟨x, hx, rfl⟩ := List.mem_map.1 he
  obtain ⟨y, _, rfl⟩ := List.mem_map.1 hx
  rfl
def goR (q : Req) (r : Rls) (s : List Sel × List Req) : List Sel × List Req := if r.sel ∉ s.1 ∧ setHas q.set (placeOf r.ver).1 = true then (s.1 ++ [r.sel], s.2 ++ r.reqs) else s
def rgo (q : Req) : List Rls → List Sel × List Req → List Sel × List Req
  | [], s => s
  | r :: t, s => rgo q t (goR q r s)
def wl2 (x : Idx) : Nat → List Sel → List Req → List Sel
  | 0, seen, _ => seen
  | n + 1, seen, [] => seen
  | n + 1, seen, q :: r => wl2 x n (rgo q (pathR x q.path) (seen, r)).1 (rgo q (pathR x q.path) (seen, r)).2
def restK (L : List Rls) (seen : List Sel) : Nat := match L with
  | [] => 0
  | r :: t => (if r.sel ∈ seen then 0 else r.reqs.length) + restK t seen
def mz2 (L : List Rls) (s : List Sel × List Req) : Nat := s.2.length + restK L s.1
theorem restK_mono (p : Sel) (seen : List Sel) : ∀ L, restK L (seen ++ [p]) ≤ restK L seen
  | [] => Nat.le_refl _
  | r :: t => by
    have := restK_mono p seen t
    unfold restK
    by_cases h : r.sel ∈ seen
    · rw [if_pos h, if_pos (by simp only [List.mem_append]; exact .inl h)]; omega
    · rw [if_neg h]; split <;> omega
theorem restK_step {p : Rls} {seen : List Sel} (hp : p.sel ∉ seen) : ∀ {L : List Rls}, p ∈ L → restK L (seen ++ [p.sel]) + p.reqs.length ≤ restK L seen
  | [], h => by simp at h
  | r :: t, h => by
    unfold restK
    rcases List.mem_cons.1 h with rfl | h
    · have := restK_mono p.sel seen t
      rw [if_pos (by simp), if_neg hp]; omega
    · have := restK_step hp h
      by_cases h2 : r.sel ∈ seen
      · rw [if_pos h2, if_pos (by simp only [List.mem_append]; exact .inl h2)]; omega
      · rw [if_neg h2]; split <;> omega
theorem goR_mz {L : List Rls} {q : Req} {r : Rls} {s : List Sel × List Req} (h : r ∈ L) : mz2 L (goR q r s) ≤ mz2 L s := by
  unfold goR
  split
  · rename_i hc
    have := restK_step hc.1 h
    simp only [mz2, List.length_append]; omega
  · exact Nat.le_refl _
theorem rgo_mz {L : List Rls} {q : Req} : ∀ {l : List Rls} {s : List Sel × List Req}, (∀ r ∈ l, r ∈ L) → mz2 L (rgo q l s) ≤ mz2 L s
  | [], _, _ => Nat.le_refl _
  | r :: t, s, h => by
    have h1 := rgo_mz (L := L) (q := q) (l := t) (s := goR q r s) fun z hz => h z (by simp [hz])
    exact Nat.le_trans h1 (goR_mz (h r (by simp)))
theorem restK_len {L : List Rls} (h : ∀ r ∈ L, r.reqs.length ≤ 16) (seen : List Sel) : restK L seen ≤ 16 * L.length := by
  induction L with
  | nil => exact Nat.le_refl _
  | cons r t ih =>
    have := ih fun x hx => h x (by simp [hx])
    have := h r (by simp)
    unfold restK
    simp only [List.length_cons]
    split <;> omega
theorem goR_yes {q : Req} {r : Rls} {s : List Sel × List Req} (h : r.sel ∉ s.1) (h2 : setHas q.set (placeOf r.ver).1 = true) : goR q r s = (s.1 ++ [r.sel], s.2 ++ r.reqs) := if_pos ⟨h, h2⟩
theorem goR_no {q : Req} {r : Rls} {s : List Sel × List Req} (h : ¬ (r.sel ∉ s.1 ∧ setHas q.set (placeOf r.ver).1 = true)) : goR q r s = s := if_neg h
theorem wl2_done {x : Idx} {n : Nat} {seen : List Sel} : wl2 x n seen [] = seen := by cases n <;> rfl
theorem goR_sm {q : Req} {r : Rls} {s : List Sel × List Req} (h : ∀ z ∈ s.2, z.Sm) (hr : r.Sm) : ∀ z ∈ (goR q r s).2, z.Sm := by
  unfold goR; split
  · intro z hz
    rcases List.mem_append.1 hz with hz | hz
    · exact h z hz
    · exact hr.reqs z hz
  · exact h
def reachS (x : Idx) (needs : List Req) : List Sel := wl2 x (mz2 (okR x) ([], needs)) [] needs
def reachI (x : Idx) (needs : List Req) : List Sel := (x.rels.filter fun r => decide (r.sel ∈ reachS x needs)).map Rls.sel
theorem fil_yes {l : List Rls} {r : Rls} {s : List Sel} (h : r.sel ∈ s) : ((l ++ [r]).filter fun r => decide (r.sel ∈ s)).map Rls.sel = (l.filter fun r => decide (r.sel ∈ s)).map Rls.sel ++ [r.sel] := by rw [List.filter_append]; simp [h]
theorem fil_no {l : List Rls} {r : Rls} {s : List Sel} (h : r.sel ∉ s) : ((l ++ [r]).filter fun r => decide (r.sel ∈ s)).map Rls.sel = (l.filter fun r => decide (r.sel ∈ s)).map Rls.sel := by rw [List.filter_append]; simp [h]
end Go.Pm

namespace Go.Pm
def intsS (l : List Int) : Bytes := l.flatMap fun n => (uintS n).1
def textsS (l : List Bytes) : Bytes := l.flatMap textS
theorem intsS_take {l : List Int} {i : Nat} {x : Int} (h : l[i]? = some x) : intsS (l.take (i + 1)) = intsS (l.take i) ++ (uintS x).1 := by rw [take_succ h]; simp [intsS]
theorem textsS_take {l : List Bytes} {i : Nat} {x : Bytes} (h : l[i]? = some x) : textsS (l.take (i + 1)) = textsS (l.take i) ++ textS x := by rw [take_succ h]; simp [textsS]
theorem flat_take {α : Type} (f : α → Bytes) {l : List α} {i : Nat} {x : α} (h : l[i]? = some x) : ((l.take i).flatMap f).length + (f x).length ≤ (l.flatMap f).length := by
  have e : l = l.take i ++ x :: l.drop (i + 1) := by rw [← drop_cons h, List.take_append_drop]
  have : (l.flatMap f) = (l.take i).flatMap f ++ (f x ++ (l.drop (i + 1)).flatMap f) := by
    conv => lhs; rw [e]
    simp
  rw [this]; simp only [List.length_append]; omega
end Go.Pm

namespace Go.Pm
def reqT (q : Req) : Bytes := textsS [q.path] ++ intsS [(q.set.length : Int)] ++ q.set.flatMap fun y => intsS [y.lo, y.hi]
def headT (r : Rls) : Bytes := textsS [r.path] ++ intsS [r.ver.min, r.ver.pat, if r.yank then 1 else 0] ++ textsS [r.arch, r.iface, r.cert] ++ intsS [(r.reqs.length : Int)]
def manT (r : Rls) : Bytes := headT r ++ r.reqs.flatMap reqT
theorem uintS_len (n : Int) : (uintS n).1.length ≤ 10 := by
  unfold uintS; split
  · simp
  · exact uvar_len _
theorem intsS_len : ∀ l : List Int, (intsS l).length ≤ 10 * l.length
  | [] => by simp [intsS]
  | x :: r => by
    have := intsS_len r; have := uintS_len x
    simp only [intsS, List.flatMap_cons, List.length_append, List.length_cons] at *; omega
theorem textS_len (s : Bytes) : (textS s).length ≤ 10 + s.length := by have := uvar_len s.length; simp [textS]; omega
theorem textsS_len {l : List Bytes} {n : Nat} (h : ∀ s ∈ l, s.length ≤ n) : (textsS l).length ≤ (10 + n) * l.length := by
  induction l with
  | nil => simp [textsS]
  | cons x r ih =>
    have := ih fun s hs => h s (by simp [hs]); have := textS_len x; have := h x (by simp)
    simp only [textsS, List.flatMap_cons, List.length_append, List.length_cons, Nat.mul_add, Nat.mul_one] at *; omega
def bndS (l : List Span) : Prop := ∀ y ∈ l, y.lo ≤ 1000000 ∧ y.hi ≤ 1000000
theorem mstep_bnd {out : List Span} {x : Span} (h : bndS out) (hx : x.lo ≤ 1000000 ∧ x.hi ≤ 1000000) : bndS (mstep out x) := by
  unfold mstep
  split
  · rename_i z hz
    have hzb := h z (List.mem_of_getElem? hz)
    split
    · intro y hy
      rcases List.mem_or_eq_of_mem_set hy with hy | rfl
      · exact h y hy
      · exact ⟨hzb.1, by dsimp only; split <;> omega⟩
    · intro y hy
      rcases List.mem_append.1 hy with hy | hy
      · exact h y hy
      · simp at hy; subst hy; exact hx
  · intro y hy
    rcases List.mem_append.1 hy with hy | hy
    · exact h y hy
    · simp at hy; subst hy; exact hx
theorem fold_bnd : ∀ {l out : List Span}, bndS l → bndS out → bndS (l.foldl mstep out)
  | [], _, _, h => h
  | x :: r, out, hl, h => fold_bnd (l := r) (fun y hy => hl y (by simp [hy])) (mstep_bnd h (hl x (by simp)))
theorem canonS_bnd (s : List Span) : bndS (canonS s) := by
  rw [← canonP_eq]
  refine fold_bnd (fun y hy => ?_) (fun y hy => by simp at hy)
  obtain ⟨z, hz, rfl⟩ := List.mem_map.1 hy
  have hz := (Proofs.pdB_perm _).mem_iff.1 hz
  have h1 := selB_hi s z hz
  obtain ⟨w, _, hw⟩ := List.mem_filterMap.1 hz
  unfold keepB at hw
  split at hw
  · injection hw with hw; subst hw
    exact ⟨by have := clamp_hi w; show (clampS w).lo ≤ _; omega, clamp_hi w⟩
  · cases hw
end Go.Pm

namespace Go.Pm
def pA : Bytes := [97, 47, 118, 49]
def pB : Bytes := [98, 47, 118, 49]
def exI : Idx := ⟨[⟨pA, ⟨1, 0, 0⟩, [⟨pB, [⟨1000, 1000000⟩]⟩], [], [], [], false⟩, ⟨pB, ⟨1, 0, 0⟩, [], [], [], [], false⟩, ⟨pB, ⟨1, 1, 0⟩, [], [], [], [], false⟩, ⟨pB, ⟨1, 2, 0⟩, [], [], [], [], true⟩], []⟩
end Go.Pm

namespace Go.Pm
theorem findR_yes {z : Rls} {l : List Rls} {k : Sel} (h : z.sel = k) : findR (z :: l) k = some z := by simp [findR, h]
theorem findR_no {z : Rls} {l : List Rls} {k : Sel} (h : ¬ z.sel = k) : findR (z :: l) k = findR l k := by simp [findR, h]
theorem okR_no {x : Idx} (h : ¬ checkI x.rels = 0) : okR x = [] := by unfold okR; rw [if_neg h]
theorem okR_yes {x : Idx} (h : checkI x.rels = 0) : okR x = x.rels := by unfold okR; rw [if_pos h]
end Go.Pm

namespace Go.Pm
inductive Rch (L : List Rls) (needs : List Req) : Rls → Prop
  | root {r : Rls} (hr : r ∈ L) (h : anyReaches needs r = true) : Rch L needs r
  | step {k r : Rls} (hk : Rch L needs k) (hr : r ∈ L) (h : anyReaches k.reqs r = true) : Rch L needs r
theorem cmpR_self (a b : Rls) (e : a.sel = b.sel) : ¬ cmpR a b < 0 := by
  have e1 : a.path = b.path := congrArg Sel.path e
  have e2 : a.ver = b.ver := congrArg Sel.ver e
  rw [cmpR_neg, e1, e2, bytesLess_irrefl, cmpV_neg]
  simp
theorem sel_inj {L : List Rls} (h : L.Pairwise fun a b => cmpR a b < 0) : ∀ {a b : Rls}, a ∈ L → b ∈ L → a.sel = b.sel → a = b := by
  induction h with
  | nil => intro a b h; simp at h
  | @cons x t hx _ ih =>
    intro a b ha hb e
    rcases List.mem_cons.1 ha with h1 | h1 <;> rcases List.mem_cons.1 hb with h2 | h2
    · rw [h1, h2]
    · subst h1; exact absurd (hx b h2) (cmpR_self _ _ e)
    · subst h2; exact absurd (hx a h1) (cmpR_self _ _ e.symm)
    · exact ih h1 h2 e
def Src (L : List Rls) (needs : List Req) (q : Req) : Prop := q ∈ needs ∨ ∃ r, Rch L needs r ∧ q ∈ r.reqs
theorem Src.rch {L : List Rls} {needs : List Req} {q : Req} (h : Src L needs q) {r : Rls} (hr : r ∈ L) (hq : reaches q r = true) : Rch L needs r := by
  rcases h with h | ⟨k, hk, h⟩
  · exact .root hr (List.any_eq_true.2 ⟨q, h, hq⟩)
  · exact .step hk hr (List.any_eq_true.2 ⟨q, h, hq⟩)
structure WI (L : List Rls) (needs : List Req) (ex : Req → Prop) (w : List Sel × List Req) : Prop where
  s : ∀ k ∈ w.1, ∃ r, Rch L needs r ∧ r.sel = k
  q : ∀ q ∈ w.2, Src L needs q
  c : ∀ q, (q ∈ needs ∨ ∃ r ∈ L, r.sel ∈ w.1 ∧ q ∈ r.reqs) → ex q ∨ q ∈ w.2 ∨ ∀ r ∈ L, reaches q r = true → r.sel ∈ w.1
theorem reaches_of {q : Req} {r : Rls} (h : q.path = r.path) (h2 : setHas q.set (placeOf r.ver).1 = true) : reaches q r = true := by simp [reaches, h, h2]
section
variable {L : List Rls} {needs : List Req} {ex : Req → Prop}
theorem WI.go (hL : L.Pairwise fun a b => cmpR a b < 0) {q : Req} {r : Rls} {s : List Sel × List Req} (h : WI L needs ex s) (hq : Src L needs q) (hr : r ∈ L) (hp : q.path = r.path) :
    WI L needs ex (goR q r s) ∧ (∀ k ∈ s.1, k ∈ (goR q r s).1) ∧ (setHas q.set (placeOf r.ver).1 = true → r.sel ∈ (goR q r s).1) := by
  by_cases hc : r.sel ∉ s.1 ∧ setHas q.set (placeOf r.ver).1 = true
  · rw [goR_yes hc.1 hc.2]
    have hR := hq.rch hr (reaches_of hp hc.2)
    refine ⟨⟨fun k hk => ?_, fun z hz => ?_, fun z hz => ?_⟩, fun k hk => by simp [hk], fun _ => by simp⟩
    · rcases List.mem_append.1 hk with hk | hk
      · exact h.s k hk
      · exact ⟨r, hR, (List.mem_singleton.1 hk).symm⟩
    · rcases List.mem_append.1 hz with hz | hz
      · exact h.q z hz
      · exact .inr ⟨r, hR, hz⟩
    · have key : (z ∈ needs ∨ ∃ r ∈ L, r.sel ∈ s.1 ∧ z ∈ r.reqs) ∨ z ∈ r.reqs := by
        rcases hz with hz | ⟨k, hk, hk1, hk2⟩
        · exact .inl (.inl hz)
        · rcases List.mem_append.1 hk1 with hk1 | hk1
          · exact .inl (.inr ⟨k, hk, hk1, hk2⟩)
          · have : k = r := sel_inj hL hk hr (by simpa using hk1)
            subst this; exact .inr hk2
      rcases key with key | key
      · rcases h.c z key with h1 | h1 | h1
        · exact .inl h1
        · exact .inr (.inl (by simp [h1]))
        · exact .inr (.inr fun y hy hzy => by simp [h1 y hy hzy])
      · exact .inr (.inl (by simp [key]))
  · rw [goR_no hc]
    refine ⟨h, fun k hk => hk, fun h2 => ?_⟩
    by_cases hs : r.sel ∈ s.1
    · exact hs
    · exact absurd ⟨hs, h2⟩ hc
theorem WI.rgo (hL : L.Pairwise fun a b => cmpR a b < 0) {q : Req} (hq : Src L needs q) : ∀ {l : List Rls} {s : List Sel × List Req}, WI L needs ex s → (∀ r ∈ l, r ∈ L ∧ q.path = r.path) →
    WI L needs ex (rgo q l s) ∧ (∀ k ∈ s.1, k ∈ (rgo q l s).1) ∧ ∀ r ∈ l, setHas q.set (placeOf r.ver).1 = true → r.sel ∈ (rgo q l s).1
  | [], s, h, _ => ⟨h, fun k hk => hk, fun r hr => by simp at hr⟩
  | r :: t, s, h, hl => by
    have h1 := h.go hL hq (hl r (by simp)).1 (hl r (by simp)).2
    have h2 := WI.rgo hL hq (l := t) h1.1 fun z hz => hl z (by simp [hz])
    refine ⟨h2.1, fun k hk => h2.2.1 k (h1.2.1 k hk), fun z hz hs => ?_⟩
    rcases List.mem_cons.1 hz with rfl | hz
    · exact h2.2.1 _ (h1.2.2 hs)
    · exact h2.2.2 z hz hs
end
end Go.Pm

namespace Go.Pm
structure WP (L : List Rls) (needs : List Req) (w : List Bytes × List Req) : Prop where
  s : ∀ p ∈ w.1, ∃ q, Src L needs q ∧ q.path = p
  q : ∀ q ∈ w.2, Src L needs q
  n : w.1.Nodup
  c : ∀ q, (q ∈ needs ∨ ∃ r ∈ L, r.path ∈ w.1 ∧ q ∈ r.reqs) → q ∈ w.2 ∨ q.path ∈ w.1
def allQ (R : List Rls) (needs : List Req) (ss : List Sel) : List Req := needs ++ (ss.map (getK R)).flatMap (·.reqs)
section
variable {x : Idx} {needs : List Req} {ss : List Sel}
end
end Go.Pm

namespace Go.Pm
theorem relE_all {r : Rls} (h : relE r = 0) : ¬ majN r.path < 0 ∧ r.ver.ok = true ∧ r.ver.maj = majN r.path ∧ checkReqs r.reqs = 0 ∧ isDig r.arch = true ∧ isDig r.iface = true ∧ isDig r.cert = true := by
  unfold relE at h
  split at h
  · simp at h
  · rename_i h1
    split at h
    · simp at h
    · rename_i h2
      simp only [not_or, Decidable.not_not, Bool.not_eq_false] at h2
      split at h
      · rename_i h3; exact absurd h h3
      · rename_i h3
        split at h
        · rename_i h4
          simp only [Bool.and_eq_true] at h4
          exact ⟨h1, h2.1, h2.2, by simpa using h3, h4.1.1, h4.1.2, h4.2⟩
        · simp at h
theorem isDig_len {s : Bytes} (h : isDig s = true) : s.length ≤ 32 := by
  simp [isDig] at h; rcases h with h | h
  · simp [h]
  · omega
theorem reqE_set {q : Req} {p : Option Req} (h : reqE q p = 0) : q.set = canonS q.set := by
  unfold reqE at h
  split at h
  · simp at h
  · split at h
    · simp at h
    · rename_i h2; simp only [not_or, Decidable.not_not] at h2; exact h2.2
theorem relE_sets {r : Rls} (h : relE r = 0) : ∀ q ∈ r.reqs, bndS q.set := by
  have h4 := (relE_all h).2.2.2.1
  unfold checkReqs at h4
  split at h4
  · simp at h4
  · intro q hq
    have hs : q.set = canonS q.set := by
      rcases reqsE_ok h4 q hq with h | ⟨y, h⟩
      · exact reqE_set h
      · exact reqE_set h
    rw [hs]; exact canonS_bnd _
theorem flat_len {α : Type} {l : List α} {f : α → Bytes} {n : Nat} (h : ∀ x ∈ l, (f x).length ≤ n) : (l.flatMap f).length ≤ n * l.length := by
  induction l with
  | nil => simp
  | cons x t ih =>
    have := ih fun y hy => h y (by simp [hy])
    have := h x (by simp)
    simp only [List.flatMap_cons, List.length_append, List.length_cons, Nat.mul_add, Nat.mul_one]; omega
theorem reqT_len {q : Req} (h : q.Sm) : (reqT q).length ≤ 30000000 := by
  have h1 := textsS_len (l := [q.path]) (n := 100000) (by simpa using h.path)
  have h2 := intsS_len [(q.set.length : Int)]
  have h3 := flat_len (l := q.set) (f := fun y => intsS [y.lo, y.hi]) (n := 20) fun y _ => by have := intsS_len [y.lo, y.hi]; simpa using this
  have := h.set
  simp only [reqT, List.length_append, List.length_cons, List.length_nil] at *; omega
theorem headT_len {r : Rls} (hr : r.Sm) (he : relE r = 0) : (headT r).length ≤ 200000 := by
  obtain ⟨_, _, _, _, a, b, c⟩ := relE_all he
  have h1 := textsS_len (l := [r.path]) (n := 100000) (by simpa using hr.path)
  have h2 := intsS_len [r.ver.min, r.ver.pat, if r.yank then 1 else 0]
  have h3 := textsS_len (l := [r.arch, r.iface, r.cert]) (n := 32) (by simp; exact ⟨isDig_len a, isDig_len b, isDig_len c⟩)
  have h4 := intsS_len [(r.reqs.length : Int)]
  simp only [headT, List.length_append, List.length_cons, List.length_nil] at *; omega
theorem man_pre {r : Rls} (hr : r.Sm) (he : relE r = 0) {i : Nat} {z : Req} (hn : r.reqs[i]? = some z) : (headT r ++ (r.reqs.take i).flatMap reqT).length + (reqT z).length ≤ 600000000 := by
  have h1 := headT_len hr he
  have h2 := flat_take reqT hn
  have h3 := flat_len (l := r.reqs) (f := reqT) (n := 30000000) fun q hq => reqT_len (hr.reqs q hq)
  have h4 := relE_reqs he
  have : 30000000 * r.reqs.length ≤ 30000000 * 16 := Nat.mul_le_mul_left _ h4
  rw [List.length_append]; omega
end Go.Pm

namespace Go.Pm
structure RS.In (m : Bytes) (r : RS) : Prop where
  s : r.s = m
  p : r.pos ≤ m.length
theorem take_in {α : Type} {m : Bytes} {r : RS} (h : r.In m) {y : α × Nat × Bool} {z : α} (hy : y.2.1 ≤ m.length) : (r.take y z).2.In m := by
  unfold RS.take
  split
  · split
    · exact ⟨h.s, hy⟩
    · exact ⟨h.s, h.p⟩
  · exact h
theorem rdT_le (s : Bytes) (p : Nat) : (rdT s p).2.1 ≤ s.length := by
  unfold rdT; split
  · rename_i h; simp at h; dsimp only; omega
  · simp
theorem rdT_len (s : Bytes) (p : Nat) : (rdT s p).1.length ≤ s.length := by
  unfold rdT; split
  · simp; omega
  · simp
theorem rdC_le {s : Bytes} {p : Nat} (h : p ≤ s.length) (most : Int) : (rdC s p most).2.1 ≤ s.length := by
  unfold rdC; split
  · exact rdN_le h
  · simp
theorem text_in {m : Bytes} {r : RS} (h : r.In m) : r.text.2.In m := by
  refine take_in h ?_; have := rdT_le r.s r.pos; rw [h.s] at this; rw [h.s]; exact this
theorem uint_in {m : Bytes} {r : RS} (h : r.In m) : r.uint.2.In m := by
  refine take_in h ?_; have := rdN_le (s := r.s) (p := r.pos) (by rw [h.s]; exact h.p); rw [h.s] at this; rw [h.s]; exact this
theorem count_in {m : Bytes} {r : RS} (h : r.In m) (most : Int) : (r.count most).2.In m := by
  refine take_in h ?_; have := rdC_le (s := r.s) (p := r.pos) (by rw [h.s]; exact h.p) most; rw [h.s] at this; rw [h.s]; exact this
theorem text_len {m : Bytes} {r : RS} (h : r.In m) : r.text.1.length ≤ m.length := by
  have := rdT_len r.s r.pos; rw [h.s] at this
  unfold RS.text RS.take
  split
  · split
    · dsimp only; rw [h.s]; exact this
    · simp
  · simp
theorem count_bnd (r : RS) (most : Int) (h0 : 0 ≤ most) : 0 ≤ (r.count most).1 ∧ (r.count most).1 ≤ most := by
  unfold RS.count RS.take
  split
  · split
    · unfold rdC; split
      · rename_i h; simp at h; constructor
        · exact Int.natCast_nonneg _
        · exact h.2
      · simp; omega
    · simp; omega
  · simp; omega
def spanS (s : List Span × RS) : List Span × RS := if s.2.e ≠ 0 then s else (s.1 ++ [⟨s.2.uint.1, s.2.uint.2.uint.1⟩], s.2.uint.2.uint.2)
def sI (r : RS) : Nat → List Span × RS
  | 0 => ([], r)
  | k + 1 => spanS (sI r k)
theorem sI_next {r : RS} {k : Nat} (h : (sI r k).2.e = 0) : sI r (k + 1) = ((sI r k).1 ++ [⟨(sI r k).2.uint.1, (sI r k).2.uint.2.uint.1⟩], (sI r k).2.uint.2.uint.2) := by
  show spanS _ = _; unfold spanS; rw [if_neg (by simp [h])]
theorem sI_stop {r : RS} {k : Nat} (h : (sI r k).2.e ≠ 0) : ∀ {n : Nat}, k ≤ n → sI r k = sI r n
  | 0, hn => by rw [Nat.le_zero.1 hn]
  | n + 1, hn => by
    rcases Nat.lt_or_ge n k with h1 | h1
    · rw [show k = n + 1 from by omega]
    · have := sI_stop h h1
      show _ = spanS _
      unfold spanS; rw [← this, if_pos h]
theorem sI_in {m : Bytes} {r : RS} (h : r.In m) : ∀ k, (sI r k).2.In m
  | 0 => h
  | k + 1 => by
    have ih := sI_in h k
    show (spanS _).2.In m
    unfold spanS; split
    · exact ih
    · exact uint_in (uint_in ih)
theorem sI_len (r : RS) : ∀ k, (sI r k).1.length ≤ k
  | 0 => Nat.le_refl _
  | k + 1 => by
    have ih := sI_len r k
    show (spanS _).1.length ≤ k + 1
    unfold spanS; split
    · omega
    · simp; omega
def rdc (len : Int) (r : RS) : Int × RS := r.text.2.count len
def qstep (len : Int) (s : List Req × RS) : List Req × RS := (s.1 ++ [⟨s.2.text.1, (sI (rdc len s.2).2 (rdc len s.2).1.toNat).1⟩], (sI (rdc len s.2).2 (rdc len s.2).1.toNat).2)
def qI (len : Int) (r : RS) : Nat → List Req × RS
  | 0 => ([], r)
  | i + 1 => qstep len (qI len r i)
theorem qI_in {m : Bytes} {r : RS} (h : r.In m) (len : Int) : ∀ i, (qI len r i).2.In m
  | 0 => h
  | i + 1 => sI_in (count_in (text_in (qI_in h len i)) _) _
theorem qI_len (len : Int) (r : RS) : ∀ i, (qI len r i).1.length = i
  | 0 => rfl
  | i + 1 => by show (qstep _ _).1.length = _; simp [qstep, qI_len len r i]
theorem qI_sm {m : Bytes} {r : RS} (h : r.In m) (hm : m.length ≤ 100000) : ∀ i, ∀ q ∈ (qI m.length r i).1, q.Sm
  | 0, q, hq => by simp [qI] at hq
  | i + 1, q, hq => by
    have hin := qI_in h m.length i
    rcases List.mem_append.1 (show q ∈ (qI m.length r i).1 ++ [_] from hq) with hq | hq
    · exact qI_sm h hm i q hq
    · simp at hq; subst hq
      have h1 := text_len hin
      have h2 := count_bnd (qI m.length r i).2.text.2 m.length (by omega)
      have h3 := sI_len (rdc m.length (qI m.length r i).2).2 (rdc m.length (qI m.length r i).2).1.toNat
      exact ⟨by dsimp only; omega, by unfold rdc at *; dsimp only; omega⟩
def rd1 (m : Bytes) : Bytes × RS := RS.text ⟨m, 0, 0⟩
def rd2 (m : Bytes) : Int × RS := (rd1 m).2.uint
def rd3 (m : Bytes) : Int × RS := (rd2 m).2.uint
def rd4 (m : Bytes) : Int × RS := (rd3 m).2.count 1
def rd5 (m : Bytes) : Bytes × RS := (rd4 m).2.text
def rd6 (m : Bytes) : Bytes × RS := (rd5 m).2.text
def rd7 (m : Bytes) : Bytes × RS := (rd6 m).2.text
def rd8 (m : Bytes) : Int × RS := (rd7 m).2.count 16
def rd9 (m : Bytes) : List Req × RS := qI m.length (rd8 m).2 (rd8 m).1.toNat
@[reducible] def outI (m : Bytes) : Rls := ⟨(rd1 m).1, ⟨majN (rd1 m).1, (rd2 m).1, (rd3 m).1⟩, (rd9 m).1, (rd5 m).1, (rd6 m).1, (rd7 m).1, (rd4 m).1 == 1⟩
def readB (m : Bytes) : Prop := majN (rd1 m).1 < 0 ∨ (rd9 m).2.done ≠ 0 ∨ checkI [outI m] ≠ 0
instance (m : Bytes) : Decidable (readB m) := by unfold readB; infer_instance
def readI (m : Bytes) : Rls × Int := if readB m then (zeroR, 9) else (outI m, 0)
section
variable (m : Bytes)
theorem in1 : (rd1 m).2.In m := text_in ⟨rfl, Nat.zero_le _⟩
theorem in2 : (rd2 m).2.In m := uint_in (in1 m)
theorem in3 : (rd3 m).2.In m := uint_in (in2 m)
theorem in4 : (rd4 m).2.In m := count_in (in3 m) _
theorem in5 : (rd5 m).2.In m := text_in (in4 m)
theorem in6 : (rd6 m).2.In m := text_in (in5 m)
theorem in7 : (rd7 m).2.In m := text_in (in6 m)
theorem in8 : (rd8 m).2.In m := count_in (in7 m) _
theorem in9 : (rd9 m).2.In m := qI_in (in8 m) _ _
theorem cnt8 : (rd8 m).1.toNat ≤ 16 := by have := count_bnd (rd7 m).2 16 (by omega); unfold rd8; omega
theorem out_sm (hm : m.length ≤ 100000) : (outI m).Sm := by
  have h1 := text_len (r := ⟨m, 0, 0⟩) (m := m) ⟨rfl, Nat.zero_le _⟩
  have h5 := text_len (in4 m); have h6 := text_len (in5 m); have h7 := text_len (in6 m)
  have h9 := qI_len m.length (rd8 m).2 (rd8 m).1.toNat
  have h8 := cnt8 m
  exact ⟨by show (rd1 m).1.length ≤ _; unfold rd1; omega, Nat.lt_of_le_of_lt h5 (by unfold B62; omega), Nat.lt_of_le_of_lt h6 (by unfold B62; omega), Nat.lt_of_le_of_lt h7 (by unfold B62; omega), by show (qI m.length (rd8 m).2 (rd8 m).1.toNat).1.length < _; rw [h9]; unfold B62; omega, qI_sm (in8 m) hm _⟩
end
theorem RS.In.hs {m : Bytes} {r : RS} (h : r.In m) (hm : m.length ≤ 100000) : r.s.length < 4611686018427387904 := by rw [h.s]; omega
theorem RS.In.hp {m : Bytes} {r : RS} (h : r.In m) : r.pos ≤ r.s.length := by rw [h.s]; exact h.p
end Go.Pm

namespace Go.Pm
def exN : List Req := [⟨pA, [⟨0, 1000000⟩]⟩]
def exR : Rls := ⟨pA, ⟨1, 0, 0⟩, [⟨pB, [⟨1000, 1000000⟩]⟩], [], [], [], false⟩
def exS : List Sel := [⟨pA, ⟨1, 0, 0⟩⟩, ⟨pB, ⟨1, 0, 0⟩⟩]
def exG : List Sel := [⟨pA, ⟨1, 0, 0⟩⟩, ⟨pB, ⟨1, 1, 0⟩⟩]
set_option maxRecDepth 100000
theorem ex_check : checkI exI.rels = 0 := by decide +kernel
theorem ex_sol : solI exI exN exS = 17 := by decide +kernel
theorem ex_good : solI exI exN exG = 0 := by decide +kernel
def manX (r : Rls) : Bytes := if checkI [r] = 0 then manT r else []
theorem ex_man : checkI [exR] = 0 := by decide +kernel
theorem ex_len : (manX exR).length ≤ 100000 := by decide +kernel
theorem ex_read : readI (manX exR) = (exR, 0) := by decide +kernel
end Go.Pm
namespace Go.Pm
set_option maxRecDepth 100000
def exL : List Sel := [⟨pA, ⟨1, 0, 0⟩⟩, ⟨pB, ⟨1, 1, 0⟩⟩, ⟨pB, ⟨1, 2, 0⟩⟩]
def exV : List Span := [⟨0, 1⟩, ⟨1000, 1001⟩]
theorem ex_reachL : reachI exI exN = exL := by decide +kernel
theorem ex_avV : canonS (avS (pathR exI pB)) = exV := by decide +kernel
theorem exR_sm : exR.Sm := ⟨by decide, by decide, by decide, by decide, by decide, fun q hq => by
  have : q = ⟨pB, [⟨1000, 1000000⟩]⟩ := by simpa [exR] using hq
  subst this; exact ⟨by decide, by decide⟩⟩
theorem exN_sm : ∀ q ∈ exN, q.Sm := fun q hq => by
  have : q = ⟨pA, [⟨0, 1000000⟩]⟩ := by simpa [exN] using hq
  subst this; exact ⟨by decide, by decide⟩
theorem exI_sm : ∀ r ∈ exI.rels, r.Sm := fun r hr => by
  simp only [exI, List.mem_cons, List.not_mem_nil, or_false] at hr
  rcases hr with rfl | rfl | rfl | rfl
  · exact exR_sm
  all_goals exact ⟨by decide, by decide, by decide, by decide, by decide, fun q hq => by simp at hq⟩
end Go.Pm

namespace Go.Pm
section
variable {L : List Rls} {needs : List Req} {b : List Bool}
structure BOK (L : List Rls) (needs : List Req) (b : List Bool) : Prop where
  len : b.length = L.length
  ok : ∀ (i : Nat) (z : Rls), L[i]? = some z → b[i]? = some true → Rch L needs z
end
end Go.Pm

namespace Go.Pm
theorem fewReqs_ok {l : List Req} (h : fewReqs l = true) : (∀ q ∈ l, q.Sm) ∧ l.length ≤ 20 := by
  simp only [fewReqs, Bool.and_eq_true, List.all_eq_true, fewReq, decide_eq_true_eq] at h
  refine ⟨fun q hq => ?_, by omega⟩
  have := h.1 q hq
  exact ⟨by omega, by omega⟩
theorem fewRls_ok {r : Rls} (h : fewRls r = true) : r.Sm := by
  simp only [fewRls, Bool.and_eq_true, decide_eq_true_eq] at h
  have h2 := fewReqs_ok h.2
  exact ⟨by omega, by unfold B62; omega, by unfold B62; omega, by unfold B62; omega, by unfold B62; omega, h2.1⟩
theorem fewRlss_ok {l : List Rls} {n : Int} (h : fewRlss l n = true) : (∀ r ∈ l, r.Sm) ∧ (l.length : Int) ≤ n := by
  simp only [fewRlss, Bool.and_eq_true, List.all_eq_true, decide_eq_true_eq] at h
  exact ⟨fun r hr => fewRls_ok (h.1 r hr), h.2⟩
end Go.Pm

namespace Go.Pm
open Go.ChangeShapes Go.WideShapes
mutual
def dOf {H : Type} : DataW H → D
  | .lit (.bool b) => .bool b
  | .lit (.int k n) => .int k n
  | .lit (.string s) => .str s
  | .lit _ => .nilp
  | .nil => .list []
  | .slice es _ => .list (dOfs es)
  | .agg ps => .agg (dCells ps)
  | _ => .nilp
def dOfs {H : Type} : List (DataW H) → List D
  | [] => []
  | d :: r => dOf d :: dOfs r
def dCells {H : Type} : List (DataW H) → List D
  | [] => []
  | d :: r => (dOf d).cells ++ dCells r
end
theorem dOfs_map {H : Type} : ∀ l : List (DataW H), dOfs l = l.map dOf
  | [] => by simp [dOfs]
  | d :: r => by simp [dOfs, dOfs_map r]
theorem dCells_flat {H : Type} : ∀ l : List (DataW H), dCells l = (l.map dOf).flatMap D.cells
  | [] => by simp [dCells]
  | d :: r => by simp [dCells, dCells_flat r]
structure RowD (w : World) (ds : List D) (vs : List Value) : Prop where
  len : vs.length = ds.length
  one : ∀ x ∈ ds, x.one = true
  den : ∀ (j : Nat) (x : D) (v : Value), ds[j]? = some x → vs[j]? = some v → Den (fun _ _ => False) w x v
theorem RowD.append {w : World} {a b : List D} {u v : List Value} (h : RowD w a u) (k : RowD w b v) : RowD w (a ++ b) (u ++ v) := by
  refine ⟨by simp [h.len, k.len], fun x hx => ?_, fun j x y hx hy => ?_⟩
  · rcases List.mem_append.1 hx with hx | hx
    · exact h.one x hx
    · exact k.one x hx
  · have hl := h.len
    by_cases hj : j < a.length
    · rw [List.getElem?_append_left hj] at hx
      rw [List.getElem?_append_left (by omega)] at hy
      exact h.den j x y hx hy
    · rw [List.getElem?_append_right (by omega)] at hx
      rw [List.getElem?_append_right (by omega), hl] at hy
      exact k.den _ x y hx hy
theorem RowD.nil (w : World) : RowD w [] [] := ⟨rfl, fun x hx => by simp at hx, fun j x v hx => by simp at hx⟩
theorem RowD.single {w : World} {x : D} {v : Value} (ho : x.one = true) (h : Den (fun _ _ => False) w x v) : RowD w [x] [v] := ⟨rfl, fun y hy => by rw [List.mem_singleton.1 hy]; exact ho, fun j y u hy hu => by
  cases j with
  | zero => simp at hy hu; subst hy; subst hu; exact h
  | succ j => simp at hy⟩
def tileB (P : Program) : Nat → List Field → Nat → Bool
  | acc, [], n => acc == n
  | acc, f :: r, n => f.offset == acc && tileB P (acc + P.cellsOf f.type) r n
def plainB (P : Program) (S : List TypeId) : Bool := S.all fun t => match P.underlying t with
  | some .bool | some (.int _) | some .string => P.cellsOf t == 1
  | some (.slice e) => P.cellsOf t == 1 && S.contains e && decide (1 ≤ P.cellsOf e)
  | some (.struct fs) => (fs.toList.all fun f => S.contains f.type) && tileB P 0 fs.toList (P.cellsOf t)
  | _ => false
section
variable {H : Type} {enc : TypeId × Value → H} {P : Program} {w : World} {sp : Nat → Bool} {held : Bool}
theorem cell_spot {a : Addr} {v : Value} (h : w.cell? a = some v) : a.spot = none := by
  unfold World.cell? at h
  split at h
  · split at h
    · cases h
    · rename_i h2; simpa using h2
  · cases h
theorem rowD_fields : ∀ (fs : List Field) (xs : List (DataW H × List MemPlace)) (acc : Nat) (cs : List Value), tileB P acc fs cs.length = true → xs.length = fs.length →
    (∀ (i : Nat) (f : Field), fs[i]? = some f → ∃ y, xs[i]? = some y ∧ RowD w (dOf y.1).cells ((cs.drop f.offset).take (P.cellsOf f.type)) ∧ ((cs.drop f.offset).take (P.cellsOf f.type)).length = P.cellsOf f.type) → RowD w (dCells (xs.map (·.1))) (cs.drop acc)
  | [], [], acc, cs, ht, _, _ => by
    have : acc = cs.length := by simpa [tileB] using ht
    subst this; simp [dCells]; exact RowD.nil w
  | f :: r, x :: xs, acc, cs, ht, hl, h => by
    simp only [tileB, Bool.and_eq_true, beq_iff_eq] at ht
    obtain ⟨y, hy, h1, h2⟩ := h 0 f rfl
    simp at hy; subst hy
    rw [ht.1] at h1 h2
    have ih := rowD_fields r xs (acc + P.cellsOf f.type) cs ht.2 (by simpa using hl) fun i g hg => by simpa using h (i + 1) g (by simpa using hg)
    have e : cs.drop acc = (cs.drop acc).take (P.cellsOf f.type) ++ cs.drop (acc + P.cellsOf f.type) := by rw [← List.drop_drop]; exact (List.take_append_drop _ _).symm
    rw [e]
    simpa [dCells] using h1.append ih
theorem rowD_den {S : List TypeId} (hS : plainB P S = true) : ∀ (fuel : Nat) (t : TypeId), t ∈ S → ∀ (cs : List Value) (x : DataW H × List MemPlace), DataW.trod enc P w 0 sp held fuel t cs = some x → RowD w (dOf x.1).cells cs ∧ cs.length = P.cellsOf t
  | 0, t, _, cs, x, h => by simp [DataW.trod] at h
  | fuel + 1, t, ht, cs, x, h => by
    have hs := List.all_eq_true.1 hS t ht
    split at hs
    · rename_i hu
      obtain ⟨b, rfl, rfl⟩ := DataW.trod_bool hu h
      exact ⟨by simpa [dOf, D.cells] using RowD.single rfl (Den.bool b), by simpa using (beq_iff_eq.1 hs).symm⟩
    · rename_i k hu
      obtain ⟨n, rfl, rfl, _⟩ := DataW.trod_int hu h
      exact ⟨by simpa [dOf, D.cells] using RowD.single rfl (Den.int k n), by simpa using (beq_iff_eq.1 hs).symm⟩
    · rename_i hu
      obtain ⟨s, rfl, rfl, _⟩ := DataW.trod_string hu h
      exact ⟨by simpa [dOf, D.cells] using RowD.single rfl (Den.str s.data.toList), by simpa using (beq_iff_eq.1 hs).symm⟩
    · rename_i e hu
      simp only [Bool.and_eq_true, beq_iff_eq, decide_eq_true_eq] at hs
      obtain ⟨⟨h1, h2⟩, h3⟩ := hs
      have he : e ∈ S := by simpa using h2
      rcases DataW.trod_slice hu h with ⟨rfl, rfl⟩ | ⟨a, len, cap, elems, rest, n, hf, rfl, rfl, _, hlc, hcap, hel, hi, _⟩
      · exact ⟨by simpa [dOf, D.cells] using RowD.single (x := .list []) rfl Den.nil, by simpa using h1.symm⟩
      · have hf : n = fuel := by omega
        subst hf
        refine ⟨?_, by simpa using h1.symm⟩
        simp only [dOf, D.cells]
        refine RowD.single rfl ?_
        rw [dOfs_map, List.map_map]
        have key : ∀ i, i < len → ∃ y cs', elems[i]? = some y ∧ w.cells? 0 (a.add (i * P.cellsOf e)) (P.cellsOf e) = some cs' ∧ RowD w (dOf y.1).cells cs' ∧ cs'.length = P.cellsOf e := by
          intro i hil
          have := hi i hil
          rw [List.getElem?_eq_getElem (by omega)] at this
          obtain ⟨cs', h4, h5⟩ := Option.bind_eq_some_iff.1 this
          have := rowD_den hS n e he cs' _ h5
          exact ⟨_, cs', List.getElem?_eq_getElem (by omega), h4, this.1, this.2⟩
        by_cases h0 : len = 0
        · have : elems = [] := List.length_eq_zero_iff.1 (by omega)
          subst this; subst h0
          exact Den.empty a cap
        · have hsp : a.spot = none := by
            obtain ⟨y, cs', _, h4, _, h6⟩ := key 0 (by omega)
            obtain ⟨_, _, hc⟩ := World.cells?_some h4
            have hc0 := hc 0 (by omega)
            obtain ⟨v, hv⟩ : ∃ v, cs'[0]? = some v := ⟨_, List.getElem?_eq_getElem (by omega)⟩
            rw [hv] at hc0
            have := cell_spot hc0
            simpa [Addr.add] using this
          obtain ⟨b, o, s⟩ := a
          simp only at hsp; subst hsp
          have hlen : (elems.map (dOf ∘ fun x => x.1)).length = len := by simp [hel]
          have hadd : ∀ i j, ((⟨b, o, none⟩ : Addr).add i).add j = ⟨b, o + i + j, none⟩ := by
            intro i j; rw [Deep.add_add]; unfold Addr.add; by_cases hij : i + j = 0
            · have hi0 : i = 0 := by omega
              have hj0 : j = 0 := by omega
              subst hi0; subst hj0; simp
            · rw [if_neg hij]; simp [Nat.add_assoc]
          rw [← hlen]
          have get : ∀ (i : Nat) (d : D), (elems.map (dOf ∘ fun x => x.1))[i]? = some d → ∃ cs', i < len ∧ w.cells? 0 ((⟨b, o, none⟩ : Addr).add (i * P.cellsOf e)) (P.cellsOf e) = some cs' ∧ RowD w d.cells cs' ∧ cs'.length = P.cellsOf e := by
            intro i d hd
            have hil : i < len := by have := (List.getElem?_eq_some_iff.1 hd).1; rw [hlen] at this; exact this
            obtain ⟨y, cs', h3, h4, h5, h6⟩ := key i hil
            rw [List.getElem?_map, h3] at hd
            injection hd with hd; subst hd
            exact ⟨cs', hil, h4, h5, h6⟩
          refine Den.list _ b o cap (P.cellsOf e) (fun i j => (w.cell? ⟨b, o + i * P.cellsOf e + j, none⟩).getD (.bool false)) (by rw [hlen]; exact hlc) (fun d hd => ?_) (fun d hd => ?_) (fun i d hd j y hy => ?_) (fun i j hij hj => ?_)
          · obtain ⟨i, hid⟩ := List.mem_iff_getElem?.1 hd
            obtain ⟨cs', _, _, h5, h6⟩ := get i d hid
            rw [← h5.len, h6]
          · obtain ⟨i, hid⟩ := List.mem_iff_getElem?.1 hd
            obtain ⟨cs', _, _, h5, h6⟩ := get i d hid
            exact h5.one
          · obtain ⟨cs', hil, h4, h5, h6⟩ := get i d hd
            have hj : j < P.cellsOf e := by have := (List.getElem?_eq_some_iff.1 hy).1; rw [← h5.len, h6] at this; exact this
            have hc := (World.cells?_some h4).2.2 j hj
            rw [hadd] at hc
            obtain ⟨v, hv⟩ : ∃ v, cs'[j]? = some v := ⟨_, List.getElem?_eq_getElem (by omega)⟩
            rw [hc, hv]
            exact h5.den j y v hy hv
          · rw [hlen] at hij
            obtain ⟨y, cs', _, h4, _, h6⟩ := key i hij
            have hc := (World.cells?_some h4).2.2 j hj
            rw [hadd] at hc
            obtain ⟨v, hv⟩ : ∃ v, cs'[j]? = some v := ⟨_, List.getElem?_eq_getElem (by omega)⟩
            rw [hc, hv]
            exact ⟨rfl, fun h => h⟩
    · rename_i fs hu
      simp only [Bool.and_eq_true, List.all_eq_true] at hs
      obtain ⟨xs, n, hf, rfl, hl, hx, hg⟩ := DataW.trod_struct hu h
      have hf : n = fuel := by omega
      subst hf
      refine ⟨?_, hl⟩
      have := rowD_fields (P := P) (w := w) fs.toList xs 0 cs (by rw [hl]; exact hs.2) (by simpa using hx) fun i f hfi => by
        have hfi' : fs[i]? = some f := by simpa using hfi
        have h1 := hg i f hfi'
        obtain ⟨y, hy⟩ : ∃ y, xs[i]? = some y := ⟨_, List.getElem?_eq_getElem (by rw [hx]; exact (Array.getElem?_eq_some_iff.1 hfi').1)⟩
        rw [hy] at h1
        have hm : f.type ∈ S := by simpa using hs.1 f (List.mem_of_getElem? hfi)
        have h2 := rowD_den hS n f.type hm _ _ h1
        exact ⟨y, hy, h2.1, h2.2⟩
      simpa [dOf, D.cells] using this
    · cases hs
end
end Go.Pm

namespace Go.Pm
open Go.ChangeShapes Go.WideShapes
def stypes (P : Program) (t : TypeId) : Option (List TypeId) := match P.underlying t with
  | some (.struct fs) => some (fs.toList.map (·.type))
  | _ => none
theorem stypes_some {P : Program} {t : TypeId} {ts : List TypeId} (h : stypes P t = some ts) : ∃ fs, P.underlying t = some (.struct fs) ∧ fs.toList.map (·.type) = ts := by
  unfold stypes at h
  split at h
  · rename_i fs hu; injection h with h; exact ⟨fs, hu, h⟩
  · cases h
def etype (P : Program) (t : TypeId) : Option TypeId := match P.underlying t with
  | some (.slice e) => some e
  | _ => none
theorem etype_some {P : Program} {t e : TypeId} (h : etype P t = some e) : P.underlying t = some (.slice e) := by
  unfold etype at h
  split at h
  · rename_i u hu; injection h with h; subst h; exact hu
  · cases h
section
variable {H : Type} (enc : TypeId × Value → H) (P : Program) (w : World)
def Rd (t : TypeId) (Q : D → Prop) : Prop := ∀ (fuel : Nat) (cs : List Value) (x : DataW H × List MemPlace), DataW.trod enc P w 0 (fun _ => true) true fuel t cs = some x → (∀ n ∈ x.1.weights P t, n ≤ reachBytes) → Q (dOf x.1)
def RdAll : List TypeId → List (D → Prop) → Prop
  | [], [] => True
  | t :: ts, Q :: Qs => Rd enc P w t Q ∧ RdAll ts Qs
  | _, _ => False
def AllQ : List D → List (D → Prop) → Prop
  | [], [] => True
  | d :: ds, Q :: Qs => Q d ∧ AllQ ds Qs
  | _, _ => False
variable {enc P w}
theorem rTC {t : TypeId} {Q : D → Prop} {ts : List TypeId} {Qs : List (D → Prop)} (h : Rd enc P w t Q) (k : RdAll enc P w ts Qs) : RdAll enc P w (t :: ts) (Q :: Qs) := ⟨h, k⟩
theorem rTN : RdAll enc P w [] [] := True.intro
theorem rd_int {t : TypeId} {k : IntKind} (hu : P.underlying t = some (.int k)) : Rd enc P w t fun d => ∃ n, d = .int k n := fun fuel cs x h _ => by
  obtain ⟨n, rfl, rfl, _⟩ := DataW.trod_int hu h; exact ⟨n, by simp [dOf]⟩
theorem rd_bool {t : TypeId} (hu : P.underlying t = some .bool) : Rd enc P w t fun d => ∃ b, d = .bool b := fun fuel cs x h _ => by
  obtain ⟨n, rfl, rfl⟩ := DataW.trod_bool hu h; exact ⟨n, by simp [dOf]⟩
theorem rd_str {t : TypeId} (hu : P.underlying t = some .string) : Rd enc P w t fun d => ∃ s : Bytes, s.length ≤ reachBytes ∧ d = .str s := fun fuel cs x h hw => by
  obtain ⟨s, rfl, rfl, _⟩ := DataW.trod_string hu h
  exact ⟨s.data.toList, hw _ (by simp [DataW.weights]), by simp [dOf]⟩
theorem rd_list {t e : TypeId} (ht : etype P t = some e) : Rd enc P w t fun d => ∃ l : List D, d = .list l := fun fuel cs x h hw => by
  rcases DataW.trod_slice (etype_some ht) h with ⟨rfl, rfl⟩ | ⟨a, len, cap, elems, rest, n, hf, rfl, rfl, _⟩
  · exact ⟨[], by simp [dOf]⟩
  · exact ⟨dOfs (elems.map (·.1)), by rw [dOf]⟩
theorem weightsAll_mem {e : TypeId} : ∀ {l : List (DataW H)} {d : DataW H}, d ∈ l → ∀ n ∈ d.weights P e, n ∈ DataW.weightsAll P e l
  | [], _, h, _, _ => by simp at h
  | a :: r, d, h, n, hn => by
    rw [DataW.weightsAll]
    rcases List.mem_cons.1 h with rfl | h
    · exact List.mem_append.2 (.inl hn)
    · exact List.mem_append.2 (.inr (weightsAll_mem h n hn))
theorem rd_slice {t e : TypeId} {α : Type} {g : α → D} {Pr : α → Prop} (bz : Nat) (ht : etype P t = some e) (hb : P.bytesOf e = bz) (h : Rd enc P w e fun d => ∃ x, Pr x ∧ d = g x) :
    Rd enc P w t fun d => ∃ l : List α, (l.length * bz ≤ reachBytes ∧ ∀ x ∈ l, Pr x) ∧ d = .list (l.map g) := fun fuel cs x hx hw => by
  have hu := etype_some ht
  rcases DataW.trod_slice hu hx with ⟨rfl, rfl⟩ | ⟨a, len, cap, elems, rest, n, hf, rfl, rfl, _, hlc, hcap, hel, hi, _⟩
  · exact ⟨[], ⟨by simp, fun x hx => by simp at hx⟩, by simp [dOf]⟩
  · simp only [DataW.weights, hu, List.mem_cons, List.mem_append] at hw
    have h0 := hw _ (.inl rfl)
    have key : ∀ i, i < elems.length → ∃ y : α, ∃ z, elems[i]? = some z ∧ Pr y ∧ dOf z.1 = g y := by
      intro i hil
      have := hi i (by omega)
      rw [List.getElem?_eq_getElem hil] at this
      obtain ⟨cs', h4, h5⟩ := Option.bind_eq_some_iff.1 this
      obtain ⟨y, h6, h7⟩ := h n cs' _ h5 fun m hm => hw m (.inr (.inl (weightsAll_mem (List.mem_map.2 ⟨_, List.getElem_mem hil, rfl⟩) m hm)))
      exact ⟨y, _, List.getElem?_eq_getElem hil, h6, h7⟩
    have conv : ∀ l : List (DataW H × List MemPlace), (∀ z ∈ l, ∃ y : α, Pr y ∧ dOf z.1 = g y) → ∃ ys : List α, ys.length = l.length ∧ (∀ y ∈ ys, Pr y) ∧ l.map (fun z => dOf z.1) = ys.map g := by
      intro l
      induction l with
      | nil => intro _; exact ⟨[], rfl, fun y hy => by simp at hy, rfl⟩
      | cons z r ih =>
        intro hz
        obtain ⟨ys, h1, h2, h3⟩ := ih fun u hu => hz u (by simp [hu])
        obtain ⟨y, h4, h5⟩ := hz z (by simp)
        refine ⟨y :: ys, by simp [h1], fun u hu => ?_, by simp [h3, h5]⟩
        rcases List.mem_cons.1 hu with rfl | hu
        · exact h4
        · exact h2 u hu
    obtain ⟨ys, h1, h2, h3⟩ := conv elems fun z hz => by
      obtain ⟨i, hiz⟩ := List.mem_iff_getElem?.1 hz
      obtain ⟨y, z', hz', h6, h7⟩ := key i (List.getElem?_eq_some_iff.1 hiz).1
      rw [hiz] at hz'; injection hz' with hz'; subst hz'
      exact ⟨y, h6, h7⟩
    refine ⟨ys, ⟨?_, h2⟩, ?_⟩
    · rw [h1, ← hb]
      refine Nat.le_trans ?_ h0
      rw [List.length_map, List.length_map]
      exact Nat.mul_le_mul_right _ (Nat.le_add_right _ _)
    · rw [dOf, dOfs_map, List.map_map, ← h3]; rfl
theorem rd_struct {t : TypeId} {ts : List TypeId} {Qs : List (D → Prop)} (ht : stypes P t = some ts) (h : RdAll enc P w ts Qs) : Rd enc P w t fun d => ∃ ds, AllQ ds Qs ∧ d = .agg (ds.flatMap D.cells) := fun fuel cs x hx hw => by
  obtain ⟨fs, hu, rfl⟩ := stypes_some ht
  obtain ⟨xs, n, hf, rfl, hl, hxl, hg⟩ := DataW.trod_struct hu hx
  simp only [DataW.weights, hu] at hw
  refine ⟨(xs.map (·.1)).map dOf, ?_, by rw [dOf, dCells_flat]⟩
  have key : ∀ (l : List Field) (xs : List (DataW H × List MemPlace)) (Qs : List (D → Prop)), RdAll enc P w (l.map (·.type)) Qs → xs.length = l.length → (∀ (i : Nat) (f : Field), l[i]? = some f → ∃ cs', DataW.trod enc P w 0 (fun _ => true) true n f.type cs' = xs[i]?) →
      (∀ m ∈ DataW.weightsEach P (l.map (·.type)) (xs.map (·.1)), m ≤ reachBytes) → AllQ ((xs.map (·.1)).map dOf) Qs := by
    intro l
    induction l with
    | nil =>
      intro xs Qs h hl _ _
      have : xs = [] := List.length_eq_zero_iff.1 (by simpa using hl)
      subst this
      cases Qs with
      | nil => exact True.intro
      | cons Q Qs => exact h.elim
    | cons f r ih =>
      intro xs Qs h hl hg hw
      cases xs with
      | nil => simp at hl
      | cons y ys =>
        cases Qs with
        | nil => exact h.elim
        | cons Q Qs =>
          obtain ⟨h1, h2⟩ := h
          obtain ⟨cs', hc⟩ := hg 0 f rfl
          simp only [List.map_cons, DataW.weightsEach, List.mem_append] at hw
          exact ⟨h1 n cs' y (by simpa using hc) fun m hm => hw m (.inl hm), ih ys Qs h2 (by simpa using hl) (fun i g hgi => by simpa using hg (i + 1) g (by simpa using hgi)) fun m hm => hw m (.inr hm)⟩
  exact key fs.toList xs Qs h (by simpa using hxl) (fun i f hfi => ⟨_, hg i f (by simpa using hfi)⟩) hw
theorem Rd.mono {t : TypeId} {Q R : D → Prop} (h : Rd enc P w t Q) (k : ∀ d, Q d → R d) : Rd enc P w t R := fun f c x hx hw => k _ (h f c x hx hw)
end
/-! ### The program's types -/
section
variable {H : Type} {enc : TypeId × Value → H} {w : World}
theorem rT3 : Rd enc PR w 3 fun d => ∃ n, d = I n := rd_int (by kernel_rfl)
theorem rT4 : Rd enc PR w 4 fun d => ∃ b, d = .bool b := rd_bool (by kernel_rfl)
theorem rT9 : Rd enc PR w 9 fun d => ∃ s : Bytes, s.length ≤ reachBytes ∧ d = .str s := rd_str (by kernel_rfl)
theorem allQ2 {ds : List D} {A B : D → Prop} (h : AllQ ds [A, B]) : ∃ a b, A a ∧ B b ∧ ds = [a, b] := by
  match ds, h with
  | [a, b], ⟨h1, h2, _⟩ => exact ⟨a, b, h1, h2, rfl⟩
theorem allQ3 {ds : List D} {A B C : D → Prop} (h : AllQ ds [A, B, C]) : ∃ a b c, A a ∧ B b ∧ C c ∧ ds = [a, b, c] := by
  match ds, h with
  | [a, b, c], ⟨h1, h2, h3, _⟩ => exact ⟨a, b, c, h1, h2, h3, rfl⟩
theorem allQ7 {ds : List D} {A B C E F G K : D → Prop} (h : AllQ ds [A, B, C, E, F, G, K]) : ∃ a b c e f g k, A a ∧ B b ∧ C c ∧ E e ∧ F f ∧ G g ∧ K k ∧ ds = [a, b, c, e, f, g, k] := by
  match ds, h with
  | [a, b, c, e, f, g, k], ⟨h1, h2, h3, h4, h5, h6, h7, _⟩ => exact ⟨a, b, c, e, f, g, k, h1, h2, h3, h4, h5, h6, h7, rfl⟩
theorem rT78 : Rd enc PR w 78 fun d => ∃ x : Span, True ∧ d = x.d :=
  (rd_struct (ts := [3, 3]) (by kernel_rfl) (rTC rT3 (rTC rT3 rTN))).mono fun d ⟨ds, h, e⟩ => by
    obtain ⟨a, b, ⟨n, rfl⟩, ⟨m, rfl⟩, rfl⟩ := allQ2 h
    exact ⟨⟨n, m⟩, True.intro, e⟩
theorem rT38 : Rd enc PR w 38 fun d => ∃ x : Ver, d = x.d :=
  (rd_struct (ts := [3, 3, 3]) (by kernel_rfl) (rTC rT3 (rTC rT3 (rTC rT3 rTN)))).mono fun d ⟨ds, h, e⟩ => by
    obtain ⟨a, b, c, ⟨n, rfl⟩, ⟨m, rfl⟩, ⟨k, rfl⟩, rfl⟩ := allQ3 h
    exact ⟨⟨n, m, k⟩, e⟩
theorem rT49 : Rd enc PR w 49 fun d => ∃ l : List Span, (l.length * 16 ≤ reachBytes ∧ ∀ x ∈ l, True) ∧ d = setD l := rd_slice 16 (by kernel_rfl) (by kernel_rfl) rT78
theorem rT51 : Rd enc PR w 51 fun d => ∃ q : Req, True ∧ d = q.d :=
  (rd_struct (ts := [9, 49]) (by kernel_rfl) (rTC rT9 (rTC rT49 rTN))).mono fun d ⟨ds, h, e⟩ => by
    obtain ⟨a, b, ⟨n, _, rfl⟩, ⟨l, _, rfl⟩, rfl⟩ := allQ2 h
    exact ⟨⟨n, l⟩, True.intro, e⟩
theorem rT26 : Rd enc PR w 26 fun d => ∃ l : List Req, (l.length * 40 ≤ reachBytes ∧ ∀ x ∈ l, True) ∧ d = reqsD l := rd_slice 40 (by kernel_rfl) (by kernel_rfl) rT51
def Rls.Bd (r : Rls) : Prop := r.reqs.length * 40 ≤ reachBytes
theorem rT40 : Rd enc PR w 40 fun d => ∃ r : Rls, r.Bd ∧ d = r.d :=
  (rd_struct (ts := [9, 38, 26, 9, 9, 9, 4]) (by kernel_rfl) (rTC rT9 (rTC rT38 (rTC rT26 (rTC rT9 (rTC rT9 (rTC rT9 (rTC rT4 rTN)))))))).mono fun d ⟨ds, h, e⟩ => by
    obtain ⟨a, b, c, x, y, z, u, ⟨p, _, rfl⟩, ⟨v, rfl⟩, ⟨l, ⟨hl, _⟩, rfl⟩, ⟨s1, _, rfl⟩, ⟨s2, _, rfl⟩, ⟨s3, _, rfl⟩, ⟨yk, rfl⟩, rfl⟩ := allQ7 h
    exact ⟨⟨p, v, l, s1, s2, s3, yk⟩, hl, e⟩
theorem rT22 : Rd enc PR w 22 fun d => ∃ l : List Rls, (l.length * 120 ≤ reachBytes ∧ ∀ x ∈ l, x.Bd) ∧ d = relsD l := rd_slice 120 (by kernel_rfl) (by kernel_rfl) rT40
def Idx.Bd (x : Idx) : Prop := x.rels.length * 120 ≤ reachBytes ∧ ∀ r ∈ x.rels, r.Bd
theorem rT25 : Rd enc PR w 25 fun d => ∃ x : Idx, x.Bd ∧ d = x.d :=
  (rd_struct (ts := [22, 23]) (by kernel_rfl) (rTC rT22 (rTC (rd_list (e := 233) (by kernel_rfl)) rTN))).mono fun d ⟨ds, h, e⟩ => by
    obtain ⟨a, b, ⟨l, hl, rfl⟩, ⟨i, rfl⟩, rfl⟩ := allQ2 h
    exact ⟨⟨l, i⟩, hl, e⟩
end
end Go.Pm

namespace Go.Pm
open Go.ChangeShapes Go.WideShapes Go.RowKit
section
variable {H : Type} {enc : TypeId × Value → H} {P : Program} {w : World} {sp : Nat → Bool} {held : Bool}
theorem okWide_slice {r : Reach} {b : Nat} {t e : TypeId} {v : Value} (hu : P.underlying t = some (.slice e)) (h : Value.okWide P w r b t v) : v.cells = #[v] := by
  unfold Value.okWide at h
  rw [hu] at h
  cases v with
  | agg cs => simp [Cell.okWide, Cell.ok, hu] at h
  | _ => rfl
theorem arg_den {S : List TypeId} (hS : plainB P S = true) {t : TypeId} (ht : t ∈ S) {r : Reach} {b : Nat} {v : Value} (hv : Value.okWide P w r b t v) {d : DataW H} {ps : List MemPlace} (h : DataW.Trod enc P w 0 sp held t v d ps) : Den (fun _ _ => False) w (dOf d) v := by
  obtain ⟨fuel, hf⟩ := h
  have hR := (rowD_den hS fuel t ht _ _ hf).1
  have one : ∀ {x : D} {u : Value}, RowD w [x] [u] → Den (fun _ _ => False) w x u := fun h => h.den 0 _ _ rfl rfl
  have hs := List.all_eq_true.1 hS t ht
  split at hs
  · rename_i hu
    obtain ⟨c, rfl⟩ := okWide_bool hu hv
    obtain ⟨c', h1, h2⟩ := DataW.trod_bool hu hf
    simp only [Prod.mk.injEq] at h2
    rw [h2.1] at hR ⊢
    rw [h1] at hR
    simp [Value.cells] at h1; subst h1
    simp only [dOf, D.cells] at hR ⊢; exact one hR
  · rename_i k hu
    obtain ⟨c, rfl, _⟩ := open_int hu hv ⟨fuel, hf⟩
    obtain ⟨c', h1, h2, _⟩ := DataW.trod_int hu hf
    simp only [Prod.mk.injEq] at h2
    rw [h2.1] at hR ⊢
    rw [h1] at hR
    simp [Value.cells] at h1; subst h1
    simp only [dOf, D.cells] at hR ⊢; exact one hR
  · rename_i hu
    obtain ⟨c, rfl, _⟩ := Go.ChangeMaps.open_string hu hv ⟨fuel, hf⟩
    obtain ⟨c', h1, h2, _⟩ := DataW.trod_string hu hf
    simp only [Prod.mk.injEq] at h2
    rw [h2.1] at hR ⊢
    rw [h1] at hR
    simp [Value.cells] at h1; subst h1
    simp only [dOf, D.cells] at hR ⊢; exact one hR
  · rename_i e hu
    rw [okWide_slice hu hv] at hR hf
    rcases DataW.trod_slice hu hf with ⟨h1, h2⟩ | ⟨a, len, cap, elems, rest, n, _, h1, h2, _⟩
    · simp only [Prod.mk.injEq] at h2
      rw [h2.1] at hR ⊢
      simp only [dOf, D.cells] at hR ⊢; exact one hR
    · simp only [Prod.mk.injEq] at h2
      rw [h2.1] at hR ⊢
      simp only [dOf, D.cells] at hR ⊢; exact one hR
  · rename_i fs hu
    unfold Value.okWide at hv
    rw [hu] at hv
    obtain ⟨cs, rfl, _, _⟩ := hv
    obtain ⟨xs, n, _, h2, _⟩ := DataW.trod_struct hu hf
    simp only [Prod.mk.injEq] at h2
    rw [h2.1] at hR ⊢
    simp only [dOf, D.cells, Value.cells] at hR ⊢
    have := Den.agg _ cs.toList hR.len hR.one fun j x hx v hv => hR.den j x v hx hv
    simpa using this
  · cases hs
end
/-- The plain types that the laws' arguments are made of. -/
def argS : List TypeId := [3, 4, 9, 22, 23, 25, 26, 27, 38, 40, 49, 51, 54, 78, 228, 229, 230, 231, 233, 235, 236, 237, 239, 241, 243, 245, 247, 249, 251]
def E0 (W : World) : Env := ⟨W, fun _ => False, fun _ _ => False, ⟨fun _ => none, fun _ => none⟩⟩
theorem maxLen_cell {W : World} (h : W.ShapedOpen PR) : ∃ m, W.cell? ⟨0, 0, none⟩ = some (.int .i64 m) :=
  Go.Proofs.cell_of_shapedOpen_int (t := 3) (zero := #[.int .i64 0]) h (of_decide_eq_true (by kernel_rfl)) (by kernel_rfl) rfl (by kernel_rfl) (by kernel_rfl) (by kernel_rfl)
theorem gok0 {W : World} (h : W.ShapedOpen PR) : GokE (E0 W) := by
  intro e he
  simp only [gTab, List.mem_singleton] at he
  subst he
  obtain ⟨m, hm⟩ := maxLen_cell h
  unfold World.cell? at hm
  split at hm
  · rename_i c t fz hb
    simp at hm
    refine ⟨(Array.getElem?_eq_some_iff.1 hb).1, fun h => h, fun o h => h, _, hb, c, t, fz, m, rfl, ?_⟩
    exact hm
  · cases hm
theorem calls_of {f : FuncId} {ds : List D} (c : Fn PR f (ds.map PV.d) [] [.d (.bool true)] []) {W : World} {args : Array Value} (hsz : args.size = ds.length) (hd : ∀ (i : Nat) (d : D) (v : Value), ds[i]? = some d → args[i]? = some v → Den (fun _ _ => False) W d v) (hsh : W.ShapedOpen PR) :
    Calls PR f args W fun e W' => e = .returned (.bool true) ∧ Below W.heap.size W W' := by
  have hM : ∀ b o, MM (E0 W) ⟨fun _ => none, fun _ => none⟩ (St.of (ds.map PV.d) []) b o → False := by
    intro b o h
    rcases h with h | ⟨x, ob, hx, _⟩
    · exact h
    · cases hx
  have hr : Rel (E0 W) ⟨fun _ => none, fun _ => none⟩ (St.of (ds.map PV.d) []) ⟨args, []⟩ W := by
    refine ⟨?_, rfl, fun i p hi => ?_, fun x ob hx => (by cases hx), fun x y ob ob' b hx => (by cases hx), fun x ob b hx => (by cases hx), ⟨Nat.le_refl _, rfl, rfl, rfl, fun _ _ _ => rfl, gok0 hsh⟩, fun b o h => h.elim, fun x hx => ⟨rfl, rfl⟩⟩
    · show args.size = (ds.map PV.d).length
      rw [hsz, List.length_map]
    · rw [of_sl, List.getElem?_map] at hi
      obtain ⟨d, hdi, rfl⟩ := Option.map_eq_some_iff.1 hi
      have hil := (List.getElem?_eq_some_iff.1 hdi).1
      have hv : args[i]? = some (args[i]'(by omega)) := Array.getElem?_eq_getElem _
      refine ⟨_, hv, .d ((hd i d _ hdi hv).mono (Same.refl _ _) fun b o _ h => (hM b o h).elim)⟩
  refine (c (E0 W) _ args hr).mono fun e W' ⟨g', vs, he, hr'⟩ => ?_
  have hs : vs.size = 1 := hr'.size
  obtain ⟨v, hv, hvr⟩ := hr'.slots 0 _ rfl
  have hvb : v = .bool true := by
    cases hvr with
    | d h => cases h; rfl
  refine ⟨?_, hr'.fr.os, hr'.fr.tape, hr'.fr.output, hr'.fr.size, fun k hk => hr'.fr.block k hk (fun h => h)⟩
  rw [he]
  match vs, hs, hv with
  | ⟨[u]⟩, _, hv =>
    simp at hv; subst hv; subst hvb; rfl
end Go.Pm

namespace Go.Pm
open Go.Proofs

set_option maxRecDepth 10000 in
theorem c96 (s : Bytes) : Fn PR 96 [.d (.str s)] [] [.d (.bool (decide (s.length = 0) || decide (s.length = 32)))] [] := by
 refine fn_of_awp Tryz.func96 rfl (N := 11) rfl ?_
 refine xsr ?_
 refine xlz (o_as rfl rfl rfl) ?_
 refine lendF ?_
 refine xsr ?_
 refine xlz (o_mv rfl rfl rfl) ?_
 refine xlz (op_lenS rfl rfl rfl ty9) ?_
 refine xlz (op_binI rfl rfl rfl rfl rfl (.inl rfl) rfl) ?_
 refine xlz (o_mv rfl rfl rfl) ?_
 refine lsplit rfl (fun hg1 => ?_) (fun hg1 => ?_)
 ·
  refine lg (o_mv rfl rfl rfl) rfl hg1 rfl rfl ?_
  refine lg (op_lenS rfl rfl rfl ty9) rfl hg1 rfl rfl ?_
  refine lg (op_binI rfl rfl rfl rfl rfl (.inl rfl) rfl) rfl hg1 rfl rfl ?_
  refine xlz (o_pF rfl rfl (g01 hg1) rfl rfl) ?_
  refine xlz (o_as rfl rfl rfl) ?_
  refine lendF ?_
  refine awp_ret ?_
  refine ⟨[_], ⟨rfl, trivial⟩, ?_⟩
  exact ent_b rfl (by rw [Bool.eq_iff_iff]; simp_all <;> omega)
 ·
  refine lskip rfl hg1 rfl ?_
  refine lskip rfl hg1 rfl ?_
  refine lskip rfl hg1 rfl ?_
  refine xlz (o_pT rfl rfl (g00 hg1) rfl rfl) ?_
  refine xlz (o_as rfl rfl rfl) ?_
  refine lendF ?_
  refine awp_ret ?_
  refine ⟨[_], ⟨rfl, trivial⟩, ?_⟩
  exact ent_b rfl (by rw [Bool.eq_iff_iff]; simp_all <;> omega)

set_option maxRecDepth 10000 in
theorem c87 (v : Ver) (hv : v.ok = true) : Fn PR 87 [.d v.d] [] [.d (I (placeOf v).1)] [] := by
 have hb := ok_bounds hv
 refine fn_of_awp Tryz.func87 rfl (N := 9) rfl ?_
 refine xsr ?_
 refine xlz (op_box rfl rfl (by decide) rfl rfl) ?_
 refine xlz (o_as rfl rfl rfl) ?_
 refine lendF ?_
 refine xsr ?_
 refine xlz (op_fieldP rfl rfl rfl fl38_1) ?_
 refine xlz (op_load1 rfl rfl rfl rfl ty3 rfl rfl) ?_
 refine xlz (o_mul rfl rfl rfl rfl (by first | omega | (simp; omega) | (simp at *; omega))) ?_
 refine xlz (op_fieldP rfl rfl rfl fl38_2) ?_
 refine xlz (op_load1 rfl rfl rfl rfl ty3 rfl rfl) ?_
 refine xlz (o_add rfl rfl rfl rfl (by first | omega | (simp; omega) | (simp at *; omega))) ?_
 refine xlz (o_as rfl rfl rfl) ?_
 refine lendF ?_
 refine awp_ret ?_
 refine ⟨[_], ⟨rfl, trivial⟩, ?_⟩
 exact ent_d1 rfl (by simp [placeOf, hv])

set_option maxRecDepth 10000 in
theorem c42 (a b : List Span) (ha : a.length < 4611686018427387904) : Fn PR 42 [.d (setD a), .d (setD b)] [] [.d (.bool (decide (a = b)))] [] := by
 refine fn_of_awp Tryz.func42 rfl (N := 26) rfl ?_
 refine xsr ?_
 refine xlz (o_as rfl rfl rfl) ?_
 refine lendF ?_
 refine awp_seq ?_
 refine xsr ?_
 refine xlz (o_mv rfl rfl rfl) ?_
 refine xlz (o_lenE (n := a.length) rfl rfl rfl ty49 (by simp)) ?_
 refine xlz (o_mv rfl rfl rfl) ?_
 refine xlz (o_lenE (n := b.length) rfl rfl rfl ty49 (by simp)) ?_
 refine xlz (op_binI rfl rfl rfl rfl rfl (.inl rfl) rfl) ?_
 refine lendF ?_
 refine awp_cond rfl rfl (fun hc1 => ?_) (fun hc1 => ?_)
 ·
  have hne : a.length ≠ b.length := by intro h; simp [h] at hc1
  refine xsr ?_
  refine xlz (o_as rfl rfl rfl) ?_
  refine lendF ?_
  refine awp_ret ?_
  refine ⟨[_], ⟨rfl, trivial⟩, ?_⟩
  exact ent_d1 rfl (by have : a ≠ b := (fun h => hne (by rw [h])); simp [this])
 ·
  have hlen : a.length = b.length := by have := hc1; simp at this; omega
  refine awp_skip ?_
  refine awp_seq ?_
  refine xsr ?_
  refine xlz (o_as rfl rfl rfl) ?_
  refine lendF ?_
  refine awp_block ?_
  refine awp_loop (fun i => ⟨26, [(5, .d (I (i : Nat))), (0, .d (setD a)), (1, .d (setD b))], []⟩) (fun i => a.length - i) (fun i => i ≤ a.length ∧ decide (a.drop i = b.drop i) = decide (a = b)) 0 ?_ ?_ ?_
  ·
   exact ent_k [] rfl rfl (xkc <| xkc <| xkc <| .nil) obs_nil rfl
  ·
   exact ⟨Nat.zero_le _, rfl⟩
  ·
   rintro i ⟨hi, hI⟩
   refine awp_seq ?_
   refine xsr ?_
   refine xlz (o_mv rfl rfl rfl) ?_
   refine xlz (o_mv rfl rfl rfl) ?_
   refine xlz (o_lenE (n := a.length) rfl rfl rfl ty49 (by simp)) ?_
   refine xlz (op_binI rfl rfl rfl rfl rfl (.inl rfl) rfl) ?_
   refine lendF ?_
   refine awp_cond rfl rfl (fun hc2 => ?_) (fun hc2 => ?_)
   ·
    obtain ⟨x, hn⟩ := rng_lt (l := a) (by simpa using hc2)
    have hlt := rng_le hn
    obtain ⟨y, hm⟩ : ∃ y, b[i]? = some y := ⟨_, List.getElem?_eq_getElem (show i < b.length by omega)⟩
    have hmem := List.mem_of_getElem? hn
    have hmem2 := List.mem_of_getElem? hm
    refine awp_skip ?_
    refine awp_seq ?_
    refine awp_block ?_
    refine xsr ?_
    refine xlz (o_mv rfl rfl rfl) ?_
    refine xlz (o_mv rfl rfl rfl) ?_
    refine xlz (o_ixN (i) rfl rfl rfl rfl ty49 (by first | rfl | simp | omega | (simp; omega)) hn ty78) ?_
    refine xlz (op_loadCA rfl rfl rfl ty78 rfl (xlb rfl)) ?_
    refine xlz (o_mv rfl rfl rfl) ?_
    refine xlz (o_mv rfl rfl rfl) ?_
    refine xlz (o_ixN (i) rfl rfl rfl rfl ty49 (by first | rfl | simp | omega | (simp; omega)) hm ty78) ?_
    refine xlz (op_loadCA rfl rfl rfl ty78 rfl (xlb rfl)) ?_
    refine xlz (op_eqlA rfl (.inr rfl) rfl rfl rfl rfl ty78 es78 rfl rfl eg78) ?_
    refine lend (fun _ => by kernel_rfl) ?_
    refine awp_cond rfl rfl (fun hc3 => ?_) (fun hc3 => ?_)
    ·
     refine xsr ?_
     refine xlz (o_as rfl rfl rfl) ?_
     refine lendF ?_
     refine awp_ret ?_
     refine ⟨[_], ⟨rfl, trivial⟩, ?_⟩
     exact ent_d1 rfl (by rw [← hI, drop_cons hn, drop_cons hm, cons_eq_iff]; simp_all [eqT_span])
    ·
     refine awp_skip ?_
     refine awp_region mixed ?_
     refine xlz (o_mv rfl rfl rfl) ?_
     refine xlz (o_add rfl rfl rfl rfl (by first | omega | (simp; omega) | (simp at *; omega))) ?_
     refine xlz (o_as rfl rfl rfl) ?_
     refine lendF ?_
     refine ⟨i + 1, ?_, ?_, ?_⟩
     ·
      exact ⟨rng_le hn, by rw [← hI, drop_cons hn, drop_cons hm, cons_eq_iff]; simp_all [eqT_span]⟩
     ·
      exact ent_k [] rfl rfl (xkc <| xkc <| xkc <| .nil) obs_nil rfl
     ·
      omega
   ·
    obtain rfl := rng_ge (l := a) (by simpa using hc2) hi
    refine awp_exit ?_
    refine xsr ?_
    refine xlz (o_as rfl rfl rfl) ?_
    refine lendF ?_
    refine awp_ret ?_
    refine ⟨[_], ⟨rfl, trivial⟩, ?_⟩
    exact ent_d1 rfl (by rw [← hI, List.drop_length, hlen, List.drop_length]; simp)

set_option maxRecDepth 10000 in
theorem c74 (a b : List Req) (ha : a.length < 4611686018427387904) (hs : ∀ q ∈ a, q.set.length < 4611686018427387904) : Fn PR 74 [.d (reqsD a), .d (reqsD b)] [] [.d (.bool (decide (a = b)))] [] := by
 refine fn_of_awp Tryz.func74 rfl (N := 42) rfl ?_
 refine xsr ?_
 refine xlz (o_as rfl rfl rfl) ?_
 refine lendF ?_
 refine awp_seq ?_
 refine xsr ?_
 refine xlz (o_mv rfl rfl rfl) ?_
 refine xlz (o_lenE (n := a.length) rfl rfl rfl ty26 (by simp)) ?_
 refine xlz (o_mv rfl rfl rfl) ?_
 refine xlz (o_lenE (n := b.length) rfl rfl rfl ty26 (by simp)) ?_
 refine xlz (op_binI rfl rfl rfl rfl rfl (.inl rfl) rfl) ?_
 refine lendF ?_
 refine awp_cond rfl rfl (fun hc1 => ?_) (fun hc1 => ?_)
 ·
  have hne : a.length ≠ b.length := by intro h; simp [h] at hc1
  refine xsr ?_
  refine xlz (o_as rfl rfl rfl) ?_
  refine lendF ?_
  refine awp_ret ?_
  refine ⟨[_], ⟨rfl, trivial⟩, ?_⟩
  exact ent_d1 rfl (by have : a ≠ b := (fun h => hne (by rw [h])); simp [this])
 ·
  have hlen : a.length = b.length := by have := hc1; simp at this; omega
  refine awp_skip ?_
  refine awp_seq ?_
  refine xsr ?_
  refine xlz (o_as rfl rfl rfl) ?_
  refine lendF ?_
  refine awp_block ?_
  refine awp_loop (fun i => ⟨42, [(5, .d (I (i : Nat))), (0, .d (reqsD a)), (1, .d (reqsD b))], []⟩) (fun i => a.length - i) (fun i => i ≤ a.length ∧ decide (a.drop i = b.drop i) = decide (a = b)) 0 ?_ ?_ ?_
  ·
   exact ent_k [] rfl rfl (xkc <| xkc <| xkc <| .nil) obs_nil rfl
  ·
   exact ⟨Nat.zero_le _, rfl⟩
  ·
   rintro i ⟨hi, hI⟩
   refine awp_seq ?_
   refine xsr ?_
   refine xlz (o_mv rfl rfl rfl) ?_
   refine xlz (o_mv rfl rfl rfl) ?_
   refine xlz (o_lenE (n := a.length) rfl rfl rfl ty26 (by simp)) ?_
   refine xlz (op_binI rfl rfl rfl rfl rfl (.inl rfl) rfl) ?_
   refine lendF ?_
   refine awp_cond rfl rfl (fun hc2 => ?_) (fun hc2 => ?_)
   ·
    obtain ⟨x, hn⟩ := rng_lt (l := a) (by simpa using hc2)
    have hlt := rng_le hn
    obtain ⟨y, hm⟩ : ∃ y, b[i]? = some y := ⟨_, List.getElem?_eq_getElem (show i < b.length by omega)⟩
    have hmem := List.mem_of_getElem? hn
    have hmem2 := List.mem_of_getElem? hm
    refine awp_skip ?_
    refine awp_seq ?_
    refine awp_block ?_
    refine xsr ?_
    refine xlz (o_mv rfl rfl rfl) ?_
    refine xlz (o_mv rfl rfl rfl) ?_
    refine xlz (o_ixN (i) rfl rfl rfl rfl ty26 (by first | rfl | simp | omega | (simp; omega)) hn ty51) ?_
    refine xlz (op_fieldC rfl rfl rfl fl51_0) ?_
    refine xlz (op_loadC1 rfl rfl rfl ty9 rfl rfl) ?_
    refine xlz (o_mv rfl rfl rfl) ?_
    refine xlz (o_mv rfl rfl rfl) ?_
    refine xlz (o_ixN (i) rfl rfl rfl rfl ty26 (by first | rfl | simp | omega | (simp; omega)) hm ty51) ?_
    refine xlz (op_fieldC rfl rfl rfl fl51_0) ?_
    refine xlz (op_loadC1 rfl rfl rfl ty9 rfl rfl) ?_
    refine xlz (op_binS rfl rfl rfl rfl rfl (fun h => by first | cases h | (simp; omega)) rfl) ?_
    refine xlz (o_mv rfl rfl rfl) ?_
    refine lsplit rfl (fun hg3 => ?_) (fun hg3 => ?_)
    ·
     refine lg (o_mv rfl rfl rfl) rfl hg3 rfl rfl ?_
     refine lg (o_mv rfl rfl rfl) rfl hg3 rfl rfl ?_
     refine lg (o_ixN (i) rfl rfl rfl rfl ty26 (by first | rfl | simp | omega | (simp; omega)) hn ty51) rfl hg3 rfl rfl ?_
     refine lg (op_fieldC rfl rfl rfl fl51_1) rfl hg3 rfl rfl ?_
     refine lg (op_loadC1 rfl rfl rfl ty49 rfl rfl) rfl hg3 rfl rfl ?_
     refine lg (o_mv rfl rfl rfl) rfl hg3 rfl rfl ?_
     refine lg (o_mv rfl rfl rfl) rfl hg3 rfl rfl ?_
     refine lg (o_ixN (i) rfl rfl rfl rfl ty26 (by first | rfl | simp | omega | (simp; omega)) hm ty51) rfl hg3 rfl rfl ?_
     refine lg (op_fieldC rfl rfl rfl fl51_1) rfl hg3 rfl rfl ?_
     refine lg (op_loadC1 rfl rfl rfl ty49 rfl rfl) rfl hg3 rfl rfl ?_
     refine lg (o_call (c42 x.set y.set (hs x hmem)) rfl rfl rfl ca42 rfl rfl) rfl hg3 rfl rfl ?_
     refine lg (op_not rfl rfl rfl) rfl hg3 rfl rfl ?_
     refine xlz (o_pF rfl rfl (g01 hg3) rfl rfl) ?_
     refine lend (fun _ => by kernel_rfl) ?_
     refine awp_cond rfl rfl (fun hc4 => ?_) (fun hc4 => ?_)
     ·
      refine xsr ?_
      refine xlz (o_as rfl rfl rfl) ?_
      refine lendF ?_
      refine awp_ret ?_
      refine ⟨[_], ⟨rfl, trivial⟩, ?_⟩
      first | exact ent_d1 rfl (by rw [← hI, drop_cons hn, drop_cons hm, cons_eq_iff]; simp_all [req_eq]) | exact ent_d1 rfl (by rw [← hI, List.drop_length, hlen, List.drop_length]; simp)
     ·
      refine awp_skip ?_
      refine awp_region mixed ?_
      refine xlz (o_mv rfl rfl rfl) ?_
      refine xlz (o_add rfl rfl rfl rfl (by first | omega | (simp; omega) | (simp at *; omega))) ?_
      refine xlz (o_as rfl rfl rfl) ?_
      refine lendF ?_
      refine ⟨i + 1, ?_, ?_, ?_⟩
      ·
       exact ⟨rng_le hn, by rw [← hI, drop_cons hn, drop_cons hm, cons_eq_iff]; simp_all [req_eq]⟩
      ·
       exact ent_k [] rfl rfl (xkc <| xkc <| xkc <| .nil) obs_nil rfl
      ·
       omega
    ·
     refine lskip rfl hg3 rfl ?_
     refine lskip rfl hg3 rfl ?_
     refine lskip rfl hg3 rfl ?_
     refine lskip rfl hg3 rfl ?_
     refine lskip rfl hg3 rfl ?_
     refine lskip rfl hg3 rfl ?_
     refine lskip rfl hg3 rfl ?_
     refine lskip rfl hg3 rfl ?_
     refine lskip rfl hg3 rfl ?_
     refine lskip rfl hg3 rfl ?_
     refine lskip rfl hg3 rfl ?_
     refine lskip rfl hg3 rfl ?_
     refine xlz (o_pT rfl rfl (g00 hg3) rfl rfl) ?_
     refine lend (fun _ => by kernel_rfl) ?_
     refine awp_condT rfl rfl rfl ?_
     refine xsr ?_
     refine xlz (o_as rfl rfl rfl) ?_
     refine lendF ?_
     refine awp_ret ?_
     refine ⟨[_], ⟨rfl, trivial⟩, ?_⟩
     first | exact ent_d1 rfl (by rw [← hI, drop_cons hn, drop_cons hm, cons_eq_iff]; simp_all [req_eq]) | exact ent_d1 rfl (by rw [← hI, List.drop_length, hlen, List.drop_length]; simp)
   ·
    obtain rfl := rng_ge (l := a) (by simpa using hc2) hi
    refine awp_exit ?_
    refine xsr ?_
    refine xlz (o_as rfl rfl rfl) ?_
    refine lendF ?_
    refine awp_ret ?_
    refine ⟨[_], ⟨rfl, trivial⟩, ?_⟩
    first | exact ent_d1 rfl (by rw [← hI, drop_cons hn, drop_cons hm, cons_eq_iff]; simp_all [req_eq]) | exact ent_d1 rfl (by rw [← hI, List.drop_length, hlen, List.drop_length]; simp)

set_option maxRecDepth 10000 in
theorem c21 (a b : Rls) (ha : a.reqs.length < 4611686018427387904) (hs : ∀ q ∈ a.reqs, q.set.length < 4611686018427387904) : Fn PR 21 [.d a.d, .d b.d] [] [.d (.bool (decide (a = b)))] [] := by
 refine fn_of_awp Tryz.func21 rfl (N := 52) rfl ?_
 refine xsr ?_
 refine xlz (op_box rfl rfl (by decide) rfl rfl) ?_
 refine xlz (op_box rfl rfl (by decide) rfl rfl) ?_
 refine xlz (o_as rfl rfl rfl) ?_
 refine lendF ?_
 refine xsr ?_
 refine xlz (op_fieldP rfl rfl rfl fl40_0) ?_
 refine xlz (op_load1 rfl rfl rfl rfl ty9 rfl rfl) ?_
 refine xlz (op_fieldP rfl rfl rfl fl40_0) ?_
 refine xlz (op_load1 rfl rfl rfl rfl ty9 rfl rfl) ?_
 refine xlz (op_binS rfl rfl rfl rfl rfl (fun h => by first | cases h | (simp; omega)) rfl) ?_
 refine xlz (o_mv rfl rfl rfl) ?_
 refine lsplit rfl (fun hg1 => ?_) (fun hg1 => ?_)
 ·
  refine lg (op_fieldP rfl rfl rfl fl40_1) rfl hg1 rfl rfl ?_
  refine lg (o_ldA rfl rfl rfl rfl ty38 rfl (xlb rfl) rfl) rfl hg1 rfl rfl ?_
  refine lg (op_fieldP rfl rfl rfl fl40_1) rfl hg1 rfl rfl ?_
  refine lg (o_ldA rfl rfl rfl rfl ty38 rfl (xlb rfl) rfl) rfl hg1 rfl rfl ?_
  refine lg (op_eqlA rfl (.inl rfl) rfl rfl rfl rfl ty38 es38 rfl rfl eg38) rfl hg1 rfl rfl ?_
  refine xlz (o_pT rfl rfl (g11 hg1) rfl rfl) ?_
  refine xlz (o_mv rfl rfl rfl) ?_
  refine lsplit rfl (fun hg2 => ?_) (fun hg2 => ?_)
  ·
   refine lg (op_fieldP rfl rfl rfl fl40_3) rfl hg2 rfl rfl ?_
   refine lg (op_load1 rfl rfl rfl rfl ty9 rfl rfl) rfl hg2 rfl rfl ?_
   refine lg (op_fieldP rfl rfl rfl fl40_3) rfl hg2 rfl rfl ?_
   refine lg (op_load1 rfl rfl rfl rfl ty9 rfl rfl) rfl hg2 rfl rfl ?_
   refine lg (op_binS rfl rfl rfl rfl rfl (fun h => by first | cases h | (simp; omega)) rfl) rfl hg2 rfl rfl ?_
   refine xlz (o_pT rfl rfl (g11 hg2) rfl rfl) ?_
   refine xlz (o_mv rfl rfl rfl) ?_
   refine lsplit rfl (fun hg3 => ?_) (fun hg3 => ?_)
   ·
    refine lg (op_fieldP rfl rfl rfl fl40_4) rfl hg3 rfl rfl ?_
    refine lg (op_load1 rfl rfl rfl rfl ty9 rfl rfl) rfl hg3 rfl rfl ?_
    refine lg (op_fieldP rfl rfl rfl fl40_4) rfl hg3 rfl rfl ?_
    refine lg (op_load1 rfl rfl rfl rfl ty9 rfl rfl) rfl hg3 rfl rfl ?_
    refine lg (op_binS rfl rfl rfl rfl rfl (fun h => by first | cases h | (simp; omega)) rfl) rfl hg3 rfl rfl ?_
    refine xlz (o_pT rfl rfl (g11 hg3) rfl rfl) ?_
    refine xlz (o_mv rfl rfl rfl) ?_
    refine lsplit rfl (fun hg4 => ?_) (fun hg4 => ?_)
    ·
     refine lg (op_fieldP rfl rfl rfl fl40_5) rfl hg4 rfl rfl ?_
     refine lg (op_load1 rfl rfl rfl rfl ty9 rfl rfl) rfl hg4 rfl rfl ?_
     refine lg (op_fieldP rfl rfl rfl fl40_5) rfl hg4 rfl rfl ?_
     refine lg (op_load1 rfl rfl rfl rfl ty9 rfl rfl) rfl hg4 rfl rfl ?_
     refine lg (op_binS rfl rfl rfl rfl rfl (fun h => by first | cases h | (simp; omega)) rfl) rfl hg4 rfl rfl ?_
     refine xlz (o_pT rfl rfl (g11 hg4) rfl rfl) ?_
     refine xlz (o_mv rfl rfl rfl) ?_
     refine lsplit rfl (fun hg5 => ?_) (fun hg5 => ?_)
     ·
      refine lg (op_fieldP rfl rfl rfl fl40_6) rfl hg5 rfl rfl ?_
      refine lg (op_load1 rfl rfl rfl rfl ty4 rfl rfl) rfl hg5 rfl rfl ?_
      refine lg (op_fieldP rfl rfl rfl fl40_6) rfl hg5 rfl rfl ?_
      refine lg (op_load1 rfl rfl rfl rfl ty4 rfl rfl) rfl hg5 rfl rfl ?_
      refine lg (op_eqlB rfl (.inl rfl) rfl rfl rfl rfl ty4) rfl hg5 rfl rfl ?_
      refine xlz (o_pT rfl rfl (g11 hg5) rfl rfl) ?_
      refine xlz (o_mv rfl rfl rfl) ?_
      refine lsplit rfl (fun hg6 => ?_) (fun hg6 => ?_)
      ·
       refine lg (op_fieldP rfl rfl rfl fl40_2) rfl hg6 rfl rfl ?_
       refine lg (op_load1 rfl rfl rfl rfl ty26 rfl rfl) rfl hg6 rfl rfl ?_
       refine lg (op_fieldP rfl rfl rfl fl40_2) rfl hg6 rfl rfl ?_
       refine lg (op_load1 rfl rfl rfl rfl ty26 rfl rfl) rfl hg6 rfl rfl ?_
       refine lg (o_call (c74 a.reqs b.reqs ha hs) rfl rfl rfl ca74 rfl rfl) rfl hg6 rfl rfl ?_
       refine xlz (o_pT rfl rfl (g11 hg6) rfl rfl) ?_
       refine xlz (o_as rfl rfl rfl) ?_
       refine lendF ?_
       refine awp_ret ?_
       refine ⟨[_], ⟨rfl, trivial⟩, ?_⟩
       exact ent_d1 rfl (by rw [rls_eq]; simp_all [eqDs_ver])
      ·
       refine lskip rfl hg6 rfl ?_
       refine lskip rfl hg6 rfl ?_
       refine lskip rfl hg6 rfl ?_
       refine lskip rfl hg6 rfl ?_
       refine lskip rfl hg6 rfl ?_
       refine xlz (o_pF rfl rfl (g10 hg6) rfl rfl) ?_
       refine xlz (o_as rfl rfl rfl) ?_
       refine lendF ?_
       refine awp_ret ?_
       refine ⟨[_], ⟨rfl, trivial⟩, ?_⟩
       exact ent_d1 rfl (by rw [rls_eq]; simp_all [eqDs_ver])
     ·
      refine lskip rfl hg5 rfl ?_
      refine lskip rfl hg5 rfl ?_
      refine lskip rfl hg5 rfl ?_
      refine lskip rfl hg5 rfl ?_
      refine lskip rfl hg5 rfl ?_
      refine xlz (o_pF rfl rfl (g10 hg5) rfl rfl) ?_
      refine xlz (o_mv rfl rfl rfl) ?_
      refine lskip rfl rfl rfl ?_
      refine lskip rfl rfl rfl ?_
      refine lskip rfl rfl rfl ?_
      refine lskip rfl rfl rfl ?_
      refine lskip rfl rfl rfl ?_
      refine xlz (o_pF rfl rfl rfl rfl rfl) ?_
      refine xlz (o_as rfl rfl rfl) ?_
      refine lendF ?_
      refine awp_ret ?_
      refine ⟨[_], ⟨rfl, trivial⟩, ?_⟩
      exact ent_d1 rfl (by rw [rls_eq]; simp_all [eqDs_ver])
    ·
     refine lskip rfl hg4 rfl ?_
     refine lskip rfl hg4 rfl ?_
     refine lskip rfl hg4 rfl ?_
     refine lskip rfl hg4 rfl ?_
     refine lskip rfl hg4 rfl ?_
     refine xlz (o_pF rfl rfl (g10 hg4) rfl rfl) ?_
     refine xlz (o_mv rfl rfl rfl) ?_
     refine lskip rfl rfl rfl ?_
     refine lskip rfl rfl rfl ?_
     refine lskip rfl rfl rfl ?_
     refine lskip rfl rfl rfl ?_
     refine lskip rfl rfl rfl ?_
     refine xlz (o_pF rfl rfl rfl rfl rfl) ?_
     refine xlz (o_mv rfl rfl rfl) ?_
     refine lskip rfl rfl rfl ?_
     refine lskip rfl rfl rfl ?_
     refine lskip rfl rfl rfl ?_
     refine lskip rfl rfl rfl ?_
     refine lskip rfl rfl rfl ?_
     refine xlz (o_pF rfl rfl rfl rfl rfl) ?_
     refine xlz (o_as rfl rfl rfl) ?_
     refine lendF ?_
     refine awp_ret ?_
     refine ⟨[_], ⟨rfl, trivial⟩, ?_⟩
     exact ent_d1 rfl (by rw [rls_eq]; simp_all [eqDs_ver])
   ·
    refine lskip rfl hg3 rfl ?_
    refine lskip rfl hg3 rfl ?_
    refine lskip rfl hg3 rfl ?_
    refine lskip rfl hg3 rfl ?_
    refine lskip rfl hg3 rfl ?_
    refine xlz (o_pF rfl rfl (g10 hg3) rfl rfl) ?_
    refine xlz (o_mv rfl rfl rfl) ?_
    refine lskip rfl rfl rfl ?_
    refine lskip rfl rfl rfl ?_
    refine lskip rfl rfl rfl ?_
    refine lskip rfl rfl rfl ?_
    refine lskip rfl rfl rfl ?_
    refine xlz (o_pF rfl rfl rfl rfl rfl) ?_
    refine xlz (o_mv rfl rfl rfl) ?_
    refine lskip rfl rfl rfl ?_
    refine lskip rfl rfl rfl ?_
    refine lskip rfl rfl rfl ?_
    refine lskip rfl rfl rfl ?_
    refine lskip rfl rfl rfl ?_
    refine xlz (o_pF rfl rfl rfl rfl rfl) ?_
    refine xlz (o_mv rfl rfl rfl) ?_
    refine lskip rfl rfl rfl ?_
    refine lskip rfl rfl rfl ?_
    refine lskip rfl rfl rfl ?_
    refine lskip rfl rfl rfl ?_
    refine lskip rfl rfl rfl ?_
    refine xlz (o_pF rfl rfl rfl rfl rfl) ?_
    refine xlz (o_as rfl rfl rfl) ?_
    refine lendF ?_
    refine awp_ret ?_
    refine ⟨[_], ⟨rfl, trivial⟩, ?_⟩
    exact ent_d1 rfl (by rw [rls_eq]; simp_all [eqDs_ver])
  ·
   refine lskip rfl hg2 rfl ?_
   refine lskip rfl hg2 rfl ?_
   refine lskip rfl hg2 rfl ?_
   refine lskip rfl hg2 rfl ?_
   refine lskip rfl hg2 rfl ?_
   refine xlz (o_pF rfl rfl (g10 hg2) rfl rfl) ?_
   refine xlz (o_mv rfl rfl rfl) ?_
   refine lskip rfl rfl rfl ?_
   refine lskip rfl rfl rfl ?_
   refine lskip rfl rfl rfl ?_
   refine lskip rfl rfl rfl ?_
   refine lskip rfl rfl rfl ?_
   refine xlz (o_pF rfl rfl rfl rfl rfl) ?_
   refine xlz (o_mv rfl rfl rfl) ?_
   refine lskip rfl rfl rfl ?_
   refine lskip rfl rfl rfl ?_
   refine lskip rfl rfl rfl ?_
   refine lskip rfl rfl rfl ?_
   refine lskip rfl rfl rfl ?_
   refine xlz (o_pF rfl rfl rfl rfl rfl) ?_
   refine xlz (o_mv rfl rfl rfl) ?_
   refine lskip rfl rfl rfl ?_
   refine lskip rfl rfl rfl ?_
   refine lskip rfl rfl rfl ?_
   refine lskip rfl rfl rfl ?_
   refine lskip rfl rfl rfl ?_
   refine xlz (o_pF rfl rfl rfl rfl rfl) ?_
   refine xlz (o_mv rfl rfl rfl) ?_
   refine lskip rfl rfl rfl ?_
   refine lskip rfl rfl rfl ?_
   refine lskip rfl rfl rfl ?_
   refine lskip rfl rfl rfl ?_
   refine lskip rfl rfl rfl ?_
   refine xlz (o_pF rfl rfl rfl rfl rfl) ?_
   refine xlz (o_as rfl rfl rfl) ?_
   refine lendF ?_
   refine awp_ret ?_
   refine ⟨[_], ⟨rfl, trivial⟩, ?_⟩
   exact ent_d1 rfl (by rw [rls_eq]; simp_all [eqDs_ver])
 ·
  refine lskip rfl hg1 rfl ?_
  refine lskip rfl hg1 rfl ?_
  refine lskip rfl hg1 rfl ?_
  refine lskip rfl hg1 rfl ?_
  refine lskip rfl hg1 rfl ?_
  refine xlz (o_pF rfl rfl (g10 hg1) rfl rfl) ?_
  refine xlz (o_mv rfl rfl rfl) ?_
  refine lskip rfl rfl rfl ?_
  refine lskip rfl rfl rfl ?_
  refine lskip rfl rfl rfl ?_
  refine lskip rfl rfl rfl ?_
  refine lskip rfl rfl rfl ?_
  refine xlz (o_pF rfl rfl rfl rfl rfl) ?_
  refine xlz (o_mv rfl rfl rfl) ?_
  refine lskip rfl rfl rfl ?_
  refine lskip rfl rfl rfl ?_
  refine lskip rfl rfl rfl ?_
  refine lskip rfl rfl rfl ?_
  refine lskip rfl rfl rfl ?_
  refine xlz (o_pF rfl rfl rfl rfl rfl) ?_
  refine xlz (o_mv rfl rfl rfl) ?_
  refine lskip rfl rfl rfl ?_
  refine lskip rfl rfl rfl ?_
  refine lskip rfl rfl rfl ?_
  refine lskip rfl rfl rfl ?_
  refine lskip rfl rfl rfl ?_
  refine xlz (o_pF rfl rfl rfl rfl rfl) ?_
  refine xlz (o_mv rfl rfl rfl) ?_
  refine lskip rfl rfl rfl ?_
  refine lskip rfl rfl rfl ?_
  refine lskip rfl rfl rfl ?_
  refine lskip rfl rfl rfl ?_
  refine lskip rfl rfl rfl ?_
  refine xlz (o_pF rfl rfl rfl rfl rfl) ?_
  refine xlz (o_mv rfl rfl rfl) ?_
  refine lskip rfl rfl rfl ?_
  refine lskip rfl rfl rfl ?_
  refine lskip rfl rfl rfl ?_
  refine lskip rfl rfl rfl ?_
  refine lskip rfl rfl rfl ?_
  refine xlz (o_pF rfl rfl rfl rfl rfl) ?_
  refine xlz (o_as rfl rfl rfl) ?_
  refine lendF ?_
  refine awp_ret ?_
  refine ⟨[_], ⟨rfl, trivial⟩, ?_⟩
  exact ent_d1 rfl (by rw [rls_eq]; simp_all [eqDs_ver])

set_option maxRecDepth 10000 in
theorem c11 (l : List Req) (hl : l.length < 4611686018427387904) : Fn PR 11 [.d (reqsD l)] [] [.d (.bool (fewReqs l))] [] := by
 refine fn_of_awp Tryz.func11 rfl (N := 29) rfl ?_
 refine xsr ?_
 refine xlz (o_as rfl rfl rfl) ?_
 refine lendF ?_
 refine awp_seq ?_
 refine xsr ?_
 refine xlz (o_as rfl rfl rfl) ?_
 refine lendF ?_
 refine awp_block ?_
 refine awp_loop (fun i => ⟨29, [(3, .d (I (i : Nat))), (0, .d (reqsD l))], []⟩) (fun i => l.length - i) (fun i => i ≤ l.length ∧ (l.drop i).all fewReq = l.all fewReq) 0 ?_ ?_ ?_
 ·
  exact ent_k [] rfl rfl (xkc <| xkc <| .nil) obs_nil rfl
 ·
  exact ⟨Nat.zero_le _, rfl⟩
 ·
  rintro i ⟨hi, hI⟩
  refine awp_seq ?_
  refine xsr ?_
  refine xlz (o_mv rfl rfl rfl) ?_
  refine xlz (o_mv rfl rfl rfl) ?_
  refine xlz (o_lenE (n := l.length) rfl rfl rfl ty26 (by simp)) ?_
  refine xlz (op_binI rfl rfl rfl rfl rfl (.inl rfl) rfl) ?_
  refine lendF ?_
  refine awp_cond rfl rfl (fun hc1 => ?_) (fun hc1 => ?_)
  ·
   obtain ⟨x, hn⟩ := rng_lt (l := l) (by simpa using hc1)
   have hlt := rng_le hn
   have hmem := List.mem_of_getElem? hn
   refine awp_skip ?_
   refine awp_seq ?_
   refine awp_block ?_
   refine xsr ?_
   refine xlz (o_mv rfl rfl rfl) ?_
   refine xlz (o_mv rfl rfl rfl) ?_
   refine xlz (o_ixN (i) rfl rfl rfl rfl ty26 (by first | rfl | simp | omega | (simp; omega)) hn ty51) ?_
   refine xlz (op_fieldC rfl rfl rfl fl51_0) ?_
   refine xlz (op_loadC1 rfl rfl rfl ty9 rfl rfl) ?_
   refine xlz (op_lenS rfl rfl rfl ty9) ?_
   refine xlz (op_binI rfl rfl rfl rfl rfl (.inl rfl) rfl) ?_
   refine xlz (o_mv rfl rfl rfl) ?_
   refine lsplit rfl (fun hg2 => ?_) (fun hg2 => ?_)
   ·
    refine lg (o_mv rfl rfl rfl) rfl hg2 rfl rfl ?_
    refine lg (o_mv rfl rfl rfl) rfl hg2 rfl rfl ?_
    refine lg (o_ixN (i) rfl rfl rfl rfl ty26 (by first | rfl | simp | omega | (simp; omega)) hn ty51) rfl hg2 rfl rfl ?_
    refine lg (op_fieldC rfl rfl rfl fl51_1) rfl hg2 rfl rfl ?_
    refine lg (op_loadC1 rfl rfl rfl ty49 rfl rfl) rfl hg2 rfl rfl ?_
    refine lg (o_lenE (n := x.set.length) rfl rfl rfl ty49 (by simp)) rfl hg2 rfl rfl ?_
    refine lg (op_binI rfl rfl rfl rfl rfl (.inl rfl) rfl) rfl hg2 rfl rfl ?_
    refine xlz (o_pF rfl rfl (g01 hg2) rfl rfl) ?_
    refine lendF ?_
    refine awp_cond rfl rfl (fun hc3 => ?_) (fun hc3 => ?_)
    ·
     refine xsr ?_
     refine xlz (o_as rfl rfl rfl) ?_
     refine lendF ?_
     refine awp_ret ?_
     refine ⟨[_], ⟨rfl, trivial⟩, ?_⟩
     first | exact ent_d1 rfl (by unfold fewReqs; rw [← hI, drop_cons hn]; simp_all [fewReq] <;> (intros; omega)) | exact ent_d1 rfl (by unfold fewReqs; rw [← hI]; simp)
    ·
     refine awp_skip ?_
     refine awp_region mixed ?_
     refine xlz (o_mv rfl rfl rfl) ?_
     refine xlz (o_add rfl rfl rfl rfl (by first | omega | (simp; omega) | (simp at *; omega))) ?_
     refine xlz (o_as rfl rfl rfl) ?_
     refine lendF ?_
     refine ⟨i + 1, ?_, ?_, ?_⟩
     ·
      exact ⟨rng_le hn, by rw [← hI, drop_cons hn]; simp_all [fewReq]⟩
     ·
      exact ent_k [] rfl rfl (xkc <| xkc <| .nil) obs_nil rfl
     ·
      omega
   ·
    refine lskip rfl hg2 rfl ?_
    refine lskip rfl hg2 rfl ?_
    refine lskip rfl hg2 rfl ?_
    refine lskip rfl hg2 rfl ?_
    refine lskip rfl hg2 rfl ?_
    refine lskip rfl hg2 rfl ?_
    refine lskip rfl hg2 rfl ?_
    refine xlz (o_pT rfl rfl (g00 hg2) rfl rfl) ?_
    refine lendF ?_
    refine awp_condT rfl rfl rfl ?_
    refine xsr ?_
    refine xlz (o_as rfl rfl rfl) ?_
    refine lendF ?_
    refine awp_ret ?_
    refine ⟨[_], ⟨rfl, trivial⟩, ?_⟩
    first | exact ent_d1 rfl (by unfold fewReqs; rw [← hI, drop_cons hn]; simp_all [fewReq] <;> (intros; omega)) | exact ent_d1 rfl (by unfold fewReqs; rw [← hI]; simp)
  ·
   obtain rfl := rng_ge (l := l) (by simpa using hc1) hi
   refine awp_exit ?_
   refine xsr ?_
   refine xlz (o_mv rfl rfl rfl) ?_
   refine xlz (o_lenE (n := l.length) rfl rfl rfl ty26 (by simp)) ?_
   refine xlz (op_binI rfl rfl rfl rfl rfl (.inl rfl) rfl) ?_
   refine xlz (o_as rfl rfl rfl) ?_
   refine lendF ?_
   refine awp_ret ?_
   refine ⟨[_], ⟨rfl, trivial⟩, ?_⟩
   first | exact ent_d1 rfl (by unfold fewReqs; rw [← hI, drop_cons hn]; simp_all [fewReq] <;> (intros; omega)) | exact ent_d1 rfl (by unfold fewReqs; rw [← hI]; simp)

set_option maxRecDepth 10000 in
theorem c10 (l : List Rls) (most : Int) (hl : l.length < 4611686018427387904) (hq : ∀ r ∈ l, r.reqs.length < 4611686018427387904) : Fn PR 10 [.d (relsD l), .d (I most)] [] [.d (.bool (fewRlss l most))] [] := by
 refine fn_of_awp Tryz.func10 rfl (N := 59) rfl ?_
 refine xsr ?_
 refine xlz (o_as rfl rfl rfl) ?_
 refine lendF ?_
 refine awp_seq ?_
 refine xsr ?_
 refine xlz (o_as rfl rfl rfl) ?_
 refine lendF ?_
 refine awp_block ?_
 refine awp_loop (fun i => ⟨59, [(5, .d (I (i : Nat))), (0, .d (relsD l)), (1, .d (I most))], []⟩) (fun i => l.length - i) (fun i => i ≤ l.length ∧ (l.drop i).all fewRls = l.all fewRls) 0 ?_ ?_ ?_
 ·
  exact ent_k [] rfl rfl (xkc <| xkc <| xkc <| .nil) obs_nil rfl
 ·
  exact ⟨Nat.zero_le _, rfl⟩
 ·
  rintro i ⟨hi, hI⟩
  refine awp_seq ?_
  refine xsr ?_
  refine xlz (o_mv rfl rfl rfl) ?_
  refine xlz (o_mv rfl rfl rfl) ?_
  refine xlz (o_lenE (n := l.length) rfl rfl rfl ty22 (by simp)) ?_
  refine xlz (op_binI rfl rfl rfl rfl rfl (.inl rfl) rfl) ?_
  refine lendF ?_
  refine awp_cond rfl rfl (fun hc1 => ?_) (fun hc1 => ?_)
  ·
   obtain ⟨x, hn⟩ := rng_lt (l := l) (by simpa using hc1)
   have hlt := rng_le hn
   have hmem := List.mem_of_getElem? hn
   refine awp_skip ?_
   refine awp_seq ?_
   refine awp_block ?_
   refine xsr ?_
   refine xlz (o_mv rfl rfl rfl) ?_
   refine xlz (o_mv rfl rfl rfl) ?_
   refine xlz (o_ixN (i) rfl rfl rfl rfl ty22 (by first | rfl | simp | omega | (simp; omega)) hn ty40) ?_
   refine xlz (op_fieldC rfl rfl rfl fl40_0) ?_
   refine xlz (op_loadC1 rfl rfl rfl ty9 rfl rfl) ?_
   refine xlz (op_lenS rfl rfl rfl ty9) ?_
   refine xlz (op_binI rfl rfl rfl rfl rfl (.inl rfl) rfl) ?_
   refine xlz (o_mv rfl rfl rfl) ?_
   refine lsplit rfl (fun hg2 => ?_) (fun hg2 => ?_)
   ·
    refine lg (o_mv rfl rfl rfl) rfl hg2 rfl rfl ?_
    refine lg (o_mv rfl rfl rfl) rfl hg2 rfl rfl ?_
    refine lg (o_ixN (i) rfl rfl rfl rfl ty22 (by first | rfl | simp | omega | (simp; omega)) hn ty40) rfl hg2 rfl rfl ?_
    refine lg (op_fieldC rfl rfl rfl fl40_3) rfl hg2 rfl rfl ?_
    refine lg (op_loadC1 rfl rfl rfl ty9 rfl rfl) rfl hg2 rfl rfl ?_
    refine lg (op_lenS rfl rfl rfl ty9) rfl hg2 rfl rfl ?_
    refine lg (op_binI rfl rfl rfl rfl rfl (.inl rfl) rfl) rfl hg2 rfl rfl ?_
    refine xlz (o_pF rfl rfl (g01 hg2) rfl rfl) ?_
    refine xlz (o_mv rfl rfl rfl) ?_
    refine lsplit rfl (fun hg3 => ?_) (fun hg3 => ?_)
    ·
     refine lg (o_mv rfl rfl rfl) rfl hg3 rfl rfl ?_
     refine lg (o_mv rfl rfl rfl) rfl hg3 rfl rfl ?_
     refine lg (o_ixN (i) rfl rfl rfl rfl ty22 (by first | rfl | simp | omega | (simp; omega)) hn ty40) rfl hg3 rfl rfl ?_
     refine lg (op_fieldC rfl rfl rfl fl40_4) rfl hg3 rfl rfl ?_
     refine lg (op_loadC1 rfl rfl rfl ty9 rfl rfl) rfl hg3 rfl rfl ?_
     refine lg (op_lenS rfl rfl rfl ty9) rfl hg3 rfl rfl ?_
     refine lg (op_binI rfl rfl rfl rfl rfl (.inl rfl) rfl) rfl hg3 rfl rfl ?_
     refine xlz (o_pF rfl rfl (g01 hg3) rfl rfl) ?_
     refine xlz (o_mv rfl rfl rfl) ?_
     refine lsplit rfl (fun hg4 => ?_) (fun hg4 => ?_)
     ·
      refine lg (o_mv rfl rfl rfl) rfl hg4 rfl rfl ?_
      refine lg (o_mv rfl rfl rfl) rfl hg4 rfl rfl ?_
      refine lg (o_ixN (i) rfl rfl rfl rfl ty22 (by first | rfl | simp | omega | (simp; omega)) hn ty40) rfl hg4 rfl rfl ?_
      refine lg (op_fieldC rfl rfl rfl fl40_5) rfl hg4 rfl rfl ?_
      refine lg (op_loadC1 rfl rfl rfl ty9 rfl rfl) rfl hg4 rfl rfl ?_
      refine lg (op_lenS rfl rfl rfl ty9) rfl hg4 rfl rfl ?_
      refine lg (op_binI rfl rfl rfl rfl rfl (.inl rfl) rfl) rfl hg4 rfl rfl ?_
      refine xlz (o_pF rfl rfl (g01 hg4) rfl rfl) ?_
      refine xlz (o_mv rfl rfl rfl) ?_
      refine lsplit rfl (fun hg5 => ?_) (fun hg5 => ?_)
      ·
       refine lg (o_mv rfl rfl rfl) rfl hg5 rfl rfl ?_
       refine lg (o_mv rfl rfl rfl) rfl hg5 rfl rfl ?_
       refine lg (o_ixN (i) rfl rfl rfl rfl ty22 (by first | rfl | simp | omega | (simp; omega)) hn ty40) rfl hg5 rfl rfl ?_
       refine lg (op_fieldC rfl rfl rfl fl40_2) rfl hg5 rfl rfl ?_
       refine lg (op_loadC1 rfl rfl rfl ty26 rfl rfl) rfl hg5 rfl rfl ?_
       refine lg (o_call (c11 x.reqs (hq x hmem)) rfl rfl rfl ca11 rfl rfl) rfl hg5 rfl rfl ?_
       refine lg (op_not rfl rfl rfl) rfl hg5 rfl rfl ?_
       refine xlz (o_pF rfl rfl (g01 hg5) rfl rfl) ?_
       refine lendF ?_
       refine awp_cond rfl rfl (fun hc6 => ?_) (fun hc6 => ?_)
       ·
        refine xsr ?_
        refine xlz (o_as rfl rfl rfl) ?_
        refine lendF ?_
        refine awp_ret ?_
        refine ⟨[_], ⟨rfl, trivial⟩, ?_⟩
        first | exact ent_d1 rfl (by unfold fewRlss; rw [← hI, drop_cons hn]; simp_all [fewRls] <;> (intros; omega)) | exact ent_d1 rfl (by unfold fewRlss; rw [← hI]; simp)
       ·
        refine awp_skip ?_
        refine awp_region mixed ?_
        refine xlz (o_mv rfl rfl rfl) ?_
        refine xlz (o_add rfl rfl rfl rfl (by first | omega | (simp; omega) | (simp at *; omega))) ?_
        refine xlz (o_as rfl rfl rfl) ?_
        refine lendF ?_
        refine ⟨i + 1, ?_, ?_, ?_⟩
        ·
         exact ⟨rng_le hn, by rw [← hI, drop_cons hn]; simp_all [fewRls]⟩
        ·
         exact ent_k [] rfl rfl (xkc <| xkc <| xkc <| .nil) obs_nil rfl
        ·
         omega
      ·
       refine lskip rfl hg5 rfl ?_
       refine lskip rfl hg5 rfl ?_
       refine lskip rfl hg5 rfl ?_
       refine lskip rfl hg5 rfl ?_
       refine lskip rfl hg5 rfl ?_
       refine lskip rfl hg5 rfl ?_
       refine lskip rfl hg5 rfl ?_
       refine xlz (o_pT rfl rfl (g00 hg5) rfl rfl) ?_
       refine lendF ?_
       refine awp_condT rfl rfl rfl ?_
       refine xsr ?_
       refine xlz (o_as rfl rfl rfl) ?_
       refine lendF ?_
       refine awp_ret ?_
       refine ⟨[_], ⟨rfl, trivial⟩, ?_⟩
       first | exact ent_d1 rfl (by unfold fewRlss; rw [← hI, drop_cons hn]; simp_all [fewRls] <;> (intros; omega)) | exact ent_d1 rfl (by unfold fewRlss; rw [← hI]; simp)
     ·
      refine lskip rfl hg4 rfl ?_
      refine lskip rfl hg4 rfl ?_
      refine lskip rfl hg4 rfl ?_
      refine lskip rfl hg4 rfl ?_
      refine lskip rfl hg4 rfl ?_
      refine lskip rfl hg4 rfl ?_
      refine lskip rfl hg4 rfl ?_
      refine xlz (o_pT rfl rfl (g00 hg4) rfl rfl) ?_
      refine xlz (o_mv rfl rfl rfl) ?_
      refine lskip rfl rfl rfl ?_
      refine lskip rfl rfl rfl ?_
      refine lskip rfl rfl rfl ?_
      refine lskip rfl rfl rfl ?_
      refine lskip rfl rfl rfl ?_
      refine lskip rfl rfl rfl ?_
      refine lskip rfl rfl rfl ?_
      refine xlz (o_pT rfl rfl rfl rfl rfl) ?_
      refine lendF ?_
      refine awp_condT rfl rfl rfl ?_
      refine xsr ?_
      refine xlz (o_as rfl rfl rfl) ?_
      refine lendF ?_
      refine awp_ret ?_
      refine ⟨[_], ⟨rfl, trivial⟩, ?_⟩
      first | exact ent_d1 rfl (by unfold fewRlss; rw [← hI, drop_cons hn]; simp_all [fewRls] <;> (intros; omega)) | exact ent_d1 rfl (by unfold fewRlss; rw [← hI]; simp)
    ·
     refine lskip rfl hg3 rfl ?_
     refine lskip rfl hg3 rfl ?_
     refine lskip rfl hg3 rfl ?_
     refine lskip rfl hg3 rfl ?_
     refine lskip rfl hg3 rfl ?_
     refine lskip rfl hg3 rfl ?_
     refine lskip rfl hg3 rfl ?_
     refine xlz (o_pT rfl rfl (g00 hg3) rfl rfl) ?_
     refine xlz (o_mv rfl rfl rfl) ?_
     refine lskip rfl rfl rfl ?_
     refine lskip rfl rfl rfl ?_
     refine lskip rfl rfl rfl ?_
     refine lskip rfl rfl rfl ?_
     refine lskip rfl rfl rfl ?_
     refine lskip rfl rfl rfl ?_
     refine lskip rfl rfl rfl ?_
     refine xlz (o_pT rfl rfl rfl rfl rfl) ?_
     refine xlz (o_mv rfl rfl rfl) ?_
     refine lskip rfl rfl rfl ?_
     refine lskip rfl rfl rfl ?_
     refine lskip rfl rfl rfl ?_
     refine lskip rfl rfl rfl ?_
     refine lskip rfl rfl rfl ?_
     refine lskip rfl rfl rfl ?_
     refine lskip rfl rfl rfl ?_
     refine xlz (o_pT rfl rfl rfl rfl rfl) ?_
     refine lendF ?_
     refine awp_condT rfl rfl rfl ?_
     refine xsr ?_
     refine xlz (o_as rfl rfl rfl) ?_
     refine lendF ?_
     refine awp_ret ?_
     refine ⟨[_], ⟨rfl, trivial⟩, ?_⟩
     first | exact ent_d1 rfl (by unfold fewRlss; rw [← hI, drop_cons hn]; simp_all [fewRls] <;> (intros; omega)) | exact ent_d1 rfl (by unfold fewRlss; rw [← hI]; simp)
   ·
    refine lskip rfl hg2 rfl ?_
    refine lskip rfl hg2 rfl ?_
    refine lskip rfl hg2 rfl ?_
    refine lskip rfl hg2 rfl ?_
    refine lskip rfl hg2 rfl ?_
    refine lskip rfl hg2 rfl ?_
    refine lskip rfl hg2 rfl ?_
    refine xlz (o_pT rfl rfl (g00 hg2) rfl rfl) ?_
    refine xlz (o_mv rfl rfl rfl) ?_
    refine lskip rfl rfl rfl ?_
    refine lskip rfl rfl rfl ?_
    refine lskip rfl rfl rfl ?_
    refine lskip rfl rfl rfl ?_
    refine lskip rfl rfl rfl ?_
    refine lskip rfl rfl rfl ?_
    refine lskip rfl rfl rfl ?_
    refine xlz (o_pT rfl rfl rfl rfl rfl) ?_
    refine xlz (o_mv rfl rfl rfl) ?_
    refine lskip rfl rfl rfl ?_
    refine lskip rfl rfl rfl ?_
    refine lskip rfl rfl rfl ?_
    refine lskip rfl rfl rfl ?_
    refine lskip rfl rfl rfl ?_
    refine lskip rfl rfl rfl ?_
    refine lskip rfl rfl rfl ?_
    refine xlz (o_pT rfl rfl rfl rfl rfl) ?_
    refine xlz (o_mv rfl rfl rfl) ?_
    refine lskip rfl rfl rfl ?_
    refine lskip rfl rfl rfl ?_
    refine lskip rfl rfl rfl ?_
    refine lskip rfl rfl rfl ?_
    refine lskip rfl rfl rfl ?_
    refine lskip rfl rfl rfl ?_
    refine lskip rfl rfl rfl ?_
    refine xlz (o_pT rfl rfl rfl rfl rfl) ?_
    refine lendF ?_
    refine awp_condT rfl rfl rfl ?_
    refine xsr ?_
    refine xlz (o_as rfl rfl rfl) ?_
    refine lendF ?_
    refine awp_ret ?_
    refine ⟨[_], ⟨rfl, trivial⟩, ?_⟩
    first | exact ent_d1 rfl (by unfold fewRlss; rw [← hI, drop_cons hn]; simp_all [fewRls] <;> (intros; omega)) | exact ent_d1 rfl (by unfold fewRlss; rw [← hI]; simp)
  ·
   obtain rfl := rng_ge (l := l) (by simpa using hc1) hi
   refine awp_exit ?_
   refine xsr ?_
   refine xlz (o_mv rfl rfl rfl) ?_
   refine xlz (o_lenE (n := l.length) rfl rfl rfl ty22 (by simp)) ?_
   refine xlz (o_mv rfl rfl rfl) ?_
   refine xlz (op_binI rfl rfl rfl rfl rfl (.inl rfl) rfl) ?_
   refine xlz (o_as rfl rfl rfl) ?_
   refine lendF ?_
   refine awp_ret ?_
   refine ⟨[_], ⟨rfl, trivial⟩, ?_⟩
   first | exact ent_d1 rfl (by unfold fewRlss; rw [← hI, drop_cons hn]; simp_all [fewRls] <;> (intros; omega)) | exact ent_d1 rfl (by unfold fewRlss; rw [← hI]; simp)

end Go.Pm

namespace Go.Pm
open Go.Proofs

set_option maxRecDepth 10000 in
theorem c93 (n : Nat) (h64 : n < 18446744073709551616) : Fn PR 93 [.d (.int .u64 (n : Nat))] [] [.d (.str (uvar n))] [] := by
 refine fn_of_awp Tryz.func93 rfl (N := 20) rfl ?_
 refine xsr ?_
 refine xlz (o_as rfl rfl rfl) ?_
 refine lendF ?_
 refine xsr ?_
 refine xlz (o_as rfl rfl rfl) ?_
 refine lendF ?_
 refine awp_seq ?_
 refine awp_block ?_
 refine awp_ent (ent_tail 3 500003 1 rfl rfl rfl (by decide)) ?_
 refine awp_loop (fun x => ⟨20, [(0, .d (.int .u64 (x.2.1 : Nat))), (3, .tl (bytD x.2.2) (some 500003))], [(500003, .tail 1)]⟩) (fun x => x.1) (fun x => x.2.1 < 128 ^ (x.1 + 1) ∧ x.2.1 < 18446744073709551616 ∧ x.2.2.length + x.1 = 9 ∧ x.2.2 ++ uvarF x.1 x.2.1 = uvar n) (9, n, []) ?_ ?_ ?_
 ·
  exact ent_k [] rfl rfl (xkc <| xkc <| .nil) (obs_cons rfl (o_eq rfl) obs_nil) rfl
 ·
  exact ⟨Nat.lt_of_lt_of_le h64 (by show 18446744073709551616 ≤ 128 ^ (9 + 1); decide), h64, rfl, rfl⟩
 ·
  rintro ⟨f, m, bs⟩ ⟨h1, h2, h3, hI⟩
  dsimp only at h1 h2 h3 hI ⊢
  refine awp_seq ?_
  refine xsr ?_
  refine xlz (o_mv rfl rfl rfl) ?_
  refine xlz (op_binI rfl rfl rfl rfl rfl (.inl rfl) rfl) ?_
  refine lendF ?_
  refine awp_cond rfl rfl (fun hc1 => ?_) (fun hc1 => ?_)
  ·
   have hm : 127 < m := by have := hc1; simp at this; omega
   obtain ⟨f, rfl⟩ : ∃ g, f = g + 1 := by cases f with | zero => simp at h1; omega | succ g => exact ⟨g, rfl⟩
   refine awp_skip ?_
   refine awp_block ?_
   refine xsr ?_
   refine xlz (o_mv rfl rfl rfl) ?_
   refine xlz (o_mv rfl rfl rfl) ?_
   refine xlz (o_eqI (op_convI rfl rfl rfl ty136 ty5) (conv8 m)) ?_
   refine xlz (o_eqI (op_binI rfl rfl rfl rfl rfl (.inl rfl) rfl) (or128 m)) ?_
   refine xlz (o_bs rfl rfl rfl rfl rfl ty159 ty5 rfl rfl) ?_
   refine xlz (o_app rfl rfl (by decide) rfl rfl rfl ty159 ty5 rfl (by decide) rfl (by first | exact cl_map fun _ => rfl | exact cl_nil | exact cl_one rfl | exact cl_app (cl_map fun _ => rfl) (cl_one rfl) | exact cl_app (cl_map fun _ => rfl) (cl_map fun _ => rfl)) (by first | exact cl_map fun _ => rfl | exact cl_nil | exact cl_one rfl | exact cl_app (cl_map fun _ => rfl) (cl_one rfl) | exact cl_app (cl_map fun _ => rfl) (cl_map fun _ => rfl)) (by simp; omega) (by decide) (zs := bytD (bs ++ [UInt8.ofNat (m % 128 + 128)])) (by simp [bytD])) ?_
   refine xlz (o_as rfl rfl rfl) ?_
   refine lendF ?_
   refine awp_region mixed ?_
   refine xlz (o_mv rfl rfl rfl) ?_
   refine xlz (o_eqI (op_binI rfl rfl rfl rfl rfl (.inr (.inr rfl)) rfl) (shr7 m)) ?_
   refine xlz (o_as rfl rfl rfl) ?_
   refine lendF ?_
   refine ⟨(f, m / 128, bs ++ [UInt8.ofNat (m % 128 + 128)]), ?_, ?_, ?_⟩
   ·
    exact ⟨pow128 f m h1, by show m / 128 < _; omega, by show (bs ++ [UInt8.ofNat (m % 128 + 128)]).length + f = 9; simp; omega, by show (bs ++ [UInt8.ofNat (m % 128 + 128)]) ++ uvarF f (m / 128) = _; rw [← hI, uvarF, if_neg (by omega)]; simp⟩
   ·
    exact ent_k [(500003, 11)] rfl rfl (xkc <| xkc <| .nil) (obs_cons rfl (o_eq rfl) obs_nil) rfl
   ·
    exact Nat.lt_succ_self f
  ·
   have hm : m < 128 := by have := hc1; simp at this; omega
   refine awp_exit ?_
   refine xsr ?_
   refine xlz (o_mv rfl rfl rfl) ?_
   refine xlz (o_mv rfl rfl rfl) ?_
   refine xlz (o_eqI (op_convI rfl rfl rfl ty136 ty5) (conv8 m)) ?_
   refine xlz (o_bs rfl rfl rfl rfl rfl ty159 ty5 rfl rfl) ?_
   refine xlz (o_app rfl rfl (by decide) rfl rfl rfl ty159 ty5 rfl (by decide) rfl (by first | exact cl_map fun _ => rfl | exact cl_nil | exact cl_one rfl | exact cl_app (cl_map fun _ => rfl) (cl_one rfl) | exact cl_app (cl_map fun _ => rfl) (cl_map fun _ => rfl)) (by first | exact cl_map fun _ => rfl | exact cl_nil | exact cl_one rfl | exact cl_app (cl_map fun _ => rfl) (cl_one rfl) | exact cl_app (cl_map fun _ => rfl) (cl_map fun _ => rfl)) (by simp; omega) (by decide) (zs := bytD (bs ++ [UInt8.ofNat m])) (by simp [bytD])) ?_
   refine xlz (op_convB rfl rfl rfl ty159 ty5 ty9) ?_
   refine xlz (o_as rfl rfl rfl) ?_
   refine lendF ?_
   refine awp_ret ?_
   refine ⟨[_], ⟨rfl, trivial⟩, ?_⟩
   exact ent_st rfl (by rw [← hI, uvarF_lt hm])

set_option maxRecDepth 10000 in
theorem c56 (n : Int) (hn : n < 9223372036854775808) : Fn PR 56 [.d (I n)] [] [.d (.str (uintS n).1), .d (I (uintS n).2)] [] := by
 refine fn_of_awp Tryz.func56 rfl (N := 9) rfl ?_
 refine xsr ?_
 refine xlz (o_as rfl rfl rfl) ?_
 refine xlz (o_as rfl rfl rfl) ?_
 refine lendF ?_
 refine awp_seq ?_
 refine xsr ?_
 refine xlz (o_mv rfl rfl rfl) ?_
 refine xlz (op_binI rfl rfl rfl rfl rfl (.inl rfl) rfl) ?_
 refine lendF ?_
 refine awp_cond rfl rfl (fun hc1 => ?_) (fun hc1 => ?_)
 ·
  have h0 : n < 0 := by simpa using hc1
  refine xsr ?_
  refine xlz (o_as rfl rfl rfl) ?_
  refine xlz (o_as rfl rfl rfl) ?_
  refine lendF ?_
  refine awp_ret ?_
  refine ⟨[_, _], ⟨rfl, rfl, trivial⟩, ?_⟩
  exact ent_d2 rfl (by simp [uintS, h0]) rfl (by simp [uintS, h0])
 ·
  have h0 : ¬ n < 0 := by simpa using hc1
  obtain ⟨m, rfl⟩ := Int.eq_ofNat_of_zero_le (Int.not_lt.1 h0)
  refine awp_skip ?_
  refine xsr ?_
  refine xlz (o_mv rfl rfl rfl) ?_
  refine xlz (o_eqI (op_convI rfl rfl rfl ty3 ty136) (wrapU64 (by omega) (by omega))) ?_
  refine xlz (o_call (c93 m (by omega)) rfl rfl rfl ca93 rfl rfl) ?_
  refine xlz (o_as rfl rfl rfl) ?_
  refine xlz (o_as rfl rfl rfl) ?_
  refine lendF ?_
  refine awp_ret ?_
  refine ⟨[_, _], ⟨rfl, rfl, trivial⟩, ?_⟩
  exact ent_d2 rfl (by simp [uintS, h0]) rfl (by simp [uintS, h0])

set_option maxRecDepth 10000 in
theorem c58 (s : Bytes) (hs : s.length < 4611686018427387904) : Fn PR 58 [.d (.str s)] [] [.d (.str (textS s))] [] := by
 refine fn_of_awp Tryz.func58 rfl (N := 9) rfl ?_
 refine xsr ?_
 refine xlz (o_as rfl rfl rfl) ?_
 refine lendF ?_
 refine xsr ?_
 refine xlz (o_mv rfl rfl rfl) ?_
 refine xlz (op_lenS rfl rfl rfl ty9) ?_
 refine xlz (o_eqI (op_convI rfl rfl rfl ty3 ty136) (wrapU64 (x := s.length) (by omega) (by omega))) ?_
 refine xlz (o_call (c93 s.length (by omega)) rfl rfl rfl ca93 rfl rfl) ?_
 refine xlz (o_mv rfl rfl rfl) ?_
 refine xlz (op_binS rfl rfl rfl rfl rfl (fun _ => by have := uvar_len s.length; omega) rfl) ?_
 refine xlz (o_as rfl rfl rfl) ?_
 refine lendF ?_
 refine awp_ret ?_
 refine ⟨[_], ⟨rfl, trivial⟩, ?_⟩
 exact ent_st rfl rfl

end Go.Pm

namespace Go.Pm
open Go.Proofs

set_option maxRecDepth 10000 in
theorem c131 (r : RS) (p : Nat) (hs : r.s.length < 4611686018427387904) (hp : p ≤ r.s.length) : Fn PR 131 [.ptr 1000000 0, .d (I (p : Nat))] [(1000000, .cells [.d (.str r.s), .d (I r.pos), .d (I r.e)])] [.d (.int .u64 ((rdU r.s p).1 : Nat)), .d (I ((rdU r.s p).2.1 : Nat)), .d (.bool (rdU r.s p).2.2)] [(1000000, .cells [.d (.str r.s), .d (I r.pos), .d (I r.e)])] := by
 refine fn_of_awp Tryz.func131 rfl (N := 54) rfl ?_
 refine xsr ?_
 refine xlz (o_as rfl rfl rfl) ?_
 refine xlz (o_as rfl rfl rfl) ?_
 refine xlz (o_as rfl rfl rfl) ?_
 refine lendF ?_
 refine xsr ?_
 refine xlz (o_as rfl rfl rfl) ?_
 refine lendF ?_
 refine awp_seq ?_
 refine xsr ?_
 refine xlz (o_as rfl rfl rfl) ?_
 refine lendF ?_
 refine awp_block ?_
 refine awp_loop (fun x => ⟨54, [(1, .d (I ((p + x.1 : Nat) : Int))), (7, .d (.int .u64 ((x.2 : Nat) : Int))), (8, .d (I ((7 * x.1 : Nat) : Int))), (0, .ptr 1000000 0)], [(1000000, .cells [.d (.str r.s), .d (I r.pos), .d (I r.e)])]⟩) (fun x => 10 - x.1) (fun x => x.1 ≤ 10 ∧ p + x.1 ≤ r.s.length ∧ x.2 < 128 ^ x.1 ∧ scanL (r.s.drop (p + x.1)) (p + x.1) x.1 x.2 = rdU r.s p) (0, 0) ?_ ?_ ?_
 ·
  exact ent_k [] rfl rfl (xkc <| xkc <| xkc <| xkc <| .nil) (obs_cons rfl (o_eq rfl) obs_nil) rfl
 ·
  exact ⟨by omega, hp, by simp, rfl⟩
 ·
  rintro ⟨i, acc⟩ ⟨h1, h2, h3, hI⟩
  dsimp only at h1 h2 h3 hI ⊢
  refine awp_seq ?_
  refine xsr ?_
  refine xlz (o_mv rfl rfl rfl) ?_
  refine xlz (o_mv rfl rfl rfl) ?_
  refine xlz (op_nilCheckP rfl rfl rfl rfl) ?_
  refine xlz (op_fieldP rfl rfl rfl fl140_0) ?_
  refine xlz (op_load1 rfl rfl rfl rfl ty9 rfl rfl) ?_
  refine xlz (op_lenS rfl rfl rfl ty9) ?_
  refine xlz (op_binI rfl rfl rfl rfl rfl (.inl rfl) rfl) ?_
  refine xlz (o_mv rfl rfl rfl) ?_
  refine lsplit rfl (fun hg1 => ?_) (fun hg1 => ?_)
  ·
   refine lg (o_mv rfl rfl rfl) rfl hg1 rfl rfl ?_
   refine lg (op_binI rfl rfl rfl rfl rfl (.inl rfl) rfl) rfl hg1 rfl rfl ?_
   refine xlz (o_pT rfl rfl (g11 hg1) rfl rfl) ?_
   refine lendF ?_
   refine awp_cond rfl rfl (fun hc2 => ?_) (fun hc2 => ?_)
   ·
    refine awp_skip ?_
    refine awp_seq ?_
    refine awp_block ?_
    refine xsr ?_
    obtain ⟨b, hn⟩ := rng_lt (l := r.s) (i := p + i) (by have := hg1; simp at this; simp; omega)
    have hlt := rng_le hn
    have h9 : i ≤ 9 := by simp at *; omega
    have hb : b.toNat % 128 < 128 := Nat.mod_lt _ (by omega)
    refine xlz (o_mv rfl rfl rfl) ?_
    refine xlz (op_nilCheckP rfl rfl rfl rfl) ?_
    refine xlz (op_fieldP rfl rfl rfl fl140_0) ?_
    refine xlz (op_load1 rfl rfl rfl rfl ty9 rfl rfl) ?_
    refine xlz (o_mv rfl rfl rfl) ?_
    refine xlz (o_idxS ((p + i)) rfl rfl rfl rfl ty9 (by first | rfl | simp | omega | (simp; omega)) hn) ?_
    refine xlz (o_as rfl rfl rfl) ?_
    refine lendF ?_
    refine xsr ?_
    refine xlz (o_mv rfl rfl rfl) ?_
    refine xlz (o_add rfl rfl rfl rfl (by first | omega | (simp; omega) | (simp at *; omega))) ?_
    refine xlz (o_as rfl rfl rfl) ?_
    refine lendF ?_
    refine awp_seq ?_
    refine xsr ?_
    refine xlz (o_mv rfl rfl rfl) ?_
    refine xlz (op_binI rfl rfl rfl rfl rfl (.inl rfl) rfl) ?_
    refine xlz (o_mv rfl rfl rfl) ?_
    refine lsplit rfl (fun hg3 => ?_) (fun hg3 => ?_)
    ·
     refine lg (o_mv rfl rfl rfl) rfl hg3 rfl rfl ?_
     refine lg (op_binI rfl rfl rfl rfl rfl (.inl rfl) rfl) rfl hg3 rfl rfl ?_
     refine xlz (o_pT rfl rfl (g11 hg3) rfl rfl) ?_
     refine lendF ?_
     refine awp_cond rfl rfl (fun hc4 => ?_) (fun hc4 => ?_)
     ·
      refine xsr ?_
      refine xlz (o_as rfl rfl rfl) ?_
      refine xlz (o_as rfl rfl rfl) ?_
      refine xlz (o_as rfl rfl rfl) ?_
      refine lendF ?_
      refine awp_ret ?_
      refine ⟨[_, _, _], ⟨rfl, rfl, rfl, trivial⟩, ?_⟩
      first | (rw [← hI, scan_big hn (by simp at *; omega) (by simp at *; omega)]; exact ent_o3 (obs_cons rfl (o_eq rfl) obs_nil) rfl rfl (by first | rfl | (simp; done) | (simp; omega) | (congr 1; rw [Bool.eq_iff_iff]; simp at *; omega) | (simp_all; done) | (simp_all; omega)) rfl (by first | rfl | (simp; done) | (simp; omega) | (congr 1; rw [Bool.eq_iff_iff]; simp at *; omega) | (simp_all; done) | (simp_all; omega)) rfl (by first | rfl | (simp; done) | (simp; omega) | (congr 1; rw [Bool.eq_iff_iff]; simp at *; omega) | (simp_all; done) | (simp_all; omega))) | (rw [← hI, scan_stop hn h9 hk1 hb8]; exact ent_o3 (obs_cons rfl (o_eq rfl) obs_nil) rfl rfl (by first | rfl | (simp; done) | (simp; omega) | (congr 1; rw [Bool.eq_iff_iff]; simp at *; omega) | (simp_all; done) | (simp_all; omega)) rfl (by first | rfl | (simp; done) | (simp; omega) | (congr 1; rw [Bool.eq_iff_iff]; simp at *; omega) | (simp_all; done) | (simp_all; omega)) rfl (by first | rfl | (simp; done) | (simp; omega) | (congr 1; rw [Bool.eq_iff_iff]; simp at *; omega) | (simp_all; done) | (simp_all; omega))) | (rw [← hI, scan_end (by simp at *; omega)]; exact ent_o3 (obs_cons rfl (o_eq rfl) obs_nil) rfl rfl (by first | rfl | (simp; done) | (simp; omega) | (congr 1; rw [Bool.eq_iff_iff]; simp at *; omega) | (simp_all; done) | (simp_all; omega)) rfl (by first | rfl | (simp; done) | (simp; omega) | (congr 1; rw [Bool.eq_iff_iff]; simp at *; omega) | (simp_all; done) | (simp_all; omega)) rfl (by first | rfl | (simp; done) | (simp; omega) | (congr 1; rw [Bool.eq_iff_iff]; simp at *; omega) | (simp_all; done) | (simp_all; omega)))
     ·
      refine awp_skip ?_
      refine xsr ?_
      have hk1 : i = 9 → b.toNat ≤ 1 := by intro h; simp at *; omega
      have hk9 : i = 9 → b.toNat % 128 ≤ 1 := by intro h; have := hk1 h; omega
      refine xlz (o_mv rfl rfl rfl) ?_
      refine xlz (o_mv rfl rfl rfl) ?_
      refine xlz (o_eqI (op_binI rfl rfl rfl rfl rfl (.inl rfl) rfl) (and127 b)) ?_
      refine xlz (o_eqI (op_convI rfl rfl rfl ty5 ty136) (wrapU64 (by omega) (by omega))) ?_
      refine xlz (o_mv rfl rfl rfl) ?_
      refine xlz (o_eqI (op_binI rfl rfl rfl rfl rfl (.inr (.inl rfl)) rfl) (shl_in h3 h9 hb hk9)) ?_
      refine xlz (o_eqI (op_binI rfl rfl rfl rfl rfl (.inl rfl) rfl) (or_in h3 h9 hb hk9)) ?_
      refine xlz (o_as rfl rfl rfl) ?_
      refine lendF ?_
      refine xsr ?_
      refine xlz (o_mv rfl rfl rfl) ?_
      refine xlz (op_binI rfl rfl rfl rfl rfl (.inl rfl) rfl) ?_
      refine lendF ?_
      refine awp_cond rfl rfl (fun hc5 => ?_) (fun hc5 => ?_)
      ·
       have hb8 : b.toNat < 128 := by have := hc5; simp at this; omega
       refine xsr ?_
       refine xlz (o_mv rfl rfl rfl) ?_
       refine xlz (o_mv rfl rfl rfl) ?_
       refine xlz (o_mv rfl rfl rfl) ?_
       refine xlz (op_binI rfl rfl rfl rfl rfl (.inl rfl) rfl) ?_
       refine xlz (o_mv rfl rfl rfl) ?_
       refine lsplit rfl (fun hg6 => ?_) (fun hg6 => ?_)
       ·
        refine lg (o_mv rfl rfl rfl) rfl hg6 rfl rfl ?_
        refine lg (op_binI rfl rfl rfl rfl rfl (.inl rfl) rfl) rfl hg6 rfl rfl ?_
        refine xlz (o_pF rfl rfl (g01 hg6) rfl rfl) ?_
        refine xlz (o_as rfl rfl rfl) ?_
        refine xlz (o_as rfl rfl rfl) ?_
        refine xlz (o_as rfl rfl rfl) ?_
        refine lendF ?_
        refine awp_ret ?_
        refine ⟨[_, _, _], ⟨rfl, rfl, rfl, trivial⟩, ?_⟩
        first | (rw [← hI, scan_big hn (by simp at *; omega) (by simp at *; omega)]; exact ent_o3 (obs_cons rfl (o_eq rfl) obs_nil) rfl rfl (by first | rfl | (simp; done) | (simp; omega) | (congr 1; rw [Bool.eq_iff_iff]; simp at *; omega) | (simp_all; done) | (simp_all; omega)) rfl (by first | rfl | (simp; done) | (simp; omega) | (congr 1; rw [Bool.eq_iff_iff]; simp at *; omega) | (simp_all; done) | (simp_all; omega)) rfl (by first | rfl | (simp; done) | (simp; omega) | (congr 1; rw [Bool.eq_iff_iff]; simp at *; omega) | (simp_all; done) | (simp_all; omega))) | (rw [← hI, scan_stop hn h9 hk1 hb8]; exact ent_o3 (obs_cons rfl (o_eq rfl) obs_nil) rfl rfl (by first | rfl | (simp; done) | (simp; omega) | (congr 1; rw [Bool.eq_iff_iff]; simp at *; omega) | (simp_all; done) | (simp_all; omega)) rfl (by first | rfl | (simp; done) | (simp; omega) | (congr 1; rw [Bool.eq_iff_iff]; simp at *; omega) | (simp_all; done) | (simp_all; omega)) rfl (by first | rfl | (simp; done) | (simp; omega) | (congr 1; rw [Bool.eq_iff_iff]; simp at *; omega) | (simp_all; done) | (simp_all; omega))) | (rw [← hI, scan_end (by simp at *; omega)]; exact ent_o3 (obs_cons rfl (o_eq rfl) obs_nil) rfl rfl (by first | rfl | (simp; done) | (simp; omega) | (congr 1; rw [Bool.eq_iff_iff]; simp at *; omega) | (simp_all; done) | (simp_all; omega)) rfl (by first | rfl | (simp; done) | (simp; omega) | (congr 1; rw [Bool.eq_iff_iff]; simp at *; omega) | (simp_all; done) | (simp_all; omega)) rfl (by first | rfl | (simp; done) | (simp; omega) | (congr 1; rw [Bool.eq_iff_iff]; simp at *; omega) | (simp_all; done) | (simp_all; omega)))
       ·
        refine lskip rfl hg6 rfl ?_
        refine lskip rfl hg6 rfl ?_
        refine xlz (o_pT rfl rfl (g00 hg6) rfl rfl) ?_
        refine xlz (o_as rfl rfl rfl) ?_
        refine xlz (o_as rfl rfl rfl) ?_
        refine xlz (o_as rfl rfl rfl) ?_
        refine lendF ?_
        refine awp_ret ?_
        refine ⟨[_, _, _], ⟨rfl, rfl, rfl, trivial⟩, ?_⟩
        first | (rw [← hI, scan_big hn (by simp at *; omega) (by simp at *; omega)]; exact ent_o3 (obs_cons rfl (o_eq rfl) obs_nil) rfl rfl (by first | rfl | (simp; done) | (simp; omega) | (congr 1; rw [Bool.eq_iff_iff]; simp at *; omega) | (simp_all; done) | (simp_all; omega)) rfl (by first | rfl | (simp; done) | (simp; omega) | (congr 1; rw [Bool.eq_iff_iff]; simp at *; omega) | (simp_all; done) | (simp_all; omega)) rfl (by first | rfl | (simp; done) | (simp; omega) | (congr 1; rw [Bool.eq_iff_iff]; simp at *; omega) | (simp_all; done) | (simp_all; omega))) | (rw [← hI, scan_stop hn h9 hk1 hb8]; exact ent_o3 (obs_cons rfl (o_eq rfl) obs_nil) rfl rfl (by first | rfl | (simp; done) | (simp; omega) | (congr 1; rw [Bool.eq_iff_iff]; simp at *; omega) | (simp_all; done) | (simp_all; omega)) rfl (by first | rfl | (simp; done) | (simp; omega) | (congr 1; rw [Bool.eq_iff_iff]; simp at *; omega) | (simp_all; done) | (simp_all; omega)) rfl (by first | rfl | (simp; done) | (simp; omega) | (congr 1; rw [Bool.eq_iff_iff]; simp at *; omega) | (simp_all; done) | (simp_all; omega))) | (rw [← hI, scan_end (by simp at *; omega)]; exact ent_o3 (obs_cons rfl (o_eq rfl) obs_nil) rfl rfl (by first | rfl | (simp; done) | (simp; omega) | (congr 1; rw [Bool.eq_iff_iff]; simp at *; omega) | (simp_all; done) | (simp_all; omega)) rfl (by first | rfl | (simp; done) | (simp; omega) | (congr 1; rw [Bool.eq_iff_iff]; simp at *; omega) | (simp_all; done) | (simp_all; omega)) rfl (by first | rfl | (simp; done) | (simp; omega) | (congr 1; rw [Bool.eq_iff_iff]; simp at *; omega) | (simp_all; done) | (simp_all; omega)))
      ·
       have hge : ¬ b.toNat < 128 := by have := hc5; simp at this; omega
       refine awp_skip ?_
       refine awp_region mixed ?_
       refine xlz (o_mv rfl rfl rfl) ?_
       refine xlz (o_add rfl rfl rfl rfl (by first | omega | (simp; omega) | (simp at *; omega))) ?_
       refine xlz (o_as rfl rfl rfl) ?_
       refine lendF ?_
       refine ⟨(i + 1, acc + b.toNat % 128 * 128 ^ i), ?_, ?_, ?_⟩
       ·
        exact ⟨by show i + 1 ≤ 10; omega, by show p + (i + 1) ≤ _; have := rng_le hn; omega, acc_lt h3 hb, by show scanL (List.drop (p + (i + 1)) _) (p + (i + 1)) (i + 1) _ = _; rw [← hI, scan_next hn h9 hk1 hge]; rfl⟩
       ·
        exact ent_k [] rfl rfl (xkc <| xkc <| xkc <| xkc <| .nil) (obs_cons rfl (o_eq rfl) obs_nil) rfl
       ·
        show 10 - (i + 1) < 10 - i; omega
    ·
     refine lskip rfl hg3 rfl ?_
     refine lskip rfl hg3 rfl ?_
     refine xlz (o_pF rfl rfl (g10 hg3) rfl rfl) ?_
     refine lendF ?_
     refine awp_condF rfl rfl rfl ?_
     refine awp_skip ?_
     refine xsr ?_
     have hk1 : i = 9 → b.toNat ≤ 1 := by intro h; simp at *; omega
     have hk9 : i = 9 → b.toNat % 128 ≤ 1 := by intro h; have := hk1 h; omega
     refine xlz (o_mv rfl rfl rfl) ?_
     refine xlz (o_mv rfl rfl rfl) ?_
     refine xlz (o_eqI (op_binI rfl rfl rfl rfl rfl (.inl rfl) rfl) (and127 b)) ?_
     refine xlz (o_eqI (op_convI rfl rfl rfl ty5 ty136) (wrapU64 (by omega) (by omega))) ?_
     refine xlz (o_mv rfl rfl rfl) ?_
     refine xlz (o_eqI (op_binI rfl rfl rfl rfl rfl (.inr (.inl rfl)) rfl) (shl_in h3 h9 hb hk9)) ?_
     refine xlz (o_eqI (op_binI rfl rfl rfl rfl rfl (.inl rfl) rfl) (or_in h3 h9 hb hk9)) ?_
     refine xlz (o_as rfl rfl rfl) ?_
     refine lendF ?_
     refine xsr ?_
     refine xlz (o_mv rfl rfl rfl) ?_
     refine xlz (op_binI rfl rfl rfl rfl rfl (.inl rfl) rfl) ?_
     refine lendF ?_
     refine awp_cond rfl rfl (fun hc8 => ?_) (fun hc8 => ?_)
     ·
      have hb8 : b.toNat < 128 := by have := hc8; simp at this; omega
      refine xsr ?_
      refine xlz (o_mv rfl rfl rfl) ?_
      refine xlz (o_mv rfl rfl rfl) ?_
      refine xlz (o_mv rfl rfl rfl) ?_
      refine xlz (op_binI rfl rfl rfl rfl rfl (.inl rfl) rfl) ?_
      refine xlz (o_mv rfl rfl rfl) ?_
      refine lsplit rfl (fun hg9 => ?_) (fun hg9 => ?_)
      ·
       refine lg (o_mv rfl rfl rfl) rfl hg9 rfl rfl ?_
       refine lg (op_binI rfl rfl rfl rfl rfl (.inl rfl) rfl) rfl hg9 rfl rfl ?_
       refine xlz (o_pF rfl rfl (g01 hg9) rfl rfl) ?_
       refine xlz (o_as rfl rfl rfl) ?_
       refine xlz (o_as rfl rfl rfl) ?_
       refine xlz (o_as rfl rfl rfl) ?_
       refine lendF ?_
       refine awp_ret ?_
       refine ⟨[_, _, _], ⟨rfl, rfl, rfl, trivial⟩, ?_⟩
       first | (rw [← hI, scan_big hn (by simp at *; omega) (by simp at *; omega)]; exact ent_o3 (obs_cons rfl (o_eq rfl) obs_nil) rfl rfl (by first | rfl | (simp; done) | (simp; omega) | (congr 1; rw [Bool.eq_iff_iff]; simp at *; omega) | (simp_all; done) | (simp_all; omega)) rfl (by first | rfl | (simp; done) | (simp; omega) | (congr 1; rw [Bool.eq_iff_iff]; simp at *; omega) | (simp_all; done) | (simp_all; omega)) rfl (by first | rfl | (simp; done) | (simp; omega) | (congr 1; rw [Bool.eq_iff_iff]; simp at *; omega) | (simp_all; done) | (simp_all; omega))) | (rw [← hI, scan_stop hn h9 hk1 hb8]; exact ent_o3 (obs_cons rfl (o_eq rfl) obs_nil) rfl rfl (by first | rfl | (simp; done) | (simp; omega) | (congr 1; rw [Bool.eq_iff_iff]; simp at *; omega) | (simp_all; done) | (simp_all; omega)) rfl (by first | rfl | (simp; done) | (simp; omega) | (congr 1; rw [Bool.eq_iff_iff]; simp at *; omega) | (simp_all; done) | (simp_all; omega)) rfl (by first | rfl | (simp; done) | (simp; omega) | (congr 1; rw [Bool.eq_iff_iff]; simp at *; omega) | (simp_all; done) | (simp_all; omega))) | (rw [← hI, scan_end (by simp at *; omega)]; exact ent_o3 (obs_cons rfl (o_eq rfl) obs_nil) rfl rfl (by first | rfl | (simp; done) | (simp; omega) | (congr 1; rw [Bool.eq_iff_iff]; simp at *; omega) | (simp_all; done) | (simp_all; omega)) rfl (by first | rfl | (simp; done) | (simp; omega) | (congr 1; rw [Bool.eq_iff_iff]; simp at *; omega) | (simp_all; done) | (simp_all; omega)) rfl (by first | rfl | (simp; done) | (simp; omega) | (congr 1; rw [Bool.eq_iff_iff]; simp at *; omega) | (simp_all; done) | (simp_all; omega)))
      ·
       refine lskip rfl hg9 rfl ?_
       refine lskip rfl hg9 rfl ?_
       refine xlz (o_pT rfl rfl (g00 hg9) rfl rfl) ?_
       refine xlz (o_as rfl rfl rfl) ?_
       refine xlz (o_as rfl rfl rfl) ?_
       refine xlz (o_as rfl rfl rfl) ?_
       refine lendF ?_
       refine awp_ret ?_
       refine ⟨[_, _, _], ⟨rfl, rfl, rfl, trivial⟩, ?_⟩
       first | (rw [← hI, scan_big hn (by simp at *; omega) (by simp at *; omega)]; exact ent_o3 (obs_cons rfl (o_eq rfl) obs_nil) rfl rfl (by first | rfl | (simp; done) | (simp; omega) | (congr 1; rw [Bool.eq_iff_iff]; simp at *; omega) | (simp_all; done) | (simp_all; omega)) rfl (by first | rfl | (simp; done) | (simp; omega) | (congr 1; rw [Bool.eq_iff_iff]; simp at *; omega) | (simp_all; done) | (simp_all; omega)) rfl (by first | rfl | (simp; done) | (simp; omega) | (congr 1; rw [Bool.eq_iff_iff]; simp at *; omega) | (simp_all; done) | (simp_all; omega))) | (rw [← hI, scan_stop hn h9 hk1 hb8]; exact ent_o3 (obs_cons rfl (o_eq rfl) obs_nil) rfl rfl (by first | rfl | (simp; done) | (simp; omega) | (congr 1; rw [Bool.eq_iff_iff]; simp at *; omega) | (simp_all; done) | (simp_all; omega)) rfl (by first | rfl | (simp; done) | (simp; omega) | (congr 1; rw [Bool.eq_iff_iff]; simp at *; omega) | (simp_all; done) | (simp_all; omega)) rfl (by first | rfl | (simp; done) | (simp; omega) | (congr 1; rw [Bool.eq_iff_iff]; simp at *; omega) | (simp_all; done) | (simp_all; omega))) | (rw [← hI, scan_end (by simp at *; omega)]; exact ent_o3 (obs_cons rfl (o_eq rfl) obs_nil) rfl rfl (by first | rfl | (simp; done) | (simp; omega) | (congr 1; rw [Bool.eq_iff_iff]; simp at *; omega) | (simp_all; done) | (simp_all; omega)) rfl (by first | rfl | (simp; done) | (simp; omega) | (congr 1; rw [Bool.eq_iff_iff]; simp at *; omega) | (simp_all; done) | (simp_all; omega)) rfl (by first | rfl | (simp; done) | (simp; omega) | (congr 1; rw [Bool.eq_iff_iff]; simp at *; omega) | (simp_all; done) | (simp_all; omega)))
     ·
      have hge : ¬ b.toNat < 128 := by have := hc8; simp at this; omega
      refine awp_skip ?_
      refine awp_region mixed ?_
      refine xlz (o_mv rfl rfl rfl) ?_
      refine xlz (o_add rfl rfl rfl rfl (by first | omega | (simp; omega) | (simp at *; omega))) ?_
      refine xlz (o_as rfl rfl rfl) ?_
      refine lendF ?_
      refine ⟨(i + 1, acc + b.toNat % 128 * 128 ^ i), ?_, ?_, ?_⟩
      ·
       exact ⟨by show i + 1 ≤ 10; omega, by show p + (i + 1) ≤ _; have := rng_le hn; omega, acc_lt h3 hb, by show scanL (List.drop (p + (i + 1)) _) (p + (i + 1)) (i + 1) _ = _; rw [← hI, scan_next hn h9 hk1 hge]; rfl⟩
      ·
       exact ent_k [] rfl rfl (xkc <| xkc <| xkc <| xkc <| .nil) (obs_cons rfl (o_eq rfl) obs_nil) rfl
      ·
       show 10 - (i + 1) < 10 - i; omega
   ·
    refine awp_exit ?_
    refine xsr ?_
    refine xlz (o_as rfl rfl rfl) ?_
    refine xlz (o_as rfl rfl rfl) ?_
    refine xlz (o_as rfl rfl rfl) ?_
    refine lendF ?_
    refine awp_ret ?_
    refine ⟨[_, _, _], ⟨rfl, rfl, rfl, trivial⟩, ?_⟩
    first | (rw [← hI, scan_big hn (by simp at *; omega) (by simp at *; omega)]; exact ent_o3 (obs_cons rfl (o_eq rfl) obs_nil) rfl rfl (by first | rfl | (simp; done) | (simp; omega) | (congr 1; rw [Bool.eq_iff_iff]; simp at *; omega) | (simp_all; done) | (simp_all; omega)) rfl (by first | rfl | (simp; done) | (simp; omega) | (congr 1; rw [Bool.eq_iff_iff]; simp at *; omega) | (simp_all; done) | (simp_all; omega)) rfl (by first | rfl | (simp; done) | (simp; omega) | (congr 1; rw [Bool.eq_iff_iff]; simp at *; omega) | (simp_all; done) | (simp_all; omega))) | (rw [← hI, scan_stop hn h9 hk1 hb8]; exact ent_o3 (obs_cons rfl (o_eq rfl) obs_nil) rfl rfl (by first | rfl | (simp; done) | (simp; omega) | (congr 1; rw [Bool.eq_iff_iff]; simp at *; omega) | (simp_all; done) | (simp_all; omega)) rfl (by first | rfl | (simp; done) | (simp; omega) | (congr 1; rw [Bool.eq_iff_iff]; simp at *; omega) | (simp_all; done) | (simp_all; omega)) rfl (by first | rfl | (simp; done) | (simp; omega) | (congr 1; rw [Bool.eq_iff_iff]; simp at *; omega) | (simp_all; done) | (simp_all; omega))) | (rw [← hI, scan_end (by simp at *; omega)]; exact ent_o3 (obs_cons rfl (o_eq rfl) obs_nil) rfl rfl (by first | rfl | (simp; done) | (simp; omega) | (congr 1; rw [Bool.eq_iff_iff]; simp at *; omega) | (simp_all; done) | (simp_all; omega)) rfl (by first | rfl | (simp; done) | (simp; omega) | (congr 1; rw [Bool.eq_iff_iff]; simp at *; omega) | (simp_all; done) | (simp_all; omega)) rfl (by first | rfl | (simp; done) | (simp; omega) | (congr 1; rw [Bool.eq_iff_iff]; simp at *; omega) | (simp_all; done) | (simp_all; omega)))
  ·
   refine lskip rfl hg1 rfl ?_
   refine lskip rfl hg1 rfl ?_
   refine xlz (o_pF rfl rfl (g10 hg1) rfl rfl) ?_
   refine lendF ?_
   refine awp_condF rfl rfl rfl ?_
   refine awp_exit ?_
   refine xsr ?_
   refine xlz (o_as rfl rfl rfl) ?_
   refine xlz (o_as rfl rfl rfl) ?_
   refine xlz (o_as rfl rfl rfl) ?_
   refine lendF ?_
   refine awp_ret ?_
   refine ⟨[_, _, _], ⟨rfl, rfl, rfl, trivial⟩, ?_⟩
   first | (rw [← hI, scan_big hn (by simp at *; omega) (by simp at *; omega)]; exact ent_o3 (obs_cons rfl (o_eq rfl) obs_nil) rfl rfl (by first | rfl | (simp; done) | (simp; omega) | (congr 1; rw [Bool.eq_iff_iff]; simp at *; omega) | (simp_all; done) | (simp_all; omega)) rfl (by first | rfl | (simp; done) | (simp; omega) | (congr 1; rw [Bool.eq_iff_iff]; simp at *; omega) | (simp_all; done) | (simp_all; omega)) rfl (by first | rfl | (simp; done) | (simp; omega) | (congr 1; rw [Bool.eq_iff_iff]; simp at *; omega) | (simp_all; done) | (simp_all; omega))) | (rw [← hI, scan_stop hn h9 hk1 hb8]; exact ent_o3 (obs_cons rfl (o_eq rfl) obs_nil) rfl rfl (by first | rfl | (simp; done) | (simp; omega) | (congr 1; rw [Bool.eq_iff_iff]; simp at *; omega) | (simp_all; done) | (simp_all; omega)) rfl (by first | rfl | (simp; done) | (simp; omega) | (congr 1; rw [Bool.eq_iff_iff]; simp at *; omega) | (simp_all; done) | (simp_all; omega)) rfl (by first | rfl | (simp; done) | (simp; omega) | (congr 1; rw [Bool.eq_iff_iff]; simp at *; omega) | (simp_all; done) | (simp_all; omega))) | (rw [← hI, scan_end (by simp at *; omega)]; exact ent_o3 (obs_cons rfl (o_eq rfl) obs_nil) rfl rfl (by first | rfl | (simp; done) | (simp; omega) | (congr 1; rw [Bool.eq_iff_iff]; simp at *; omega) | (simp_all; done) | (simp_all; omega)) rfl (by first | rfl | (simp; done) | (simp; omega) | (congr 1; rw [Bool.eq_iff_iff]; simp at *; omega) | (simp_all; done) | (simp_all; omega)) rfl (by first | rfl | (simp; done) | (simp; omega) | (congr 1; rw [Bool.eq_iff_iff]; simp at *; omega) | (simp_all; done) | (simp_all; omega)))

end Go.Pm

namespace Go.Pm
open Go.Proofs

set_option maxRecDepth 10000 in
theorem c105 (r : RS) (p : Nat) (hs : r.s.length < 4611686018427387904) (hp : p ≤ r.s.length) : Fn PR 105 [.ptr 1000000 0, .d (I (p : Nat))] [(1000000, .cells [.d (.str r.s), .d (I r.pos), .d (I r.e)])] [.d (I (IntKind.i64.wrap ((rdU r.s p).1 : Nat))), .d (I ((rdU r.s p).2.1 : Nat)), .d (.bool (rdOK r.s p))] [(1000000, .cells [.d (.str r.s), .d (I r.pos), .d (I r.e)])] := by
 refine fn_of_awp Tryz.func105 rfl (N := 26) rfl ?_
 refine xsr ?_
 refine xlz (o_as rfl rfl rfl) ?_
 refine xlz (o_as rfl rfl rfl) ?_
 refine xlz (o_as rfl rfl rfl) ?_
 refine lendF ?_
 refine xsr ?_
 refine xlz (o_mv rfl rfl rfl) ?_
 refine xlz (o_mv rfl rfl rfl) ?_
 refine xlz (o_callR [1000000] (c131 r p hs hp) rfl rfl rfl ca131 rfl (by decide) (handOK_cons (by decide) (by decide) rfl rfl handOK_nil) rfl) ?_
 refine xlz (o_mv rfl rfl rfl) ?_
 refine xlz (op_extract rfl rfl rfl rfl) ?_
 refine xlz (op_extract rfl rfl rfl rfl) ?_
 refine xlz (op_extract rfl rfl rfl rfl) ?_
 refine xlz (o_as rfl rfl rfl) ?_
 refine xlz (o_as rfl rfl rfl) ?_
 refine xlz (o_as rfl rfl rfl) ?_
 refine lendF ?_
 refine xsr ?_
 refine xlz (o_mv rfl rfl rfl) ?_
 refine xlz (op_convI rfl rfl rfl ty136 ty3) ?_
 refine xlz (o_mv rfl rfl rfl) ?_
 refine xlz (o_mv rfl rfl rfl) ?_
 refine xlz (o_mv rfl rfl rfl) ?_
 refine lsplit rfl (fun hg1 => ?_) (fun hg1 => ?_)
 ·
  refine lg (o_mv rfl rfl rfl) rfl hg1 rfl rfl ?_
  refine lg (op_binI rfl rfl rfl rfl rfl (.inr (.inr rfl)) rfl) rfl hg1 rfl rfl ?_
  refine lg (o_eqB (op_binI rfl rfl rfl rfl rfl (.inl rfl) rfl) (shr63 _ (rdU_lt r.s p))) rfl hg1 rfl rfl ?_
  refine xlz (o_pT rfl rfl (g11 hg1) rfl rfl) ?_
  refine xlz (o_as rfl rfl rfl) ?_
  refine xlz (o_as rfl rfl rfl) ?_
  refine xlz (o_as rfl rfl rfl) ?_
  refine lendF ?_
  refine awp_ret ?_
  refine ⟨[_, _, _], ⟨rfl, rfl, rfl, trivial⟩, ?_⟩
  exact ent_o3 (obs_cons rfl (o_eq rfl) obs_nil) rfl rfl rfl rfl rfl rfl (by simp_all [rdOK])
 ·
  refine lskip rfl hg1 rfl ?_
  refine lskip rfl hg1 rfl ?_
  refine lskip rfl hg1 rfl ?_
  refine xlz (o_pF rfl rfl (g10 hg1) rfl rfl) ?_
  refine xlz (o_as rfl rfl rfl) ?_
  refine xlz (o_as rfl rfl rfl) ?_
  refine xlz (o_as rfl rfl rfl) ?_
  refine lendF ?_
  refine awp_ret ?_
  refine ⟨[_, _, _], ⟨rfl, rfl, rfl, trivial⟩, ?_⟩
  exact ent_o3 (obs_cons rfl (o_eq rfl) obs_nil) rfl rfl rfl rfl rfl rfl (by simp_all [rdOK])

set_option maxRecDepth 10000 in
theorem c100 (r : RS) (p : Nat) (hs : r.s.length < 4611686018427387904) (hp : p ≤ r.s.length) : Fn PR 100 [.ptr 1000000 0, .d (I (p : Nat))] [(1000000, .cells [.d (.str r.s), .d (I r.pos), .d (I r.e)])] [.d (.str (rdT r.s p).1), .d (I ((rdT r.s p).2.1 : Nat)), .d (.bool (rdT r.s p).2.2)] [(1000000, .cells [.d (.str r.s), .d (I r.pos), .d (I r.e)])] := by
 refine fn_of_awp Tryz.func100 rfl (N := 42) rfl ?_
 have hlt := rdU_lt r.s p
 have hle := rdU_le hp
 refine xsr ?_
 refine xlz (o_as rfl rfl rfl) ?_
 refine xlz (o_as rfl rfl rfl) ?_
 refine xlz (o_as rfl rfl rfl) ?_
 refine lendF ?_
 refine xsr ?_
 refine xlz (o_mv rfl rfl rfl) ?_
 refine xlz (o_mv rfl rfl rfl) ?_
 refine xlz (o_callR [1000000] (c105 r p hs hp) rfl rfl rfl ca105 rfl (by decide) (handOK_cons (by decide) (by decide) rfl rfl handOK_nil) rfl) ?_
 refine xlz (o_mv rfl rfl rfl) ?_
 refine xlz (op_extract rfl rfl rfl rfl) ?_
 refine xlz (op_extract rfl rfl rfl rfl) ?_
 refine xlz (op_extract rfl rfl rfl rfl) ?_
 refine xlz (o_as rfl rfl rfl) ?_
 refine xlz (o_as rfl rfl rfl) ?_
 refine xlz (o_as rfl rfl rfl) ?_
 refine lendF ?_
 refine awp_seq ?_
 refine xsr ?_
 refine xlz (o_mv rfl rfl rfl) ?_
 refine xlz (op_not rfl rfl rfl) ?_
 refine xlz (o_mv rfl rfl rfl) ?_
 refine lsplit rfl (fun hg1 => ?_) (fun hg1 => ?_)
 ·
  refine lg (o_mv rfl rfl rfl) rfl hg1 rfl rfl ?_
  refine lg (o_mv rfl rfl rfl) rfl hg1 rfl rfl ?_
  refine lg (op_nilCheckP rfl rfl rfl rfl) rfl hg1 rfl rfl ?_
  refine lg (op_fieldP rfl rfl rfl fl140_0) rfl hg1 rfl rfl ?_
  refine lg (op_load1 rfl rfl rfl rfl ty9 rfl rfl) rfl hg1 rfl rfl ?_
  refine lg (op_lenS rfl rfl rfl ty9) rfl hg1 rfl rfl ?_
  refine lg (o_mv rfl rfl rfl) rfl hg1 rfl rfl ?_
  refine lg (o_sub rfl rfl rfl rfl (by first | omega | (simp; omega) | (simp at *; omega))) rfl hg1 rfl rfl ?_
  refine lg (op_binI rfl rfl rfl rfl rfl (.inl rfl) rfl) rfl hg1 rfl rfl ?_
  refine xlz (o_pF rfl rfl (g01 hg1) rfl rfl) ?_
  refine lendF ?_
  refine awp_cond rfl rfl (fun hc2 => ?_) (fun hc2 => ?_)
  ·
   refine xsr ?_
   refine xlz (o_as rfl rfl rfl) ?_
   refine xlz (o_as rfl rfl rfl) ?_
   refine xlz (o_as rfl rfl rfl) ?_
   refine lendF ?_
   refine awp_ret ?_
   refine ⟨[_, _, _], ⟨rfl, rfl, rfl, trivial⟩, ?_⟩
   have hok : rdOK r.s p = true := by simp_all
   have hw : IntKind.i64.wrap ((rdU r.s p).1 : Int) = ((rdU r.s p).1 : Nat) := wrap64 (by omega) (by have := hok; simp [rdOK] at this; omega)
   have hfit : ¬ (rdU r.s p).1 + (rdU r.s p).2.1 ≤ r.s.length := by have := hc2; rw [hw] at this; simp at this; omega
   rw [show rdT r.s p = ([], 0, false) from by simp [rdT, hfit]]
   exact ent_o3 (obs_cons rfl (o_eq rfl) obs_nil) rfl rfl rfl rfl rfl rfl rfl
  ·
   refine awp_skip ?_
   refine xsr ?_
   have hok : rdOK r.s p = true := by simp_all
   have hw : IntKind.i64.wrap ((rdU r.s p).1 : Int) = ((rdU r.s p).1 : Nat) := wrap64 (by omega) (by have := hok; simp [rdOK] at this; omega)
   have hfit : (rdU r.s p).1 + (rdU r.s p).2.1 ≤ r.s.length := by have := hc2; rw [hw] at this; simp at this; omega
   refine xlz (o_mv rfl rfl rfl) ?_
   refine xlz (op_nilCheckP rfl rfl rfl rfl) ?_
   refine xlz (op_fieldP rfl rfl rfl fl140_0) ?_
   refine xlz (op_load1 rfl rfl rfl rfl ty9 rfl rfl) ?_
   refine xlz (o_mv rfl rfl rfl) ?_
   refine xlz (o_mv rfl rfl rfl) ?_
   refine xlz (o_mv rfl rfl rfl) ?_
   refine xlz (o_add rfl rfl rfl rfl (by first | omega | (simp; omega) | (simp at *; omega))) ?_
   refine xlz (o_slS rfl rfl rfl ty9 (.some rfl rfl (n := (rdU r.s p).2.1) (by first | rfl | omega | (simp; done) | (simp; omega))) (.some rfl rfl (n := (rdU r.s p).2.1 + (rdU r.s p).1) (by first | rfl | omega | (simp; done) | (simp; omega))) (by first | omega | (simp; omega) | (simp at *; omega)) (by first | omega | (simp; omega) | (simp at *; omega))) ?_
   refine xlz (o_mv rfl rfl rfl) ?_
   refine xlz (o_mv rfl rfl rfl) ?_
   refine xlz (o_add rfl rfl rfl rfl (by first | omega | (simp; omega) | (simp at *; omega))) ?_
   refine xlz (o_as rfl rfl rfl) ?_
   refine xlz (o_as rfl rfl rfl) ?_
   refine xlz (o_as rfl rfl rfl) ?_
   refine lendF ?_
   refine awp_ret ?_
   refine ⟨[_, _, _], ⟨rfl, rfl, rfl, trivial⟩, ?_⟩
   rw [show rdT r.s p = ((r.s.drop (rdU r.s p).2.1).take (rdU r.s p).1, (rdU r.s p).2.1 + (rdU r.s p).1, true) from by simp [rdT, hok]; omega]
   exact ent_o3 (obs_cons rfl (o_eq rfl) obs_nil) rfl rfl (by simp) rfl (by simp; omega) rfl rfl
 ·
  refine lskip rfl hg1 rfl ?_
  refine lskip rfl hg1 rfl ?_
  refine lskip rfl hg1 rfl ?_
  refine lskip rfl hg1 rfl ?_
  refine lskip rfl hg1 rfl ?_
  refine lskip rfl hg1 rfl ?_
  refine lskip rfl hg1 rfl ?_
  refine lskip rfl hg1 rfl ?_
  refine lskip rfl hg1 rfl ?_
  refine xlz (o_pT rfl rfl (g00 hg1) rfl rfl) ?_
  refine lendF ?_
  refine awp_condT rfl rfl rfl ?_
  refine xsr ?_
  refine xlz (o_as rfl rfl rfl) ?_
  refine xlz (o_as rfl rfl rfl) ?_
  refine xlz (o_as rfl rfl rfl) ?_
  refine lendF ?_
  refine awp_ret ?_
  refine ⟨[_, _, _], ⟨rfl, rfl, rfl, trivial⟩, ?_⟩
  rw [show rdT r.s p = ([], 0, false) from by simp_all [rdT]]
  exact ent_o3 (obs_cons rfl (o_eq rfl) obs_nil) rfl rfl rfl rfl rfl rfl rfl

end Go.Pm

namespace Go.Pm
open Go.Proofs

set_option maxRecDepth 10000 in
theorem c99 (r : RS) (hs : r.s.length < 4611686018427387904) (hp : r.pos ≤ r.s.length) : Fn PR 99 [.ptr 1000000 0, .fn (.func 100) [.ptr 1000000 0] []] [(1000000, .cells [.d (.str r.s), .d (I r.pos), .d (I r.e)])] [.d (.str (r.text).1)] [(1000000, (r.text).2.ob)] := by
 refine fn_of_awp Tryz.func99 rfl (N := 36) rfl ?_
 refine xsr ?_
 refine xlz (o_as rfl rfl rfl) ?_
 refine lendF ?_
 refine xsr ?_
 refine xlz (o_as rfl rfl rfl) ?_
 refine lendF ?_
 refine awp_seq ?_
 refine xsr ?_
 refine xlz (o_mv rfl rfl rfl) ?_
 refine xlz (op_nilCheckP rfl rfl rfl rfl) ?_
 refine xlz (op_fieldP rfl rfl rfl fl140_2) ?_
 refine xlz (op_load1 rfl rfl rfl rfl ty34 rfl rfl) ?_
 refine xlz (op_binI rfl rfl rfl rfl rfl (.inl rfl) rfl) ?_
 refine lendF ?_
 refine awp_cond rfl rfl (fun hc1 => ?_) (fun hc1 => ?_)
 ·
  refine xsr ?_
  refine xlz (o_mv rfl rfl rfl) ?_
  refine xlz (o_as rfl rfl rfl) ?_
  refine lendF ?_
  refine awp_ret ?_
  refine ⟨[_], ⟨rfl, trivial⟩, ?_⟩
  rw [show r.text = ([], r) from by simp_all [RS.text, RS.take]]
  exact ent_o1 (obs_cons rfl (o_eq rfl) obs_nil) rfl rfl rfl
 ·
  refine awp_skip ?_
  refine xsr ?_
  refine xlz (o_mv rfl rfl rfl) ?_
  refine xlz (o_mv rfl rfl rfl) ?_
  refine xlz (op_nilCheckP rfl rfl rfl rfl) ?_
  refine xlz (op_fieldP rfl rfl rfl fl140_1) ?_
  refine xlz (op_load1 rfl rfl rfl rfl ty3 rfl rfl) ?_
  refine xlz (o_callR [1000000] (c100 r r.pos hs hp) rfl rfl rfl ca100 rfl (by decide) (handOK_cons (by decide) (by decide) rfl rfl handOK_nil) rfl) ?_
  refine xlz (o_mv rfl rfl rfl) ?_
  refine xlz (op_extract rfl rfl rfl rfl) ?_
  refine xlz (op_extract rfl rfl rfl rfl) ?_
  refine xlz (op_extract rfl rfl rfl rfl) ?_
  refine xlz (o_as rfl rfl rfl) ?_
  refine xlz (o_as rfl rfl rfl) ?_
  refine xlz (o_as rfl rfl rfl) ?_
  refine lendF ?_
  refine awp_seq ?_
  refine xsr ?_
  refine xlz (o_mv rfl rfl rfl) ?_
  refine xlz (op_not rfl rfl rfl) ?_
  refine lendF ?_
  refine awp_cond rfl rfl (fun hc2 => ?_) (fun hc2 => ?_)
  ·
   refine xsr ?_
   refine xlz (o_mv rfl rfl rfl) ?_
   refine xlz (op_nilCheckP rfl rfl rfl rfl) ?_
   refine xlz (op_fieldP rfl rfl rfl fl140_2) ?_
   refine xlz (op_store rfl rfl rfl rfl rfl rfl ty34 rfl (xlb rfl)) ?_
   refine lendF ?_
   refine xsr ?_
   refine xlz (o_mv rfl rfl rfl) ?_
   refine xlz (o_as rfl rfl rfl) ?_
   refine lendF ?_
   refine awp_ret ?_
   refine ⟨[_], ⟨rfl, trivial⟩, ?_⟩
   rw [show r.text = ([], { r with e := 9 }) from by simp_all [RS.text, RS.take]]
   exact ent_o1 (obs_cons rfl (o_eq rfl) obs_nil) rfl rfl rfl
  ·
   refine awp_skip ?_
   refine xsr ?_
   refine xlz (o_mv rfl rfl rfl) ?_
   refine xlz (o_mv rfl rfl rfl) ?_
   refine xlz (op_nilCheckP rfl rfl rfl rfl) ?_
   refine xlz (op_fieldP rfl rfl rfl fl140_1) ?_
   refine xlz (op_store rfl rfl rfl rfl rfl rfl ty3 rfl (xlb rfl)) ?_
   refine lendF ?_
   refine xsr ?_
   refine xlz (o_mv rfl rfl rfl) ?_
   refine xlz (o_as rfl rfl rfl) ?_
   refine lendF ?_
   refine awp_ret ?_
   refine ⟨[_], ⟨rfl, trivial⟩, ?_⟩
   rw [show r.text = ((rdT r.s r.pos).1, { r with pos := (rdT r.s r.pos).2.1 }) from by simp_all [RS.text, RS.take]]
   exact ent_o1 (obs_cons rfl (o_eq rfl) obs_nil) rfl rfl rfl

set_option maxRecDepth 10000 in
theorem c104u (r : RS) (hs : r.s.length < 4611686018427387904) (hp : r.pos ≤ r.s.length) : Fn PR 104 [.ptr 1000000 0, .fn (.func 105) [.ptr 1000000 0] []] [(1000000, .cells [.d (.str r.s), .d (I r.pos), .d (I r.e)])] [.d (I (r.uint).1)] [(1000000, (r.uint).2.ob)] := by
 refine fn_of_awp Tryz.func104 rfl (N := 36) rfl ?_
 refine xsr ?_
 refine xlz (o_as rfl rfl rfl) ?_
 refine lendF ?_
 refine xsr ?_
 refine xlz (o_as rfl rfl rfl) ?_
 refine lendF ?_
 refine awp_seq ?_
 refine xsr ?_
 refine xlz (o_mv rfl rfl rfl) ?_
 refine xlz (op_nilCheckP rfl rfl rfl rfl) ?_
 refine xlz (op_fieldP rfl rfl rfl fl140_2) ?_
 refine xlz (op_load1 rfl rfl rfl rfl ty34 rfl rfl) ?_
 refine xlz (op_binI rfl rfl rfl rfl rfl (.inl rfl) rfl) ?_
 refine lendF ?_
 refine awp_cond rfl rfl (fun hc1 => ?_) (fun hc1 => ?_)
 ·
  refine xsr ?_
  refine xlz (o_mv rfl rfl rfl) ?_
  refine xlz (o_as rfl rfl rfl) ?_
  refine lendF ?_
  refine awp_ret ?_
  refine ⟨[_], ⟨rfl, trivial⟩, ?_⟩
  rw [show r.uint = (0, r) from by simp_all [RS.uint, RS.take]]
  exact ent_o1 (obs_cons rfl (o_eq rfl) obs_nil) rfl rfl rfl
 ·
  refine awp_skip ?_
  refine xsr ?_
  refine xlz (o_mv rfl rfl rfl) ?_
  refine xlz (o_mv rfl rfl rfl) ?_
  refine xlz (op_nilCheckP rfl rfl rfl rfl) ?_
  refine xlz (op_fieldP rfl rfl rfl fl140_1) ?_
  refine xlz (op_load1 rfl rfl rfl rfl ty3 rfl rfl) ?_
  refine xlz (o_callR [1000000] (c105 r r.pos hs hp) rfl rfl rfl ca105 rfl (by decide) (handOK_cons (by decide) (by decide) rfl rfl handOK_nil) rfl) ?_
  refine xlz (o_mv rfl rfl rfl) ?_
  refine xlz (op_extract rfl rfl rfl rfl) ?_
  refine xlz (op_extract rfl rfl rfl rfl) ?_
  refine xlz (op_extract rfl rfl rfl rfl) ?_
  refine xlz (o_as rfl rfl rfl) ?_
  refine xlz (o_as rfl rfl rfl) ?_
  refine xlz (o_as rfl rfl rfl) ?_
  refine lendF ?_
  refine awp_seq ?_
  refine xsr ?_
  refine xlz (o_mv rfl rfl rfl) ?_
  refine xlz (op_not rfl rfl rfl) ?_
  refine lendF ?_
  refine awp_cond rfl rfl (fun hc2 => ?_) (fun hc2 => ?_)
  ·
   refine xsr ?_
   refine xlz (o_mv rfl rfl rfl) ?_
   refine xlz (op_nilCheckP rfl rfl rfl rfl) ?_
   refine xlz (op_fieldP rfl rfl rfl fl140_2) ?_
   refine xlz (op_store rfl rfl rfl rfl rfl rfl ty34 rfl (xlb rfl)) ?_
   refine lendF ?_
   refine xsr ?_
   refine xlz (o_mv rfl rfl rfl) ?_
   refine xlz (o_as rfl rfl rfl) ?_
   refine lendF ?_
   refine awp_ret ?_
   refine ⟨[_], ⟨rfl, trivial⟩, ?_⟩
   have hok : rdOK r.s r.pos = false := by simp_all
   rw [show r.uint = (0, { r with e := 9 }) from by simp_all [RS.uint, RS.take, rdN]]
   exact ent_o1 (obs_cons rfl (o_eq rfl) obs_nil) rfl rfl rfl
  ·
   refine awp_skip ?_
   refine xsr ?_
   refine xlz (o_mv rfl rfl rfl) ?_
   refine xlz (o_mv rfl rfl rfl) ?_
   refine xlz (op_nilCheckP rfl rfl rfl rfl) ?_
   refine xlz (op_fieldP rfl rfl rfl fl140_1) ?_
   refine xlz (op_store rfl rfl rfl rfl rfl rfl ty3 rfl (xlb rfl)) ?_
   refine lendF ?_
   refine xsr ?_
   refine xlz (o_mv rfl rfl rfl) ?_
   refine xlz (o_as rfl rfl rfl) ?_
   refine lendF ?_
   refine awp_ret ?_
   refine ⟨[_], ⟨rfl, trivial⟩, ?_⟩
   have hlt := rdU_lt r.s r.pos
   have hok : rdOK r.s r.pos = true := by simp_all
   have hw : IntKind.i64.wrap ((rdU r.s r.pos).1 : Int) = ((rdU r.s r.pos).1 : Nat) := wrap64 (by omega) (by have := hok; simp [rdOK] at this; omega)
   rw [show r.uint = ((((rdU r.s r.pos).1 : Nat) : Int), { r with pos := (rdU r.s r.pos).2.1 }) from by simp_all [RS.uint, RS.take, rdN]]
   exact ent_o1 (obs_cons rfl (o_eq rfl) obs_nil) rfl rfl (by rw [hw])

set_option maxRecDepth 10000 in
theorem c106 (r : RS) (p : Nat) (most : Int) (hs : r.s.length < 4611686018427387904) (hp : p ≤ r.s.length) : Fn PR 106 [.d (I (p : Nat)), .ptr 1000000 0, .ptr 1000001 0] [(1000000, .cells [.ptr 1000002 0]), (1000001, .cells [.d (I most)]), (1000002, .cells [.d (.str r.s), .d (I r.pos), .d (I r.e)])] [.d (I (IntKind.i64.wrap ((rdU r.s p).1 : Nat))), .d (I ((rdU r.s p).2.1 : Nat)), .d (.bool (rdOK r.s p && decide (IntKind.i64.wrap ((rdU r.s p).1 : Nat) ≤ most)))] [(1000000, .cells [.ptr 1000002 0]), (1000001, .cells [.d (I most)]), (1000002, .cells [.d (.str r.s), .d (I r.pos), .d (I r.e)])] := by
 refine fn_of_awp Tryz.func106 rfl (N := 25) rfl ?_
 refine xsr ?_
 refine xlz (o_as rfl rfl rfl) ?_
 refine xlz (o_as rfl rfl rfl) ?_
 refine xlz (o_as rfl rfl rfl) ?_
 refine lendF ?_
 refine xsr ?_
 refine xlz (op_load1 rfl rfl rfl rfl ty104 rfl rfl) ?_
 refine xlz (o_mv rfl rfl rfl) ?_
 refine xlz (o_callR [1000002] (c105 r p hs hp) rfl rfl rfl ca105 rfl (by decide) (handOK_cons (by decide) (by decide) rfl rfl handOK_nil) rfl) ?_
 refine xlz (o_mv rfl rfl rfl) ?_
 refine xlz (op_extract rfl rfl rfl rfl) ?_
 refine xlz (op_extract rfl rfl rfl rfl) ?_
 refine xlz (op_extract rfl rfl rfl rfl) ?_
 refine xlz (o_as rfl rfl rfl) ?_
 refine xlz (o_as rfl rfl rfl) ?_
 refine xlz (o_as rfl rfl rfl) ?_
 refine lendF ?_
 refine xsr ?_
 refine xlz (o_mv rfl rfl rfl) ?_
 refine xlz (o_mv rfl rfl rfl) ?_
 refine xlz (o_mv rfl rfl rfl) ?_
 refine xlz (o_mv rfl rfl rfl) ?_
 refine lsplit rfl (fun hg1 => ?_) (fun hg1 => ?_)
 ·
  refine lg (o_mv rfl rfl rfl) rfl hg1 rfl rfl ?_
  refine lg (op_load1 rfl rfl rfl rfl ty3 rfl rfl) rfl hg1 rfl rfl ?_
  refine lg (op_binI rfl rfl rfl rfl rfl (.inl rfl) rfl) rfl hg1 rfl rfl ?_
  refine xlz (o_pT rfl rfl (g11 hg1) rfl rfl) ?_
  refine xlz (o_as rfl rfl rfl) ?_
  refine xlz (o_as rfl rfl rfl) ?_
  refine xlz (o_as rfl rfl rfl) ?_
  refine lend (fun _ => by kernel_rfl) ?_
  refine awp_ret ?_
  refine ⟨[_, _, _], ⟨rfl, rfl, rfl, trivial⟩, ?_⟩
  exact ent_o3 (obs_cons rfl (o_eq rfl) (obs_cons rfl (o_eq rfl) (obs_cons rfl (o_eq rfl) obs_nil))) rfl rfl rfl rfl rfl rfl (by simp_all)
 ·
  refine lskip rfl hg1 rfl ?_
  refine lskip rfl hg1 rfl ?_
  refine lskip rfl hg1 rfl ?_
  refine xlz (o_pF rfl rfl (g10 hg1) rfl rfl) ?_
  refine xlz (o_as rfl rfl rfl) ?_
  refine xlz (o_as rfl rfl rfl) ?_
  refine xlz (o_as rfl rfl rfl) ?_
  refine lend (fun _ => by kernel_rfl) ?_
  refine awp_ret ?_
  refine ⟨[_, _, _], ⟨rfl, rfl, rfl, trivial⟩, ?_⟩
  exact ent_o3 (obs_cons rfl (o_eq rfl) (obs_cons rfl (o_eq rfl) (obs_cons rfl (o_eq rfl) obs_nil))) rfl rfl rfl rfl rfl rfl (by simp_all)

set_option maxRecDepth 10000 in
theorem c104c (r : RS) (most : Int) (hs : r.s.length < 4611686018427387904) (hp : r.pos ≤ r.s.length) : Fn PR 104 [.ptr 1000002 0, .fn (.func 106) [] [.ptr 1000000 0, .ptr 1000001 0]] [(1000000, .cells [.ptr 1000002 0]), (1000001, .cells [.d (I most)]), (1000002, .cells [.d (.str r.s), .d (I r.pos), .d (I r.e)])] [.d (I (r.count most).1)] [(1000000, .cells [.ptr 1000002 0]), (1000001, .cells [.d (I most)]), (1000002, (r.count most).2.ob)] := by
 refine fn_of_awp Tryz.func104 rfl (N := 36) rfl ?_
 refine xsr ?_
 refine xlz (o_as rfl rfl rfl) ?_
 refine lendF ?_
 refine xsr ?_
 refine xlz (o_as rfl rfl rfl) ?_
 refine lendF ?_
 refine awp_seq ?_
 refine xsr ?_
 refine xlz (o_mv rfl rfl rfl) ?_
 refine xlz (op_nilCheckP rfl rfl rfl rfl) ?_
 refine xlz (op_fieldP rfl rfl rfl fl140_2) ?_
 refine xlz (op_load1 rfl rfl rfl rfl ty34 rfl rfl) ?_
 refine xlz (op_binI rfl rfl rfl rfl rfl (.inl rfl) rfl) ?_
 refine lendF ?_
 refine awp_cond rfl rfl (fun hc1 => ?_) (fun hc1 => ?_)
 ·
  refine xsr ?_
  refine xlz (o_mv rfl rfl rfl) ?_
  refine xlz (o_as rfl rfl rfl) ?_
  refine lendF ?_
  refine awp_ret ?_
  refine ⟨[_], ⟨rfl, trivial⟩, ?_⟩
  rw [show r.count most = (0, r) from by simp_all [RS.count, RS.take]]
  exact ent_o1 (obs_cons rfl (o_eq rfl) (obs_cons rfl (o_eq rfl) (obs_cons rfl (o_eq rfl) obs_nil))) rfl rfl rfl
 ·
  refine awp_skip ?_
  refine xsr ?_
  refine xlz (o_mv rfl rfl rfl) ?_
  refine xlz (o_mv rfl rfl rfl) ?_
  refine xlz (op_nilCheckP rfl rfl rfl rfl) ?_
  refine xlz (op_fieldP rfl rfl rfl fl140_1) ?_
  refine xlz (op_load1 rfl rfl rfl rfl ty3 rfl rfl) ?_
  refine xlz (o_callR [1000000, 1000001, 1000002] (c106 r r.pos most hs hp) rfl rfl rfl ca106 rfl (by decide) (handOK_cons (by decide) (by decide) rfl rfl (handOK_cons (by decide) (by decide) rfl rfl (handOK_cons (by decide) (by decide) rfl rfl handOK_nil))) rfl) ?_
  refine xlz (o_mv rfl rfl rfl) ?_
  refine xlz (op_extract rfl rfl rfl rfl) ?_
  refine xlz (op_extract rfl rfl rfl rfl) ?_
  refine xlz (op_extract rfl rfl rfl rfl) ?_
  refine xlz (o_as rfl rfl rfl) ?_
  refine xlz (o_as rfl rfl rfl) ?_
  refine xlz (o_as rfl rfl rfl) ?_
  refine lendF ?_
  refine awp_seq ?_
  refine xsr ?_
  refine xlz (o_mv rfl rfl rfl) ?_
  refine xlz (op_not rfl rfl rfl) ?_
  refine lendF ?_
  refine awp_cond rfl rfl (fun hc2 => ?_) (fun hc2 => ?_)
  ·
   refine xsr ?_
   refine xlz (o_mv rfl rfl rfl) ?_
   refine xlz (op_nilCheckP rfl rfl rfl rfl) ?_
   refine xlz (op_fieldP rfl rfl rfl fl140_2) ?_
   refine xlz (op_store rfl rfl rfl rfl rfl rfl ty34 rfl (xlb rfl)) ?_
   refine lendF ?_
   refine xsr ?_
   refine xlz (o_mv rfl rfl rfl) ?_
   refine xlz (o_as rfl rfl rfl) ?_
   refine lendF ?_
   refine awp_ret ?_
   refine ⟨[_], ⟨rfl, trivial⟩, ?_⟩
   have hno : (rdC r.s r.pos most).2.2 = false := by have hlt := rdU_lt r.s r.pos; have h1 := hc2; unfold rdC rdN; cases hok : rdOK r.s r.pos with | false => simp | true => (have hw : IntKind.i64.wrap ((rdU r.s r.pos).1 : Int) = ((rdU r.s r.pos).1 : Nat) := wrap64 (by omega) (by have := hok; simp [rdOK] at this; omega)); rw [hok, hw] at h1; simp at h1; rw [if_neg (by simp; omega)]
   rw [show r.count most = (0, { r with e := 9 }) from by simp_all [RS.count, RS.take]]
   exact ent_o1 (obs_cons rfl (o_eq rfl) (obs_cons rfl (o_eq rfl) (obs_cons rfl (o_eq rfl) obs_nil))) rfl rfl rfl
  ·
   refine awp_skip ?_
   refine xsr ?_
   refine xlz (o_mv rfl rfl rfl) ?_
   refine xlz (o_mv rfl rfl rfl) ?_
   refine xlz (op_nilCheckP rfl rfl rfl rfl) ?_
   refine xlz (op_fieldP rfl rfl rfl fl140_1) ?_
   refine xlz (op_store rfl rfl rfl rfl rfl rfl ty3 rfl (xlb rfl)) ?_
   refine lendF ?_
   refine xsr ?_
   refine xlz (o_mv rfl rfl rfl) ?_
   refine xlz (o_as rfl rfl rfl) ?_
   refine lendF ?_
   refine awp_ret ?_
   refine ⟨[_], ⟨rfl, trivial⟩, ?_⟩
   have hlt := rdU_lt r.s r.pos
   have hok : rdOK r.s r.pos = true := by simp_all
   have hw : IntKind.i64.wrap ((rdU r.s r.pos).1 : Int) = ((rdU r.s r.pos).1 : Nat) := wrap64 (by omega) (by have := hok; simp [rdOK] at this; omega)
   have hm : ((rdU r.s r.pos).1 : Int) ≤ most := by have := hc2; rw [hw] at this; simp at this; omega
   rw [show r.count most = ((((rdU r.s r.pos).1 : Nat) : Int), { r with pos := (rdU r.s r.pos).2.1 }) from by simp_all [RS.count, RS.take, rdC, rdN]]
   exact ent_o1 (obs_cons rfl (o_eq rfl) (obs_cons rfl (o_eq rfl) (obs_cons rfl (o_eq rfl) obs_nil))) rfl rfl (by rw [hw])

set_option maxRecDepth 10000 in
theorem c63 (s : Bytes) : Fn PR 63 [.d (.str s)] [] [.ptr 5 0] [(5, .cells [.d (.str s), .d (I 0), .d (I 0)])] := by
 refine fn_of_awp Tryz.func63 rfl (N := 6) rfl ?_
 refine xsr ?_
 refine xlz (o_as rfl rfl rfl) ?_
 refine lendF ?_
 refine xsr ?_
 refine xlz (o_mv rfl rfl rfl) ?_
 refine xlz (o_bld rfl rfl rfl bl140 ty140 zk140 rfl rfl rfl) ?_
 refine xlz (op_box rfl rfl (by decide) rfl rfl) ?_
 refine xlz (o_as rfl rfl rfl) ?_
 refine lendF ?_
 refine awp_ret ?_
 refine ⟨[_], ⟨rfl, trivial⟩, ?_⟩
 exact ent_id rfl (.cons rfl (k_eq rfl) .nil) (obs_cons rfl (o_eq rfl) obs_nil) rfl

set_option maxRecDepth 10000 in
theorem c64 (r : RS) (hs : r.s.length < 4611686018427387904) (hp : r.pos ≤ r.s.length) : Fn PR 64 [.ptr 1000000 0] [(1000000, .cells [.d (.str r.s), .d (I r.pos), .d (I r.e)])] [.d (.str (r.text).1)] [(1000000, (r.text).2.ob)] := by
 refine fn_of_awp Tryz.func64 rfl (N := 7) rfl ?_
 refine xsr ?_
 refine xlz (o_as rfl rfl rfl) ?_
 refine lendF ?_
 refine xsr ?_
 refine xlz (o_mv rfl rfl rfl) ?_
 refine xlz (o_mv rfl rfl rfl) ?_
 refine xlz (op_fn rfl rfl rfl rfl rfl) ?_
 refine xlz (o_callW [1000000] 6 (c99 r hs hp) rfl rfl rfl ca99 rfl (by decide) (handOK_cons (by decide) (by decide) rfl rfl handOK_nil) rfl rfl rfl rfl) ?_
 refine xlz (o_as rfl rfl rfl) ?_
 refine lendF ?_
 refine awp_ret ?_
 refine ⟨[_], ⟨rfl, trivial⟩, ?_⟩
 exact ent_o1 (obs_cons rfl (o_eq rfl) obs_nil) rfl rfl rfl

set_option maxRecDepth 10000 in
theorem c66 (r : RS) (hs : r.s.length < 4611686018427387904) (hp : r.pos ≤ r.s.length) : Fn PR 66 [.ptr 1000000 0] [(1000000, .cells [.d (.str r.s), .d (I r.pos), .d (I r.e)])] [.d (I (r.uint).1)] [(1000000, (r.uint).2.ob)] := by
 refine fn_of_awp Tryz.func66 rfl (N := 7) rfl ?_
 refine xsr ?_
 refine xlz (o_as rfl rfl rfl) ?_
 refine lendF ?_
 refine xsr ?_
 refine xlz (o_mv rfl rfl rfl) ?_
 refine xlz (o_mv rfl rfl rfl) ?_
 refine xlz (op_fn rfl rfl rfl rfl rfl) ?_
 refine xlz (o_callW [1000000] 6 (c104u r hs hp) rfl rfl rfl ca104 rfl (by decide) (handOK_cons (by decide) (by decide) rfl rfl handOK_nil) rfl rfl rfl rfl) ?_
 refine xlz (o_as rfl rfl rfl) ?_
 refine lendF ?_
 refine awp_ret ?_
 refine ⟨[_], ⟨rfl, trivial⟩, ?_⟩
 exact ent_o1 (obs_cons rfl (o_eq rfl) obs_nil) rfl rfl rfl

set_option maxRecDepth 10000 in
theorem c67 (r : RS) (most : Int) (hs : r.s.length < 4611686018427387904) (hp : r.pos ≤ r.s.length) : Fn PR 67 [.ptr 1000000 0, .d (I most)] [(1000000, .cells [.d (.str r.s), .d (I r.pos), .d (I r.e)])] [.d (I (r.count most).1)] [(1000000, (r.count most).2.ob)] := by
 refine fn_of_awp Tryz.func67 rfl (N := 8) rfl ?_
 refine xsr ?_
 refine xlz (op_box rfl rfl (by decide) rfl rfl) ?_
 refine xlz (op_box rfl rfl (by decide) rfl rfl) ?_
 refine xlz (o_as rfl rfl rfl) ?_
 refine lendF ?_
 refine xsr ?_
 refine xlz (op_load1 rfl rfl rfl rfl ty104 rfl rfl) ?_
 refine xlz (op_fn rfl rfl rfl rfl rfl) ?_
 refine xlz (o_callW [2, 3, 1000000] 7 (c104c r most hs hp) rfl rfl rfl ca104 rfl (by decide) (handOK_cons (by decide) (by decide) rfl rfl (handOK_cons (by decide) (by decide) rfl rfl (handOK_cons (by decide) (by decide) rfl rfl handOK_nil))) rfl rfl rfl rfl) ?_
 refine xlz (o_as rfl rfl rfl) ?_
 refine lendF ?_
 refine awp_ret ?_
 refine ⟨[_], ⟨rfl, trivial⟩, ?_⟩
 exact ent_o1 (obs_cons rfl (o_eq rfl) obs_nil) rfl rfl rfl

set_option maxRecDepth 10000 in
theorem c68 (r : RS) : Fn PR 68 [.ptr 1000000 0] [(1000000, .cells [.d (.str r.s), .d (I r.pos), .d (I r.e)])] [.d (I r.e)] [(1000000, .cells [.d (.str r.s), .d (I r.pos), .d (I r.e)])] := by
 refine fn_of_awp Tryz.func68 rfl (N := 7) rfl ?_
 refine xsr ?_
 refine xlz (o_as rfl rfl rfl) ?_
 refine lendF ?_
 refine xsr ?_
 refine xlz (o_mv rfl rfl rfl) ?_
 refine xlz (op_nilCheckP rfl rfl rfl rfl) ?_
 refine xlz (op_fieldP rfl rfl rfl fl140_2) ?_
 refine xlz (op_load1 rfl rfl rfl rfl ty34 rfl rfl) ?_
 refine xlz (o_as rfl rfl rfl) ?_
 refine lendF ?_
 refine awp_ret ?_
 refine ⟨[_], ⟨rfl, trivial⟩, ?_⟩
 exact ent_o1 (obs_cons rfl (o_eq rfl) obs_nil) rfl rfl rfl

set_option maxRecDepth 10000 in
theorem c69 (r : RS) (hs : r.s.length < 4611686018427387904) : Fn PR 69 [.ptr 1000000 0] [(1000000, .cells [.d (.str r.s), .d (I r.pos), .d (I r.e)])] [.d (I r.done)] [(1000000, .cells [.d (.str r.s), .d (I r.pos), .d (I r.e)])] := by
 refine fn_of_awp Tryz.func69 rfl (N := 24) rfl ?_
 refine xsr ?_
 refine xlz (o_as rfl rfl rfl) ?_
 refine lendF ?_
 refine awp_seq ?_
 refine xsr ?_
 refine xlz (o_mv rfl rfl rfl) ?_
 refine xlz (op_nilCheckP rfl rfl rfl rfl) ?_
 refine xlz (op_fieldP rfl rfl rfl fl140_2) ?_
 refine xlz (op_load1 rfl rfl rfl rfl ty34 rfl rfl) ?_
 refine xlz (op_binI rfl rfl rfl rfl rfl (.inl rfl) rfl) ?_
 refine xlz (o_mv rfl rfl rfl) ?_
 refine lsplit rfl (fun hg1 => ?_) (fun hg1 => ?_)
 ·
  refine lg (o_mv rfl rfl rfl) rfl hg1 rfl rfl ?_
  refine lg (op_nilCheckP rfl rfl rfl rfl) rfl hg1 rfl rfl ?_
  refine lg (op_fieldP rfl rfl rfl fl140_1) rfl hg1 rfl rfl ?_
  refine lg (op_load1 rfl rfl rfl rfl ty3 rfl rfl) rfl hg1 rfl rfl ?_
  refine lg (o_mv rfl rfl rfl) rfl hg1 rfl rfl ?_
  refine lg (op_nilCheckP rfl rfl rfl rfl) rfl hg1 rfl rfl ?_
  refine lg (op_fieldP rfl rfl rfl fl140_0) rfl hg1 rfl rfl ?_
  refine lg (op_load1 rfl rfl rfl rfl ty9 rfl rfl) rfl hg1 rfl rfl ?_
  refine lg (op_lenS rfl rfl rfl ty9) rfl hg1 rfl rfl ?_
  refine lg (op_binI rfl rfl rfl rfl rfl (.inl rfl) rfl) rfl hg1 rfl rfl ?_
  refine xlz (o_pT rfl rfl (g11 hg1) rfl rfl) ?_
  refine lend (fun _ => by kernel_rfl) ?_
  refine awp_cond rfl rfl (fun hc2 => ?_) (fun hc2 => ?_)
  ·
   refine xsr ?_
   refine xlz (o_as rfl rfl rfl) ?_
   refine lendF ?_
   refine awp_ret ?_
   refine ⟨[_], ⟨rfl, trivial⟩, ?_⟩
   exact ent_o1 (obs_cons rfl (o_eq rfl) obs_nil) rfl rfl (by congr 1; unfold RS.done; first | (rw [if_pos (by simp at *; omega)]; done) | (rw [if_neg (by simp at *; omega)]; done) | (simp at *; simp_all; done) | (split <;> simp_all <;> omega))
  ·
   refine awp_skip ?_
   refine xsr ?_
   refine xlz (o_mv rfl rfl rfl) ?_
   refine xlz (op_nilCheckP rfl rfl rfl rfl) ?_
   refine xlz (op_fieldP rfl rfl rfl fl140_2) ?_
   refine xlz (op_load1 rfl rfl rfl rfl ty34 rfl rfl) ?_
   refine xlz (o_as rfl rfl rfl) ?_
   refine lendF ?_
   refine awp_ret ?_
   refine ⟨[_], ⟨rfl, trivial⟩, ?_⟩
   exact ent_o1 (obs_cons rfl (o_eq rfl) obs_nil) rfl rfl (by congr 1; unfold RS.done; first | (rw [if_pos (by simp at *; omega)]; done) | (rw [if_neg (by simp at *; omega)]; done) | (simp at *; simp_all; done) | (split <;> simp_all <;> omega))
 ·
  refine lskip rfl hg1 rfl ?_
  refine lskip rfl hg1 rfl ?_
  refine lskip rfl hg1 rfl ?_
  refine lskip rfl hg1 rfl ?_
  refine lskip rfl hg1 rfl ?_
  refine lskip rfl hg1 rfl ?_
  refine lskip rfl hg1 rfl ?_
  refine lskip rfl hg1 rfl ?_
  refine lskip rfl hg1 rfl ?_
  refine lskip rfl hg1 rfl ?_
  refine xlz (o_pF rfl rfl (g10 hg1) rfl rfl) ?_
  refine lend (fun _ => by kernel_rfl) ?_
  refine awp_condF rfl rfl rfl ?_
  refine awp_skip ?_
  refine xsr ?_
  refine xlz (o_mv rfl rfl rfl) ?_
  refine xlz (op_nilCheckP rfl rfl rfl rfl) ?_
  refine xlz (op_fieldP rfl rfl rfl fl140_2) ?_
  refine xlz (op_load1 rfl rfl rfl rfl ty34 rfl rfl) ?_
  refine xlz (o_as rfl rfl rfl) ?_
  refine lendF ?_
  refine awp_ret ?_
  refine ⟨[_], ⟨rfl, trivial⟩, ?_⟩
  exact ent_o1 (obs_cons rfl (o_eq rfl) obs_nil) rfl rfl (by congr 1; unfold RS.done; first | (rw [if_pos (by simp at *; omega)]; done) | (rw [if_neg (by simp at *; omega)]; done) | (simp at *; simp_all; done) | (split <;> simp_all <;> omega))

end Go.Pm
