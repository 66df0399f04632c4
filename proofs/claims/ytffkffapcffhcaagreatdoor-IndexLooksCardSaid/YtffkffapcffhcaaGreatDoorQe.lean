/- Part 5 of a proof about the index of a registry: plain functions, and walks through the program that show that it computes them (W31 .. W50). Own work. -/
import Derived.Test.YtffkffapcffhcaaGreatDoorQd
import Derived.Shelf.Sort.Plain
import Derived.Shelf.Slices.In.SortNone
import Derived.Sort.Walk0
import Derived.Maps.RangeRun
set_option autoImplicit false
set_option linter.unusedVariables false
set_option linter.unusedSimpArgs false
namespace Go.Pm
open Go.Proofs

set_option maxRecDepth 10000 in
theorem c55 (l : List Int) (out : Bytes) (hl : l.length ≤ 100000) (hx : ∀ n ∈ l, n < 9223372036854775808) (ho : out.length + (intsS l).length < 4611686018427387904) : Fn PR 55 [.d (.list (l.map I)), .ptr 1000000 0] [(1000000, .cells [.d (.str out)])] [] [(1000000, .cells [.d (.str (out ++ intsS l))])] := by
 refine fn_of_awp Tryz.func55 rfl (N := 22) rfl ?_
 refine xsr ?_
 refine lmv rfl rfl rfl rfl rfl ?_
 refine xlz (o_lenE (n := l.length) rfl rfl rfl ty96 (by simp)) ?_
 refine lmv rfl rfl rfl rfl rfl ?_
 refine lendF ?_
 refine awp_block ?_
 refine awp_loop (fun i => ⟨22, [(9, .d (I (i : Nat))), (1, .ptr 1000000 0), (7, .d (.list (l.map I))), (8, .d (I l.length))], [(1000000, .cells [.d (.str (out ++ intsS (l.take i)))])]⟩) (fun i => l.length - i) (fun i => i ≤ l.length) 0 ?_ ?_ ?_
 ·
  exact ent_k [] rfl rfl ((by repeat (first | exact .nil | refine xkc ?_))) (obs_cons rfl (o_eq (by simp [intsS]; rfl)) obs_nil) rfl
 ·
  exact Nat.zero_le _
 ·
  rintro i hi
  refine xsr ?_
  refine xlz (op_binI rfl rfl rfl rfl rfl (.inl rfl) rfl) ?_
  refine lendF ?_
  refine awp_seq ?_
  refine awp_cond rfl rfl (fun hc1 => ?_) (fun hc1 => ?_)
  ·
   obtain ⟨x, hn⟩ := rng_lt (l := l) (by simpa using hc1)
   have hlt := rng_le hn
   have hmem := List.mem_of_getElem? hn
   refine awp_skip ?_
   refine awp_seq ?_
   refine awp_block ?_
   refine xsr ?_
   refine xlz (o_ixN (i) rfl rfl rfl rfl ty96 (by first | rfl | omega | (simp; done) | (simp; omega)) hn ty3) ?_
   refine xlz (op_loadC1 rfl rfl rfl ty3 rfl rfl) ?_
   refine las rfl rfl rfl rfl rfl ?_
   refine lendF ?_
   refine xsr ?_
   refine lmv rfl rfl rfl rfl rfl ?_
   refine xlz (o_call (c56 x (hx x hmem)) rfl rfl rfl ca56 rfl rfl) ?_
   refine lmv rfl rfl rfl rfl rfl ?_
   refine xlz (op_extract rfl rfl rfl rfl) ?_
   refine xlz (op_extract rfl rfl rfl rfl) ?_
   iterate 2 refine las rfl rfl rfl rfl rfl ?_
   refine lendF ?_
   refine awp_region mixed ?_
   refine xlz (op_load1 rfl rfl rfl rfl ty9 rfl rfl) ?_
   refine lmv rfl rfl rfl rfl rfl ?_
   refine xlz (op_binS rfl rfl rfl rfl rfl (fun _ => by have := flat_take (fun n => (uintS n).1) hn; rw [List.length_append]; unfold intsS at *; omega) rfl) ?_
   refine xlz (op_store rfl rfl rfl rfl rfl rfl ty9 rfl (xlb rfl)) ?_
   refine lendF ?_
   refine awp_region mixed ?_
   refine xlz (o_add rfl rfl rfl rfl (by first | omega | (simp; omega) | (simp at *; omega))) ?_
   refine lmv rfl rfl rfl rfl rfl ?_
   refine lendF ?_
   refine ⟨i + 1, ?_, ?_, ?_⟩
   ·
    exact rng_le hn
   ·
    exact ent_k [] rfl rfl ((by repeat (first | exact .nil | refine xkc ?_))) (obs_cons rfl (.cells (.cons (k_s (by rw [intsS_take hn]; simp)) .nil)) obs_nil) rfl
   ·
    omega
  ·
   obtain rfl := rng_ge (l := l) (by simpa using hc1) hi
   refine awp_exit ?_
   refine ⟨[], trivial, ?_⟩
   exact ent_k [] rfl rfl .nil (obs_cons rfl (.cells (.cons (k_s (by rw [List.take_length])) .nil)) obs_nil) rfl

set_option maxRecDepth 10000 in
theorem c57 (l : List Bytes) (out : Bytes) (hl : l.length ≤ 100000) (hx : ∀ s ∈ l, s.length ≤ 1000000) (ho : out.length + (textsS l).length < 4611686018427387904) : Fn PR 57 [.d (.list (l.map .str)), .ptr 1000000 0] [(1000000, .cells [.d (.str out)])] [] [(1000000, .cells [.d (.str (out ++ textsS l))])] := by
 refine fn_of_awp Tryz.func57 rfl (N := 16) rfl ?_
 refine xsr ?_
 refine lmv rfl rfl rfl rfl rfl ?_
 refine xlz (o_lenE (n := l.length) rfl rfl rfl ty71 (by simp)) ?_
 refine lmv rfl rfl rfl rfl rfl ?_
 refine lendF ?_
 refine awp_block ?_
 refine awp_loop (fun i => ⟨16, [(7, .d (I (i : Nat))), (1, .ptr 1000000 0), (5, .d (.list (l.map .str))), (6, .d (I l.length))], [(1000000, .cells [.d (.str (out ++ textsS (l.take i)))])]⟩) (fun i => l.length - i) (fun i => i ≤ l.length) 0 ?_ ?_ ?_
 ·
  exact ent_k [] rfl rfl ((by repeat (first | exact .nil | refine xkc ?_))) (obs_cons rfl (o_eq (by simp [textsS]; rfl)) obs_nil) rfl
 ·
  exact Nat.zero_le _
 ·
  rintro i hi
  refine xsr ?_
  refine xlz (op_binI rfl rfl rfl rfl rfl (.inl rfl) rfl) ?_
  refine lendF ?_
  refine awp_seq ?_
  refine awp_cond rfl rfl (fun hc1 => ?_) (fun hc1 => ?_)
  ·
   obtain ⟨x, hn⟩ := rng_lt (l := l) (by simpa using hc1)
   have hlt := rng_le hn
   have hmem := List.mem_of_getElem? hn
   refine awp_skip ?_
   refine awp_seq ?_
   refine awp_block ?_
   refine xsr ?_
   refine xlz (o_ixN (i) rfl rfl rfl rfl ty71 (by first | rfl | omega | (simp; done) | (simp; omega)) hn ty9) ?_
   refine xlz (op_loadC1 rfl rfl rfl ty9 rfl rfl) ?_
   refine las rfl rfl rfl rfl rfl ?_
   refine lendF ?_
   refine awp_region mixed ?_
   refine xlz (op_load1 rfl rfl rfl rfl ty9 rfl rfl) ?_
   refine lmv rfl rfl rfl rfl rfl ?_
   refine xlz (o_call (c58 x (by have := hx x hmem; omega)) rfl rfl rfl ca58 rfl rfl) ?_
   refine xlz (op_binS rfl rfl rfl rfl rfl (fun _ => by have := flat_take textS hn; rw [List.length_append]; unfold textsS at *; omega) rfl) ?_
   refine xlz (op_store rfl rfl rfl rfl rfl rfl ty9 rfl (xlb rfl)) ?_
   refine lend (fun _ => by kernel_rfl) ?_
   refine awp_region mixed ?_
   refine xlz (o_add rfl rfl rfl rfl (by first | omega | (simp; omega) | (simp at *; omega))) ?_
   refine lmv rfl rfl rfl rfl rfl ?_
   refine lendF ?_
   refine ⟨i + 1, ?_, ?_, ?_⟩
   ·
    exact rng_le hn
   ·
    exact ent_k [] rfl rfl ((by repeat (first | exact .nil | refine xkc ?_))) (obs_cons rfl (.cells (.cons (k_s (by rw [textsS_take hn]; simp)) .nil)) obs_nil) rfl
   ·
    omega
  ·
   obtain rfl := rng_ge (l := l) (by simpa using hc1) hi
   refine awp_exit ?_
   refine ⟨[], trivial, ?_⟩
   exact ent_k [] rfl rfl .nil (obs_cons rfl (.cells (.cons (k_s (by rw [List.take_length])) .nil)) obs_nil) rfl

end Go.Pm

namespace Go.Pm
open Go.Proofs

set_option maxRecDepth 10000 in
theorem c89 (n : Int) : Fn PR 89 [.d (I n)] [] [.d (Ver.d ⟨1, n, 0⟩)] [] := by
 refine fn_of_awp Tryz.func89 rfl (N := 5) rfl ?_
 refine xsr ?_
 refine xlz (op_alloc rfl rfl (by decide) ty38 zk38 rfl) ?_
 refine lendF ?_
 refine xsr ?_
 refine lmv rfl rfl rfl rfl rfl ?_
 refine xlz (o_bld rfl rfl rfl bl38 ty38 zk38 rfl rfl rfl) ?_
 refine xlz (op_store rfl rfl rfl rfl rfl rfl ty38 rfl (xlb rfl)) ?_
 refine lendF ?_
 refine awp_ret ?_
 refine ⟨[_], ⟨⟨_, _, _, _, _, _, _, rfl, rfl, ty38, (xlb rfl), rfl⟩, trivial⟩, ?_⟩
 exact ent_d1 rfl (by first | rfl | simp_all)

set_option maxRecDepth 10000 in
set_option maxHeartbeats 2000000 in
theorem c45  : Fn PR 45 [] [] [.d exI.d] [] := by
 refine fn_of_awp Tryz.func45 rfl (N := 22) rfl ?_
 refine xsr ?_
 refine xlz (op_alloc rfl rfl (by decide) ty25 zk25 rfl) ?_
 refine lendF ?_
 refine xsr ?_
 refine las rfl rfl rfl rfl rfl ?_
 refine lendF ?_
 refine xsr ?_
 refine xlz (o_bld rfl rfl rfl bl78 ty78 zk78 rfl rfl rfl) ?_
 refine xlz (o_bs rfl rfl rfl rfl rfl ty49 ty78 rfl rfl) ?_
 refine xlz (o_bld rfl rfl rfl bl51 ty51 zk51 rfl rfl rfl) ?_
 refine xlz (o_bs rfl rfl rfl rfl rfl ty26 ty51 rfl rfl) ?_
 refine las rfl rfl rfl rfl rfl ?_
 refine lendF ?_
 refine xsr ?_
 refine lmv rfl rfl rfl rfl rfl ?_
 refine xlz (o_call (c89 0) rfl rfl rfl ca89 rfl rfl) ?_
 refine lmv rfl rfl rfl rfl rfl ?_
 refine xlz (o_bld rfl rfl rfl bl40 ty40 zk40 rfl rfl rfl) ?_
 refine lmv rfl rfl rfl rfl rfl ?_
 refine xlz (o_call (c89 0) rfl rfl rfl ca89 rfl rfl) ?_
 refine xlz (o_bld rfl rfl rfl bl40 ty40 zk40 rfl rfl rfl) ?_
 refine lmv rfl rfl rfl rfl rfl ?_
 refine xlz (o_call (c89 1) rfl rfl rfl ca89 rfl rfl) ?_
 refine xlz (o_bld rfl rfl rfl bl40 ty40 zk40 rfl rfl rfl) ?_
 refine lmv rfl rfl rfl rfl rfl ?_
 refine xlz (o_call (c89 2) rfl rfl rfl ca89 rfl rfl) ?_
 refine xlz (o_bld rfl rfl rfl bl40 ty40 zk40 rfl rfl rfl) ?_
 refine xlz (o_bs rfl rfl rfl rfl rfl ty22 ty40 rfl rfl) ?_
 refine xlz (o_bld rfl rfl rfl bl25 ty25 zk25 rfl rfl rfl) ?_
 refine xlz (op_store rfl rfl rfl rfl rfl rfl ty25 rfl (xlb rfl)) ?_
 refine lendF ?_
 refine awp_ret ?_
 refine ⟨[_], ⟨⟨_, _, _, _, _, _, _, rfl, rfl, ty25, (xlb rfl), rfl⟩, trivial⟩, ?_⟩
 exact ent_d1 rfl (by first | rfl | simp_all)

end Go.Pm

namespace Go.Pm
open Go.Proofs

set_option maxRecDepth 10000 in
theorem c154 (s : Bytes) (hs : s.length ≤ 64) : Fn PR 154 [.d (.str s)] [] [.d (.list ((segsF s).map .str))] [] := by
 refine fn_of_awp Tryz.func154 rfl (N := 37) rfl ?_
 refine xsr ?_
 refine xlz (o_as rfl rfl rfl) ?_
 refine lendF ?_
 refine xsr ?_
 refine xlz (op_bsR rfl rfl rfl rfl rfl ty71 ty9 rfl rfl rfl (by decide)) ?_
 refine xlz (o_as rfl rfl rfl) ?_
 refine lendF ?_
 refine awp_seq ?_
 refine xsr ?_
 refine xlz (o_as rfl rfl rfl) ?_
 refine lendF ?_
 refine awp_block ?_
 refine awp_loop (fun x => ⟨37, [(3, .arr 500003 1 0 (x.2.map D.str).length), (4, .d (I (x.1 : Nat))), (0, .d (.str s))], [(500003, .arr 1 (x.2.map D.str))]⟩) (fun x => s.length - x.1) (fun x => x.1 ≤ s.length ∧ 0 < x.2.length ∧ x.2.length ≤ x.1 + 1 ∧ (∀ y ∈ x.2, y.length ≤ x.1) ∧ catS x.2 (s.drop x.1) = segsF s) (0, [[]]) ?_ ?_ ?_
 ·
  exact ent_k [(500003, 5)] rfl rfl (xkc <| xkc <| xkc <| .nil) (obs_cons rfl (o_eq rfl) obs_nil) rfl
 ·
  exact ⟨Nat.zero_le _, by decide, by decide, by simp, rfl⟩
 ·
  rintro ⟨i, out⟩ ⟨hi, h1, h2, h3, hI⟩
  dsimp only at hi h1 h2 h3 hI ⊢
  refine awp_seq ?_
  refine xsr ?_
  refine xlz (o_mv rfl rfl rfl) ?_
  refine xlz (o_mv rfl rfl rfl) ?_
  refine xlz (op_lenS rfl rfl rfl ty9) ?_
  refine xlz (op_binI rfl rfl rfl rfl rfl (.inl rfl) rfl) ?_
  refine lendF ?_
  refine awp_cond rfl rfl (fun hc1 => ?_) (fun hc1 => ?_)
  ·
   obtain ⟨x, hn⟩ := rng_lt (l := s) hc1
   have hlt := rng_le hn
   refine awp_skip ?_
   refine awp_seq ?_
   refine awp_block ?_
   refine xsr ?_
   refine xlz (o_mv rfl rfl rfl) ?_
   refine xlz (o_mv rfl rfl rfl) ?_
   refine xlz (o_idxS (i) rfl rfl rfl rfl ty9 (by first | rfl | omega | (simp; done) | (simp; omega)) hn) ?_
   refine xlz (op_binI rfl rfl rfl rfl rfl (.inl rfl) rfl) ?_
   refine lendF ?_
   refine awp_cond rfl rfl (fun hc2 => ?_) (fun hc2 => ?_)
   ·
    have hsl : x = 47 := by have := hc2; rw [show (47 : Int) = ((47 : UInt8).toNat : Int) from rfl, eqB] at this; simpa using this
    refine awp_region mixed ?_
    refine xlz (o_mv rfl rfl rfl) ?_
    refine xlz (o_bs rfl rfl rfl rfl rfl ty71 ty9 rfl rfl) ?_
    refine xlz (op_appendR rfl rfl (by decide) (.inr ⟨_, rfl, rfl, rfl⟩) rfl rfl rfl ty71 ty9 rfl (by decide) (by first | exact cl_map fun _ => rfl | exact cl_nil | exact cl_one rfl | exact cl_app (cl_map fun _ => rfl) (cl_one rfl) | exact cl_app (cl_map fun _ => rfl) (cl_map fun _ => rfl)) (by simp) (by simp; omega) (by simp; omega)) ?_
    refine xlz (o_as rfl rfl rfl) ?_
    refine lendF ?_
    refine awp_region mixed ?_
    refine xlz (o_mv rfl rfl rfl) ?_
    refine xlz (o_add rfl rfl rfl rfl (by first | omega | (simp; omega) | (simp at *; omega))) ?_
    refine xlz (o_as rfl rfl rfl) ?_
    refine lendF ?_
    refine ⟨(i + 1, out ++ [[]]), ?_, ?_, ?_⟩
    ·
     exact ⟨rng_le hn, by show 0 < (out ++ [[]]).length; simp, by show (out ++ [[]]).length ≤ i + 1 + 1; simp; omega, fun y hy => by (have hy : y ∈ out ++ [[]] := hy); rcases List.mem_append.1 hy with h | h; (exact Nat.le_succ_of_le (h3 y h)); (simp at h; subst h; simp), by show catS (out ++ [[]]) (s.drop (i + 1)) = _; rw [← hI, drop_cons hn, catS, if_pos hsl]⟩
    ·
     exact ent_k [(500003, 18)] rfl rfl (.cons rfl (k_arr rfl (by simp)) <| .cons rfl (k_i (by simp)) <| .cons rfl (k_eq rfl) <| .nil) (obs_cons rfl (ko_arr (by simp)) obs_nil) rfl
    ·
     show s.length - (i + 1) < s.length - i; have := rng_le hn; omega
   ·
    have hsl : ¬ x = 47 := by have := hc2; rw [show (47 : Int) = ((47 : UInt8).toNat : Int) from rfl, eqB] at this; simpa using this
    obtain ⟨z, hz⟩ := last_get h1
    have hzm := map_get (f := D.str) hz
    have hzl := h3 z (List.mem_of_getElem? hz)
    refine awp_region mixed ?_
    refine xlz (o_mv rfl rfl rfl) ?_
    refine xlz (o_mv rfl rfl rfl) ?_
    refine xlz (o_eqI (op_lenR rfl rfl rfl ty71) (m' := out.length) (by simp)) ?_
    refine xlz (o_sub rfl rfl rfl rfl (by first | omega | (simp; omega) | (simp at *; omega))) ?_
    refine xlz (o_mv rfl rfl rfl) ?_
    refine xlz (o_mv rfl rfl rfl) ?_
    refine xlz (o_eqI (op_lenR rfl rfl rfl ty71) (m' := out.length) (by simp)) ?_
    refine xlz (o_sub rfl rfl rfl rfl (by first | omega | (simp; omega) | (simp at *; omega))) ?_
    refine xlz (o_ixR' ((out.length - 1)) rfl rfl rfl rfl ty71 ty9 (by first | rfl | omega | (simp; done) | (simp; omega)) (by simp; omega) (Nat.zero_add _).symm) ?_
    refine xlz (op_loadE1 rfl rfl rfl rfl hzm ty9 rfl rfl) ?_
    refine xlz (o_mv rfl rfl rfl) ?_
    refine xlz (o_mv rfl rfl rfl) ?_
    refine xlz (o_idxS (i) rfl rfl rfl rfl ty9 (by first | rfl | omega | (simp; done) | (simp; omega)) hn) ?_
    refine xlz (o_bs rfl rfl rfl rfl rfl ty159 ty5 rfl rfl) ?_
    refine xlz (op_convB (l := [x]) rfl rfl rfl ty159 ty5 ty9) ?_
    refine xlz (op_binS rfl rfl rfl rfl rfl (fun h => by simp; omega) rfl) ?_
    refine xlz (o_ixR' ((out.length - 1)) rfl rfl rfl rfl ty71 ty9 (by first | rfl | omega | (simp; done) | (simp; omega)) (by simp; omega) (Nat.zero_add _).symm) ?_
    refine xlz (op_storeE rfl rfl rfl rfl hzm rfl rfl rfl ty9 rfl rfl rfl) ?_
    refine lend (fun _ => by kernel_rfl) ?_
    refine awp_region mixed ?_
    refine xlz (o_mv rfl rfl rfl) ?_
    refine xlz (o_add rfl rfl rfl rfl (by first | omega | (simp; omega) | (simp at *; omega))) ?_
    refine xlz (o_as rfl rfl rfl) ?_
    refine lendF ?_
    refine ⟨(i + 1, out.set (out.length - 1) (z ++ [x])), ?_, ?_, ?_⟩
    ·
     exact ⟨rng_le hn, by show 0 < (out.set (out.length - 1) (z ++ [x])).length; simpa using h1, by show (out.set (out.length - 1) (z ++ [x])).length ≤ i + 1 + 1; simp; omega, fun y hy => by (have hy : y ∈ out.set (out.length - 1) (z ++ [x]) := hy); rcases List.mem_or_eq_of_mem_set hy with h | h; (exact Nat.le_succ_of_le (h3 y h)); (subst h; have := h3 z (List.mem_of_getElem? hz); simp; omega), by show catS (out.set (out.length - 1) (z ++ [x])) (s.drop (i + 1)) = _; rw [← hI, drop_cons hn, catS, if_neg hsl, getD_get hz]⟩
    ·
     exact ent_k [] rfl rfl (.cons rfl (k_arr rfl (by simp)) <| .cons rfl (k_i (by simp)) <| .cons rfl (k_eq rfl) <| .nil) (obs_cons rfl (ko_arr (by simp [D.upd, List.map_set])) obs_nil) rfl
    ·
     show s.length - (i + 1) < s.length - i; have := rng_le hn; omega
  ·
   obtain rfl := rng_ge (l := s) hc1 hi
   refine awp_exit ?_
   refine xsr ?_
   refine xlz (o_mv rfl rfl rfl) ?_
   refine xlz (o_as rfl rfl rfl) ?_
   refine lendF ?_
   refine awp_ret ?_
   refine ⟨[_], ⟨rfl, trivial⟩, ?_⟩
   exact ent_fz1 (ds := out.map D.str) rfl (by simp) (by simp [← hI, catS, List.take_of_length_le])

set_option maxRecDepth 10000 in
theorem c156 (s : Bytes) (hs : s.length < 4611686018427387904) : Fn PR 156 [.d (.str s)] [] [.d (I (majF s))] [] := by
 refine fn_of_awp Tryz.func156 rfl (N := 48) rfl ?_
 refine xsr ?_
 refine xlz (o_as rfl rfl rfl) ?_
 refine lendF ?_
 refine awp_seq ?_
 refine xsr ?_
 refine xlz (o_mv rfl rfl rfl) ?_
 refine xlz (op_lenS rfl rfl rfl ty9) ?_
 refine xlz (op_binI rfl rfl rfl rfl rfl (.inl rfl) rfl) ?_
 refine xlz (o_mv rfl rfl rfl) ?_
 refine lsplit rfl (fun hg1 => ?_) (fun hg1 => ?_)
 ·
  refine lg (o_mv rfl rfl rfl) rfl hg1 rfl rfl ?_
  refine lg (op_lenS rfl rfl rfl ty9) rfl hg1 rfl rfl ?_
  refine lg (op_binI rfl rfl rfl rfl rfl (.inl rfl) rfl) rfl hg1 rfl rfl ?_
  refine xlz (o_pF rfl rfl (g01 hg1) rfl rfl) ?_
  refine xlz (o_mv rfl rfl rfl) ?_
  refine lsplit rfl (fun hg2 => ?_) (fun hg2 => ?_)
  ·
   refine lg (o_mv rfl rfl rfl) rfl hg2 rfl rfl ?_
   obtain ⟨c0, hc0⟩ : ∃ c, s[0]? = some c := ⟨_, List.getElem?_eq_getElem (by simp at *; omega)⟩
   have hdc0 : s.getD 0 0 = c0 := getD_get hc0
   refine lg (o_idxS (0) rfl rfl rfl rfl ty9 (by first | rfl | omega | (simp; done) | (simp; omega)) hc0) rfl hg2 rfl rfl ?_
   refine lg (op_binI rfl rfl rfl rfl rfl (.inl rfl) rfl) rfl hg2 rfl rfl ?_
   refine xlz (o_pF rfl rfl (g01 hg2) rfl rfl) ?_
   refine xlz (o_mv rfl rfl rfl) ?_
   refine lsplit rfl (fun hg3 => ?_) (fun hg3 => ?_)
   ·
    have hv0 : c0 = 118 := by have := (g01 hg3); rw [show (118 : Int) = ((118 : UInt8).toNat : Int) from rfl, neB] at this; simpa using this
    refine lg (o_mv rfl rfl rfl) rfl hg3 rfl rfl ?_
    obtain ⟨c1, hc1⟩ : ∃ c, s[1]? = some c := ⟨_, List.getElem?_eq_getElem (by simp at *; omega)⟩
    have hdc1 : s.getD 1 0 = c1 := getD_get hc1
    refine lg (o_idxS (1) rfl rfl rfl rfl ty9 (by first | rfl | omega | (simp; done) | (simp; omega)) hc1) rfl hg3 rfl rfl ?_
    refine lg (op_binI rfl rfl rfl rfl rfl (.inl rfl) rfl) rfl hg3 rfl rfl ?_
    refine lg (o_mv rfl rfl rfl) rfl hg3 rfl rfl ?_
    refine lsplit rfl (fun hg4 => ?_) (fun hg4 => ?_)
    ·
     have hv1 : c1 = 48 := by have := (g11 hg4); rw [show (48 : Int) = ((48 : UInt8).toNat : Int) from rfl, eqB] at this; simpa using this
     refine lg (o_mv rfl rfl rfl) rfl hg4 rfl rfl ?_
     refine lg (op_lenS rfl rfl rfl ty9) rfl hg4 rfl rfl ?_
     refine lg (op_binI rfl rfl rfl rfl rfl (.inl rfl) rfl) rfl hg4 rfl rfl ?_
     refine lg (o_pT rfl rfl (g11 hg4) rfl rfl) rfl hg3 rfl rfl ?_
     refine xlz (o_pF rfl rfl (g01 hg3) rfl rfl) ?_
     refine lendF ?_
     refine awp_cond rfl rfl (fun hc5 => ?_) (fun hc5 => ?_)
     ·
      refine xsr ?_
      refine xlz (o_as rfl rfl rfl) ?_
      refine lendF ?_
      refine awp_ret ?_
      refine ⟨[_], ⟨rfl, trivial⟩, ?_⟩
      first | exact ent_i rfl (by rw [hF, ← hI, drop_cons hn, digs, if_neg hdx]; rfl) | exact ent_i rfl (by rw [hF, ← hI, List.drop_length]; rfl) | exact ent_i rfl (by unfold majF; rw [if_pos (by simp at *; omega)]) | exact ent_i rfl (by unfold majF; rw [if_neg (by simp at *; omega), if_pos (by rw [hdc0]; exact hv0)]) | exact ent_i rfl (by unfold majF; rw [if_neg (by simp at *; omega), if_neg (by rw [hdc0]; simp [hv0]), if_pos (by rw [hdc1]; simp at *; exact ⟨hv1, by omega⟩)])
     ·
      refine awp_skip ?_
      refine xsr ?_
      have hl1 : 2 ≤ s.length ∧ s.length ≤ 4 := by simp at *; omega
      have hF : majF s = (digs (s.drop 1) 0).getD (-1) := by unfold majF; rw [if_neg (by omega), if_neg (by rw [hdc0]; simp [hv0]), if_neg (by rw [hdc1]; simp at *; simp [hv1]; try omega)]
      refine xlz (o_as rfl rfl rfl) ?_
      refine lendF ?_
      refine awp_seq ?_
      refine xsr ?_
      refine xlz (o_as rfl rfl rfl) ?_
      refine lendF ?_
      refine awp_block ?_
      refine awp_loop (fun x => ⟨48, [(3, .d (I x.2)), (4, .d (I (x.1 : Nat))), (0, .d (.str s))], []⟩) (fun x => s.length - x.1) (fun x => 1 ≤ x.1 ∧ x.1 ≤ s.length ∧ 0 ≤ x.2 ∧ x.2 < (10 : Int) ^ x.1 ∧ digs (s.drop x.1) x.2 = digs (s.drop 1) 0) (1, 0) ?_ ?_ ?_
      ·
       exact ent_k [] rfl rfl (xkc <| xkc <| xkc <| .nil) obs_nil rfl
      ·
       exact ⟨Nat.le_refl _, by show 1 ≤ s.length; omega, Int.le_refl _, by decide, rfl⟩
      ·
       rintro ⟨i, n⟩ ⟨h1, hi, h2, h3, hI⟩
       dsimp only at h1 hi h2 h3 hI ⊢
       refine awp_seq ?_
       refine xsr ?_
       refine xlz (o_mv rfl rfl rfl) ?_
       refine xlz (o_mv rfl rfl rfl) ?_
       refine xlz (op_lenS rfl rfl rfl ty9) ?_
       refine xlz (op_binI rfl rfl rfl rfl rfl (.inl rfl) rfl) ?_
       refine lendF ?_
       refine awp_cond rfl rfl (fun hc6 => ?_) (fun hc6 => ?_)
       ·
        obtain ⟨x, hn⟩ := rng_lt (l := s) hc6
        have hlt := rng_le hn
        have hp10 : (10 : Int) ^ i ≤ 1000 := by (have : i = 1 ∨ i = 2 ∨ i = 3 := by omega); rcases this with rfl | rfl | rfl <;> decide
        refine awp_skip ?_
        refine awp_seq ?_
        refine awp_block ?_
        refine awp_seq ?_
        refine xsr ?_
        refine xlz (o_mv rfl rfl rfl) ?_
        refine xlz (o_mv rfl rfl rfl) ?_
        refine xlz (o_idxS (i) rfl rfl rfl rfl ty9 (by first | rfl | omega | (simp; done) | (simp; omega)) hn) ?_
        refine xlz (o_call (c179 x) rfl rfl rfl ca179 rfl rfl) ?_
        refine xlz (op_not rfl rfl rfl) ?_
        refine lendF ?_
        refine awp_cond rfl rfl (fun hc7 => ?_) (fun hc7 => ?_)
        ·
         have hdx : ¬ digitB x = true := by simp_all
         refine xsr ?_
         refine xlz (o_as rfl rfl rfl) ?_
         refine lendF ?_
         refine awp_ret ?_
         refine ⟨[_], ⟨rfl, trivial⟩, ?_⟩
         first | exact ent_i rfl (by rw [hF, ← hI, drop_cons hn, digs, if_neg hdx]; rfl) | exact ent_i rfl (by rw [hF, ← hI, List.drop_length]; rfl) | exact ent_i rfl (by unfold majF; rw [if_pos (by simp at *; omega)]) | exact ent_i rfl (by unfold majF; rw [if_neg (by simp at *; omega), if_pos (by rw [hdc0]; exact hv0)]) | exact ent_i rfl (by unfold majF; rw [if_neg (by simp at *; omega), if_neg (by rw [hdc0]; simp [hv0]), if_pos (by rw [hdc1]; simp at *; exact ⟨hv1, by omega⟩)])
        ·
         have hdx : digitB x = true := by simp_all
         have hdr : 48 ≤ (x.toNat : Int) ∧ (x.toNat : Int) ≤ 57 := by simpa [digitB] using hdx
         refine awp_skip ?_
         refine awp_region mixed ?_
         refine xlz (o_mv rfl rfl rfl) ?_
         refine xlz (o_mul rfl rfl rfl rfl (by first | omega | (simp; omega) | (simp at *; omega))) ?_
         refine xlz (o_mv rfl rfl rfl) ?_
         refine xlz (o_mv rfl rfl rfl) ?_
         refine xlz (o_idxS (i) rfl rfl rfl rfl ty9 (by first | rfl | omega | (simp; done) | (simp; omega)) hn) ?_
         refine xlz (o_eqI (op_binI rfl rfl rfl rfl rfl (.inl rfl) rfl) (wrapU8 (by omega) (by omega))) ?_
         refine xlz (o_eqI (op_convI rfl rfl rfl ty5 ty3) (wrap64 (by omega) (by omega))) ?_
         refine xlz (o_add rfl rfl rfl rfl (by first | omega | (simp; omega) | (simp at *; omega))) ?_
         refine xlz (o_as rfl rfl rfl) ?_
         refine lendF ?_
         refine awp_region mixed ?_
         refine xlz (o_mv rfl rfl rfl) ?_
         refine xlz (o_add rfl rfl rfl rfl (by first | omega | (simp; omega) | (simp at *; omega))) ?_
         refine xlz (o_as rfl rfl rfl) ?_
         refine lendF ?_
         refine ⟨(i + 1, 10 * n + ((x.toNat : Int) - 48)), ?_, ?_, ?_⟩
         ·
          exact ⟨by show 1 ≤ i + 1; omega, rng_le hn, by show 0 ≤ 10 * n + ((x.toNat : Int) - 48); omega, by show 10 * n + ((x.toNat : Int) - 48) < (10 : Int) ^ (i + 1); rw [Int.pow_succ]; omega, by show digs (s.drop (i + 1)) _ = _; rw [← hI, drop_cons hn, digs, if_pos hdx]⟩
         ·
          exact ent_k [] rfl rfl (xkc <| xkc <| xkc <| .nil) obs_nil rfl
         ·
          show s.length - (i + 1) < s.length - i; omega
       ·
        obtain rfl := rng_ge (l := s) hc6 hi
        refine awp_exit ?_
        refine xsr ?_
        refine xlz (o_mv rfl rfl rfl) ?_
        refine xlz (o_as rfl rfl rfl) ?_
        refine lendF ?_
        refine awp_ret ?_
        refine ⟨[_], ⟨rfl, trivial⟩, ?_⟩
        first | exact ent_i rfl (by rw [hF, ← hI, drop_cons hn, digs, if_neg hdx]; rfl) | exact ent_i rfl (by rw [hF, ← hI, List.drop_length]; rfl) | exact ent_i rfl (by unfold majF; rw [if_pos (by simp at *; omega)]) | exact ent_i rfl (by unfold majF; rw [if_neg (by simp at *; omega), if_pos (by rw [hdc0]; exact hv0)]) | exact ent_i rfl (by unfold majF; rw [if_neg (by simp at *; omega), if_neg (by rw [hdc0]; simp [hv0]), if_pos (by rw [hdc1]; simp at *; exact ⟨hv1, by omega⟩)])
    ·
     have hv1 : ¬ c1 = 48 := by have := (g10 hg4); rw [show (48 : Int) = ((48 : UInt8).toNat : Int) from rfl, eqB] at this; simpa using this
     refine lskip rfl hg4 rfl ?_
     refine lskip rfl hg4 rfl ?_
     refine lskip rfl hg4 rfl ?_
     refine lg (o_pF rfl rfl (g10 hg4) rfl rfl) rfl hg3 rfl rfl ?_
     refine xlz (o_pF rfl rfl (g01 hg3) rfl rfl) ?_
     refine lendF ?_
     refine awp_condF rfl rfl rfl ?_
     refine awp_skip ?_
     refine xsr ?_
     have hl1 : 2 ≤ s.length ∧ s.length ≤ 4 := by simp at *; omega
     have hF : majF s = (digs (s.drop 1) 0).getD (-1) := by unfold majF; rw [if_neg (by omega), if_neg (by rw [hdc0]; simp [hv0]), if_neg (by rw [hdc1]; simp at *; simp [hv1]; try omega)]
     refine xlz (o_as rfl rfl rfl) ?_
     refine lendF ?_
     refine awp_seq ?_
     refine xsr ?_
     refine xlz (o_as rfl rfl rfl) ?_
     refine lendF ?_
     refine awp_block ?_
     refine awp_loop (fun x => ⟨48, [(3, .d (I x.2)), (4, .d (I (x.1 : Nat))), (0, .d (.str s))], []⟩) (fun x => s.length - x.1) (fun x => 1 ≤ x.1 ∧ x.1 ≤ s.length ∧ 0 ≤ x.2 ∧ x.2 < (10 : Int) ^ x.1 ∧ digs (s.drop x.1) x.2 = digs (s.drop 1) 0) (1, 0) ?_ ?_ ?_
     ·
      exact ent_k [] rfl rfl (xkc <| xkc <| xkc <| .nil) obs_nil rfl
     ·
      exact ⟨Nat.le_refl _, by show 1 ≤ s.length; omega, Int.le_refl _, by decide, rfl⟩
     ·
      rintro ⟨i, n⟩ ⟨h1, hi, h2, h3, hI⟩
      dsimp only at h1 hi h2 h3 hI ⊢
      refine awp_seq ?_
      refine xsr ?_
      refine xlz (o_mv rfl rfl rfl) ?_
      refine xlz (o_mv rfl rfl rfl) ?_
      refine xlz (op_lenS rfl rfl rfl ty9) ?_
      refine xlz (op_binI rfl rfl rfl rfl rfl (.inl rfl) rfl) ?_
      refine lendF ?_
      refine awp_cond rfl rfl (fun hc9 => ?_) (fun hc9 => ?_)
      ·
       obtain ⟨x, hn⟩ := rng_lt (l := s) hc9
       have hlt := rng_le hn
       have hp10 : (10 : Int) ^ i ≤ 1000 := by (have : i = 1 ∨ i = 2 ∨ i = 3 := by omega); rcases this with rfl | rfl | rfl <;> decide
       refine awp_skip ?_
       refine awp_seq ?_
       refine awp_block ?_
       refine awp_seq ?_
       refine xsr ?_
       refine xlz (o_mv rfl rfl rfl) ?_
       refine xlz (o_mv rfl rfl rfl) ?_
       refine xlz (o_idxS (i) rfl rfl rfl rfl ty9 (by first | rfl | omega | (simp; done) | (simp; omega)) hn) ?_
       refine xlz (o_call (c179 x) rfl rfl rfl ca179 rfl rfl) ?_
       refine xlz (op_not rfl rfl rfl) ?_
       refine lendF ?_
       refine awp_cond rfl rfl (fun hc10 => ?_) (fun hc10 => ?_)
       ·
        have hdx : ¬ digitB x = true := by simp_all
        refine xsr ?_
        refine xlz (o_as rfl rfl rfl) ?_
        refine lendF ?_
        refine awp_ret ?_
        refine ⟨[_], ⟨rfl, trivial⟩, ?_⟩
        first | exact ent_i rfl (by rw [hF, ← hI, drop_cons hn, digs, if_neg hdx]; rfl) | exact ent_i rfl (by rw [hF, ← hI, List.drop_length]; rfl) | exact ent_i rfl (by unfold majF; rw [if_pos (by simp at *; omega)]) | exact ent_i rfl (by unfold majF; rw [if_neg (by simp at *; omega), if_pos (by rw [hdc0]; exact hv0)]) | exact ent_i rfl (by unfold majF; rw [if_neg (by simp at *; omega), if_neg (by rw [hdc0]; simp [hv0]), if_pos (by rw [hdc1]; simp at *; exact ⟨hv1, by omega⟩)])
       ·
        have hdx : digitB x = true := by simp_all
        have hdr : 48 ≤ (x.toNat : Int) ∧ (x.toNat : Int) ≤ 57 := by simpa [digitB] using hdx
        refine awp_skip ?_
        refine awp_region mixed ?_
        refine xlz (o_mv rfl rfl rfl) ?_
        refine xlz (o_mul rfl rfl rfl rfl (by first | omega | (simp; omega) | (simp at *; omega))) ?_
        refine xlz (o_mv rfl rfl rfl) ?_
        refine xlz (o_mv rfl rfl rfl) ?_
        refine xlz (o_idxS (i) rfl rfl rfl rfl ty9 (by first | rfl | omega | (simp; done) | (simp; omega)) hn) ?_
        refine xlz (o_eqI (op_binI rfl rfl rfl rfl rfl (.inl rfl) rfl) (wrapU8 (by omega) (by omega))) ?_
        refine xlz (o_eqI (op_convI rfl rfl rfl ty5 ty3) (wrap64 (by omega) (by omega))) ?_
        refine xlz (o_add rfl rfl rfl rfl (by first | omega | (simp; omega) | (simp at *; omega))) ?_
        refine xlz (o_as rfl rfl rfl) ?_
        refine lendF ?_
        refine awp_region mixed ?_
        refine xlz (o_mv rfl rfl rfl) ?_
        refine xlz (o_add rfl rfl rfl rfl (by first | omega | (simp; omega) | (simp at *; omega))) ?_
        refine xlz (o_as rfl rfl rfl) ?_
        refine lendF ?_
        refine ⟨(i + 1, 10 * n + ((x.toNat : Int) - 48)), ?_, ?_, ?_⟩
        ·
         exact ⟨by show 1 ≤ i + 1; omega, rng_le hn, by show 0 ≤ 10 * n + ((x.toNat : Int) - 48); omega, by show 10 * n + ((x.toNat : Int) - 48) < (10 : Int) ^ (i + 1); rw [Int.pow_succ]; omega, by show digs (s.drop (i + 1)) _ = _; rw [← hI, drop_cons hn, digs, if_pos hdx]⟩
        ·
         exact ent_k [] rfl rfl (xkc <| xkc <| xkc <| .nil) obs_nil rfl
        ·
         show s.length - (i + 1) < s.length - i; omega
      ·
       obtain rfl := rng_ge (l := s) hc9 hi
       refine awp_exit ?_
       refine xsr ?_
       refine xlz (o_mv rfl rfl rfl) ?_
       refine xlz (o_as rfl rfl rfl) ?_
       refine lendF ?_
       refine awp_ret ?_
       refine ⟨[_], ⟨rfl, trivial⟩, ?_⟩
       first | exact ent_i rfl (by rw [hF, ← hI, drop_cons hn, digs, if_neg hdx]; rfl) | exact ent_i rfl (by rw [hF, ← hI, List.drop_length]; rfl) | exact ent_i rfl (by unfold majF; rw [if_pos (by simp at *; omega)]) | exact ent_i rfl (by unfold majF; rw [if_neg (by simp at *; omega), if_pos (by rw [hdc0]; exact hv0)]) | exact ent_i rfl (by unfold majF; rw [if_neg (by simp at *; omega), if_neg (by rw [hdc0]; simp [hv0]), if_pos (by rw [hdc1]; simp at *; exact ⟨hv1, by omega⟩)])
   ·
    have hv0 : ¬ c0 = 118 := by have := (g00 hg3); rw [show (118 : Int) = ((118 : UInt8).toNat : Int) from rfl, neB] at this; simpa using this
    refine lskip rfl hg3 rfl ?_
    refine lskip rfl hg3 rfl ?_
    refine lskip rfl hg3 rfl ?_
    refine lskip rfl hg3 rfl ?_
    refine lskip rfl rfl rfl ?_
    refine lskip rfl rfl rfl ?_
    refine lskip rfl rfl rfl ?_
    refine lskip rfl hg3 rfl ?_
    refine xlz (o_pT rfl rfl (g00 hg3) rfl rfl) ?_
    refine lendF ?_
    refine awp_condT rfl rfl rfl ?_
    refine xsr ?_
    refine xlz (o_as rfl rfl rfl) ?_
    refine lendF ?_
    refine awp_ret ?_
    refine ⟨[_], ⟨rfl, trivial⟩, ?_⟩
    first | exact ent_i rfl (by rw [hF, ← hI, drop_cons hn, digs, if_neg hdx]; rfl) | exact ent_i rfl (by rw [hF, ← hI, List.drop_length]; rfl) | exact ent_i rfl (by unfold majF; rw [if_pos (by simp at *; omega)]) | exact ent_i rfl (by unfold majF; rw [if_neg (by simp at *; omega), if_pos (by rw [hdc0]; exact hv0)]) | exact ent_i rfl (by unfold majF; rw [if_neg (by simp at *; omega), if_neg (by rw [hdc0]; simp [hv0]), if_pos (by rw [hdc1]; simp at *; exact ⟨hv1, by omega⟩)])
  ·
   refine lskip rfl hg2 rfl ?_
   refine lskip rfl hg2 rfl ?_
   refine lskip rfl hg2 rfl ?_
   refine xlz (o_pT rfl rfl (g00 hg2) rfl rfl) ?_
   refine xlz (o_mv rfl rfl rfl) ?_
   refine lskip rfl rfl rfl ?_
   refine lskip rfl rfl rfl ?_
   refine lskip rfl rfl rfl ?_
   refine lskip rfl rfl rfl ?_
   refine lskip rfl rfl rfl ?_
   refine lskip rfl rfl rfl ?_
   refine lskip rfl rfl rfl ?_
   refine lskip rfl rfl rfl ?_
   refine xlz (o_pT rfl rfl rfl rfl rfl) ?_
   refine lendF ?_
   refine awp_condT rfl rfl rfl ?_
   refine xsr ?_
   refine xlz (o_as rfl rfl rfl) ?_
   refine lendF ?_
   refine awp_ret ?_
   refine ⟨[_], ⟨rfl, trivial⟩, ?_⟩
   first | exact ent_i rfl (by rw [hF, ← hI, drop_cons hn, digs, if_neg hdx]; rfl) | exact ent_i rfl (by rw [hF, ← hI, List.drop_length]; rfl) | exact ent_i rfl (by unfold majF; rw [if_pos (by simp at *; omega)]) | exact ent_i rfl (by unfold majF; rw [if_neg (by simp at *; omega), if_pos (by rw [hdc0]; exact hv0)]) | exact ent_i rfl (by unfold majF; rw [if_neg (by simp at *; omega), if_neg (by rw [hdc0]; simp [hv0]), if_pos (by rw [hdc1]; simp at *; exact ⟨hv1, by omega⟩)])
 ·
  refine lskip rfl hg1 rfl ?_
  refine lskip rfl hg1 rfl ?_
  refine lskip rfl hg1 rfl ?_
  refine xlz (o_pT rfl rfl (g00 hg1) rfl rfl) ?_
  refine xlz (o_mv rfl rfl rfl) ?_
  refine lskip rfl rfl rfl ?_
  refine lskip rfl rfl rfl ?_
  refine lskip rfl rfl rfl ?_
  refine xlz (o_pT rfl rfl rfl rfl rfl) ?_
  refine xlz (o_mv rfl rfl rfl) ?_
  refine lskip rfl rfl rfl ?_
  refine lskip rfl rfl rfl ?_
  refine lskip rfl rfl rfl ?_
  refine lskip rfl rfl rfl ?_
  refine lskip rfl rfl rfl ?_
  refine lskip rfl rfl rfl ?_
  refine lskip rfl rfl rfl ?_
  refine lskip rfl rfl rfl ?_
  refine xlz (o_pT rfl rfl rfl rfl rfl) ?_
  refine lendF ?_
  refine awp_condT rfl rfl rfl ?_
  refine xsr ?_
  refine xlz (o_as rfl rfl rfl) ?_
  refine lendF ?_
  refine awp_ret ?_
  refine ⟨[_], ⟨rfl, trivial⟩, ?_⟩
  first | exact ent_i rfl (by rw [hF, ← hI, drop_cons hn, digs, if_neg hdx]; rfl) | exact ent_i rfl (by rw [hF, ← hI, List.drop_length]; rfl) | exact ent_i rfl (by unfold majF; rw [if_pos (by simp at *; omega)]) | exact ent_i rfl (by unfold majF; rw [if_neg (by simp at *; omega), if_pos (by rw [hdc0]; exact hv0)]) | exact ent_i rfl (by unfold majF; rw [if_neg (by simp at *; omega), if_neg (by rw [hdc0]; simp [hv0]), if_pos (by rw [hdc1]; simp at *; exact ⟨hv1, by omega⟩)])

set_option maxRecDepth 10000 in
theorem c133 (p : Bytes) (hs : p.length < 4611686018427387904) : Fn PR 133 [.d (.str p)] [] [.d (I (majorF p).1), .d (I (majorF p).2)] [] := by
 refine fn_of_awp Tryz.func133 rfl (N := 39) rfl ?_
 refine xsr ?_
 refine xlz (o_as rfl rfl rfl) ?_
 refine xlz (o_as rfl rfl rfl) ?_
 refine lendF ?_
 refine awp_seq ?_
 refine xsr ?_
 refine xlz (o_mv rfl rfl rfl) ?_
 refine xlz (op_lenS rfl rfl rfl ty9) ?_
 refine xlz (op_binI rfl rfl rfl rfl rfl (.inl rfl) rfl) ?_
 refine lendF ?_
 refine awp_cond rfl rfl (fun hc1 => ?_) (fun hc1 => ?_)
 ·
  have h64 : p.length > 64 := by simp at *; omega
  refine xsr ?_
  refine xlz (o_as rfl rfl rfl) ?_
  refine xlz (o_as rfl rfl rfl) ?_
  refine lendF ?_
  refine awp_ret ?_
  refine ⟨[_, _], ⟨rfl, rfl, trivial⟩, ?_⟩
  rw [show majorF p = (0, 4) from by unfold majorF; rw [if_pos h64]]
  exact ent_d2 rfl rfl rfl rfl
 ·
  have h64 : p.length ≤ 64 := by simp at *; omega
  have hne : ¬ p.length > 64 := by omega
  have hsl := segsF_len p
  have hsp := segsF_pos p
  have hsm := segsF_mem p
  obtain ⟨z, hz⟩ := last_get hsp
  have hgz := getD_get (d := []) hz
  refine awp_skip ?_
  refine xsr ?_
  refine xlz (o_mv rfl rfl rfl) ?_
  refine xlz (o_call (c154 p h64) rfl rfl rfl ca154 rfl rfl) ?_
  refine xlz (o_as rfl rfl rfl) ?_
  refine lendF ?_
  refine awp_seq ?_
  refine xsr ?_
  refine xlz (o_as rfl rfl rfl) ?_
  refine lendF ?_
  refine awp_block ?_
  refine awp_loop (fun i => ⟨39, [(5, .d (I (i : Nat))), (4, .d (.list ((segsF p).map .str)))], []⟩) (fun i => (segsF p).length - i) (fun i => i ≤ (segsF p).length ∧ ((segsF p).drop i).all segOK = (segsF p).all segOK) 0 ?_ ?_ ?_
  ·
   exact ent_k [] rfl rfl (xkc <| xkc <| .nil) obs_nil rfl
  ·
   exact ⟨Nat.zero_le _, rfl⟩
  ·
   rintro i ⟨hi, hI⟩
   refine awp_seq ?_
   refine xsr ?_
   refine xlz (o_mv rfl rfl rfl) ?_
   refine xlz (o_mv rfl rfl rfl) ?_
   refine xlz (o_lenE (n := (segsF p).length) rfl rfl rfl ty71 (by simp)) ?_
   refine xlz (op_binI rfl rfl rfl rfl rfl (.inl rfl) rfl) ?_
   refine lendF ?_
   refine awp_cond rfl rfl (fun hc2 => ?_) (fun hc2 => ?_)
   ·
    obtain ⟨x, hn⟩ := rng_lt (l := (segsF p)) (by simpa using hc2)
    have hlt := rng_le hn
    have hmem := List.mem_of_getElem? hn
    refine awp_skip ?_
    refine awp_seq ?_
    refine awp_block ?_
    refine xsr ?_
    refine xlz (o_mv rfl rfl rfl) ?_
    refine xlz (o_mv rfl rfl rfl) ?_
    refine xlz (o_ixN (i) rfl rfl rfl rfl ty71 (by first | rfl | omega | (simp; done) | (simp; omega)) hn ty9) ?_
    refine xlz (op_loadC1 rfl rfl rfl ty9 rfl rfl) ?_
    refine xlz (o_call (c155 x (by have := hsm x hmem; omega)) rfl rfl rfl ca155 rfl rfl) ?_
    refine xlz (op_not rfl rfl rfl) ?_
    refine lendF ?_
    refine awp_cond rfl rfl (fun hc3 => ?_) (fun hc3 => ?_)
    ·
     refine xsr ?_
     refine xlz (o_as rfl rfl rfl) ?_
     refine xlz (o_as rfl rfl rfl) ?_
     refine lendF ?_
     refine awp_ret ?_
     refine ⟨[_, _], ⟨rfl, rfl, trivial⟩, ?_⟩
     rw [show majorF p = (0, 4) from by unfold majorF; rw [if_neg hne, if_neg (by rw [← hI, drop_cons hn]; simp_all)]]
     exact ent_d2 rfl rfl rfl rfl
    ·
     refine awp_skip ?_
     refine awp_region mixed ?_
     refine xlz (o_mv rfl rfl rfl) ?_
     refine xlz (o_add rfl rfl rfl rfl (by first | omega | (simp; omega) | (simp at *; omega))) ?_
     refine xlz (o_as rfl rfl rfl) ?_
     refine lendF ?_
     refine ⟨i + 1, ?_, ?_, ?_⟩
     ·
      exact ⟨rng_le hn, by rw [← hI, drop_cons hn]; simp_all⟩
     ·
      exact ent_k [] rfl rfl (xkc <| xkc <| .nil) obs_nil rfl
     ·
      omega
   ·
    obtain rfl := rng_ge (l := (segsF p)) (by simpa using hc2) hi
    refine awp_exit ?_
    refine xsr ?_
    refine xlz (o_mv rfl rfl rfl) ?_
    refine xlz (o_mv rfl rfl rfl) ?_
    refine xlz (o_lenE (n := (segsF p).length) rfl rfl rfl ty71 (by simp)) ?_
    refine xlz (o_sub rfl rfl rfl rfl (by first | omega | (simp; omega) | (simp at *; omega))) ?_
    refine xlz (o_ixN (((segsF p).length - 1)) rfl rfl rfl rfl ty71 (by first | rfl | omega | (simp; done) | (simp; omega)) hz ty9) ?_
    refine xlz (op_loadC1 rfl rfl rfl ty9 rfl rfl) ?_
    refine xlz (o_call (c156 z (by have := hsm z (List.mem_of_getElem? hz); omega)) rfl rfl rfl ca156 rfl rfl) ?_
    refine xlz (o_as rfl rfl rfl) ?_
    refine lendF ?_
    refine awp_seq ?_
    refine xsr ?_
    refine xlz (o_mv rfl rfl rfl) ?_
    refine xlz (o_lenE (n := (segsF p).length) rfl rfl rfl ty71 (by simp)) ?_
    refine xlz (op_binI rfl rfl rfl rfl rfl (.inl rfl) rfl) ?_
    refine xlz (o_mv rfl rfl rfl) ?_
    refine lsplit rfl (fun hg4 => ?_) (fun hg4 => ?_)
    ·
     refine lg (o_mv rfl rfl rfl) rfl hg4 rfl rfl ?_
     refine lg (op_binI rfl rfl rfl rfl rfl (.inl rfl) rfl) rfl hg4 rfl rfl ?_
     refine xlz (o_pF rfl rfl (g01 hg4) rfl rfl) ?_
     refine lendF ?_
     refine awp_cond rfl rfl (fun hc5 => ?_) (fun hc5 => ?_)
     ·
      refine xsr ?_
      refine xlz (o_as rfl rfl rfl) ?_
      refine xlz (o_as rfl rfl rfl) ?_
      refine lendF ?_
      refine awp_ret ?_
      refine ⟨[_, _], ⟨rfl, rfl, trivial⟩, ?_⟩
      have hall : (segsF p).all segOK = true := by rw [← hI, List.drop_length]; rfl
      first | (rw [show majorF p = (0, 4) from by unfold majorF; rw [if_neg hne, if_pos hall, if_pos (by rw [hgz]; simp at *; omega)]]; exact ent_d2 rfl rfl rfl rfl) | (rw [show majorF p = (majF z, 0) from by unfold majorF; rw [if_neg hne, if_pos hall, if_neg (by rw [hgz]; simp at *; omega), hgz]]; exact ent_d2 rfl rfl rfl rfl)
     ·
      refine awp_skip ?_
      refine xsr ?_
      refine xlz (o_mv rfl rfl rfl) ?_
      refine xlz (o_as rfl rfl rfl) ?_
      refine xlz (o_as rfl rfl rfl) ?_
      refine lendF ?_
      refine awp_ret ?_
      refine ⟨[_, _], ⟨rfl, rfl, trivial⟩, ?_⟩
      have hall : (segsF p).all segOK = true := by rw [← hI, List.drop_length]; rfl
      first | (rw [show majorF p = (0, 4) from by unfold majorF; rw [if_neg hne, if_pos hall, if_pos (by rw [hgz]; simp at *; omega)]]; exact ent_d2 rfl rfl rfl rfl) | (rw [show majorF p = (majF z, 0) from by unfold majorF; rw [if_neg hne, if_pos hall, if_neg (by rw [hgz]; simp at *; omega), hgz]]; exact ent_d2 rfl rfl rfl rfl)
    ·
     refine lskip rfl hg4 rfl ?_
     refine lskip rfl hg4 rfl ?_
     refine xlz (o_pT rfl rfl (g00 hg4) rfl rfl) ?_
     refine lendF ?_
     refine awp_condT rfl rfl rfl ?_
     refine xsr ?_
     refine xlz (o_as rfl rfl rfl) ?_
     refine xlz (o_as rfl rfl rfl) ?_
     refine lendF ?_
     refine awp_ret ?_
     refine ⟨[_, _], ⟨rfl, rfl, trivial⟩, ?_⟩
     have hall : (segsF p).all segOK = true := by rw [← hI, List.drop_length]; rfl
     first | (rw [show majorF p = (0, 4) from by unfold majorF; rw [if_neg hne, if_pos hall, if_pos (by rw [hgz]; simp at *; omega)]]; exact ent_d2 rfl rfl rfl rfl) | (rw [show majorF p = (majF z, 0) from by unfold majorF; rw [if_neg hne, if_pos hall, if_neg (by rw [hgz]; simp at *; omega), hgz]]; exact ent_d2 rfl rfl rfl rfl)

set_option maxRecDepth 10000 in
theorem c132 (p : Bytes) (hs : p.length < 4611686018427387904) : Fn PR 132 [.d (.str p)] [] [.d (.bool (isPath p))] [] := by
 refine fn_of_awp Tryz.func132 rfl (N := 12) rfl ?_
 refine xsr ?_
 refine xlz (o_as rfl rfl rfl) ?_
 refine lendF ?_
 refine xsr ?_
 refine xlz (o_mv rfl rfl rfl) ?_
 refine xlz (o_call (c133 p hs) rfl rfl rfl ca133 rfl rfl) ?_
 refine xlz (o_mv rfl rfl rfl) ?_
 refine xlz (op_extract rfl rfl rfl rfl) ?_
 refine xlz (op_extract rfl rfl rfl rfl) ?_
 refine xlz (o_as rfl rfl rfl) ?_
 refine xlz (o_as rfl rfl rfl) ?_
 refine lendF ?_
 refine xsr ?_
 refine xlz (o_mv rfl rfl rfl) ?_
 refine xlz (op_binI rfl rfl rfl rfl rfl (.inl rfl) rfl) ?_
 refine xlz (o_as rfl rfl rfl) ?_
 refine lendF ?_
 refine awp_ret ?_
 refine ⟨[_], ⟨rfl, trivial⟩, ?_⟩
 exact ent_b rfl (by unfold isPath; rw [Bool.eq_iff_iff]; simp)

set_option maxRecDepth 10000 in
theorem c108 (p : Bytes) (hs : p.length < 4611686018427387904) : Fn PR 108 [.d (.str p)] [] [.undef, .d (I (if isPath p then (majorF p).1 else 0)), .d (I (if isPath p then 0 else 4))] [] := by
 refine fn_of_awp Tryz.func108 rfl (N := 31) rfl ?_
 refine xsr ?_
 refine xlz (o_as rfl rfl rfl) ?_
 refine xlz (o_as rfl rfl rfl) ?_
 refine xlz (o_as rfl rfl rfl) ?_
 refine lendF ?_
 refine awp_seq ?_
 refine xsr ?_
 refine xlz (o_mv rfl rfl rfl) ?_
 refine xlz (o_call (c132 p hs) rfl rfl rfl ca132 rfl rfl) ?_
 refine xlz (op_not rfl rfl rfl) ?_
 refine lendF ?_
 refine awp_cond rfl rfl (fun hc1 => ?_) (fun hc1 => ?_)
 ·
  have hp : isPath p = false := by simp_all
  refine xsr ?_
  refine xlz (o_as rfl rfl rfl) ?_
  refine xlz (o_as rfl rfl rfl) ?_
  refine xlz (o_as rfl rfl rfl) ?_
  refine lendF ?_
  refine awp_ret ?_
  refine ⟨[_, _, _], ⟨rfl, rfl, rfl, trivial⟩, ?_⟩
  first | exact ent_id rfl (.cons rfl (.undef _) (.cons rfl (k_i (by simp [hp])) (.cons rfl (k_i (by simp [hp])) .nil))) obs_nil rfl
 ·
  have hp : isPath p = true := by simp_all
  have hl := isPath_len hp
  have h0 := isPath_ok hp
  obtain ⟨j, hj⟩ := isPath_slash hp
  have hjl := rng_le hj
  refine awp_skip ?_
  refine xsr ?_
  refine xlz (o_mv rfl rfl rfl) ?_
  refine xlz (o_call (c133 p hs) rfl rfl rfl ca133 rfl rfl) ?_
  refine xlz (o_mv rfl rfl rfl) ?_
  refine xlz (op_extract rfl rfl rfl rfl) ?_
  refine xlz (op_extract rfl rfl rfl rfl) ?_
  refine xlz (o_as rfl rfl rfl) ?_
  refine xlz (o_as rfl rfl rfl) ?_
  refine lendF ?_
  refine awp_seq ?_
  refine xsr ?_
  refine xlz (o_mv rfl rfl rfl) ?_
  refine xlz (op_binI rfl rfl rfl rfl rfl (.inl rfl) rfl) ?_
  refine lendF ?_
  refine awp_cond rfl rfl (fun hc2 => ?_) (fun hc2 => ?_)
  ·
   exact absurd hc2 (by simp [h0])
  ·
   refine awp_skip ?_
   refine xsr ?_
   refine xlz (o_mv rfl rfl rfl) ?_
   refine xlz (op_lenS rfl rfl rfl ty9) ?_
   refine xlz (o_sub rfl rfl rfl rfl (by first | omega | (simp; omega) | (simp at *; omega))) ?_
   refine xlz (o_as rfl rfl rfl) ?_
   refine lendF ?_
   refine awp_seq ?_
   refine awp_block ?_
   refine awp_loop (fun k => ⟨31, [(7, .d (I (k : Nat))), (0, .d (.str p)), (5, .d (I (majorF p).1))], []⟩) (fun k => k) (fun k => k < p.length ∧ j ≤ k) (p.length - 1) ?_ ?_ ?_
   ·
    exact ent_k [] rfl rfl (.cons rfl (k_i (by omega)) <| xkc <| xkc <| .nil) obs_nil rfl
   ·
    exact ⟨by omega, by omega⟩
   ·
    rintro k ⟨hk, hjk⟩
    obtain ⟨x, hn⟩ : ∃ x, p[k]? = some x := ⟨_, List.getElem?_eq_getElem hk⟩
    refine awp_seq ?_
    refine xsr ?_
    refine xlz (o_mv rfl rfl rfl) ?_
    refine xlz (o_mv rfl rfl rfl) ?_
    refine xlz (o_idxS (k) rfl rfl rfl rfl ty9 (by first | rfl | omega | (simp; done) | (simp; omega)) hn) ?_
    refine xlz (op_binI rfl rfl rfl rfl rfl (.inl rfl) rfl) ?_
    refine lendF ?_
    refine awp_cond rfl rfl (fun hc3 => ?_) (fun hc3 => ?_)
    ·
     have hx : ¬ x = 47 := by have := hc3; rw [show (47 : Int) = ((47 : UInt8).toNat : Int) from rfl, neB] at this; simpa using this
     have hjk : j < k := by rcases Nat.lt_or_ge j k with h | h; (exact h); (have : j = k := by omega); (subst this; rw [hn] at hj; injection hj with hj; exact absurd hj hx)
     refine awp_skip ?_
     refine awp_block ?_
     refine awp_region mixed ?_
     refine xlz (o_mv rfl rfl rfl) ?_
     refine xlz (o_sub rfl rfl rfl rfl (by first | omega | (simp; omega) | (simp at *; omega))) ?_
     refine xlz (o_as rfl rfl rfl) ?_
     refine lendF ?_
     refine ⟨k - 1, ?_, ?_, ?_⟩
     ·
      exact ⟨by omega, by omega⟩
     ·
      exact ent_k [] rfl rfl (.cons rfl (k_i (by omega)) <| xkc <| xkc <| .nil) obs_nil rfl
     ·
      omega
    ·
     refine awp_exit ?_
     refine xsr ?_
     refine xlz (o_mv rfl rfl rfl) ?_
     refine xlz (o_mv rfl rfl rfl) ?_
     refine xlz (o_slS rfl rfl rfl ty9 .none (.some rfl rfl (n := k) (by first | rfl | omega | (simp; done) | (simp; omega))) (by first | omega | (simp; omega) | (simp at *; omega)) (by first | omega | (simp; omega) | (simp at *; omega))) ?_
     refine xlz (o_mv rfl rfl rfl) ?_
     refine xlz (o_as rfl rfl rfl) ?_
     refine xlz (o_as rfl rfl rfl) ?_
     refine xlz (o_as rfl rfl rfl) ?_
     refine lendF ?_
     refine awp_ret ?_
     refine ⟨[_, _, _], ⟨rfl, rfl, rfl, trivial⟩, ?_⟩
     first | exact ent_id rfl (.cons rfl (.undef _) (.cons rfl (k_i (by simp [hp])) (.cons rfl (k_i (by simp [hp])) .nil))) obs_nil rfl

set_option maxRecDepth 10000 in
theorem c73 (p : Bytes) (hs : p.length < 4611686018427387904) : Fn PR 73 [.d (.str p)] [] [.d (I (majN p))] [] := by
 refine fn_of_awp Tryz.func73 rfl (N := 15) rfl ?_
 refine xsr ?_
 refine xlz (o_as rfl rfl rfl) ?_
 refine lendF ?_
 refine xsr ?_
 refine xlz (o_mv rfl rfl rfl) ?_
 refine xlz (o_call (c108 p hs) rfl rfl rfl ca108 rfl rfl) ?_
 refine xlz (o_mv rfl rfl rfl) ?_
 refine xlz (op_extract rfl rfl rfl rfl) ?_
 refine xlz (op_extract rfl rfl rfl rfl) ?_
 refine xlz (op_extract rfl rfl rfl rfl) ?_
 refine xlz (o_as rfl rfl rfl) ?_
 refine xlz (o_as rfl rfl rfl) ?_
 refine xlz (o_as rfl rfl rfl) ?_
 refine lendF ?_
 refine awp_seq ?_
 refine xsr ?_
 refine xlz (o_mv rfl rfl rfl) ?_
 refine xlz (op_binI rfl rfl rfl rfl rfl (.inl rfl) rfl) ?_
 refine lendF ?_
 refine awp_cond rfl rfl (fun hc1 => ?_) (fun hc1 => ?_)
 ·
  refine xsr ?_
  refine xlz (o_as rfl rfl rfl) ?_
  refine lendF ?_
  refine awp_ret ?_
  refine ⟨[_], ⟨rfl, trivial⟩, ?_⟩
  exact ent_i rfl (by unfold majN; simp_all)
 ·
  refine awp_skip ?_
  refine xsr ?_
  refine xlz (o_mv rfl rfl rfl) ?_
  refine xlz (o_as rfl rfl rfl) ?_
  refine lendF ?_
  refine awp_ret ?_
  refine ⟨[_], ⟨rfl, trivial⟩, ?_⟩
  exact ent_i rfl (by unfold majN; simp_all)

end Go.Pm

namespace Go.Pm
open Go.Proofs

set_option maxRecDepth 100000 in
theorem c88 (s : List Span) (hs : s.length ≤ 1000000) : Fn PR 88 [.d (setD s)] [] [.d (setD (canonS s))] [] := by
 refine fn_of_awp Tryz.func88 rfl (N := 113) rfl ?_
 refine xsr ?_
 refine xlz (o_as rfl rfl rfl) ?_
 refine lendF ?_
 refine xsr ?_
 refine xlz (o_bs rfl rfl rfl rfl rfl ty49 ty78 rfl rfl) ?_
 refine xlz (o_as rfl rfl rfl) ?_
 refine lendF ?_
 refine awp_seq ?_
 refine xsr ?_
 refine xlz (o_as rfl rfl rfl) ?_
 refine lendF ?_
 refine awp_block ?_
 refine awp_loop (fun x => ⟨113, [(3, .d (.list (x.2.map Span.d))), (4, .d (I (x.1 : Nat))), (0, .d (setD s))], []⟩) (fun x => s.length - x.1) (fun x => x.1 ≤ s.length ∧ x.2.length ≤ x.1 ∧ canon1 x.2 (s.drop x.1) = canon1 [] s) (0, []) ?_ ?_ ?_
 ·
  exact ent_k [] rfl rfl (xkc <| xkc <| xkc <| .nil) obs_nil rfl
 ·
  exact ⟨Nat.zero_le _, Nat.le_refl _, rfl⟩
 ·
  rintro ⟨i, l⟩ ⟨hi, hl, hI⟩
  dsimp only at hi hl hI ⊢
  refine awp_seq ?_
  refine xsr ?_
  refine xlz (o_mv rfl rfl rfl) ?_
  refine xlz (o_mv rfl rfl rfl) ?_
  refine xlz (o_lenE (n := s.length) rfl rfl rfl ty49 (by simp)) ?_
  refine xlz (op_binI rfl rfl rfl rfl rfl (.inl rfl) rfl) ?_
  refine lendF ?_
  refine awp_cond rfl rfl (fun hc1 => ?_) (fun hc1 => ?_)
  ·
   obtain ⟨x, hn⟩ := rng_lt (l := s) (by simpa using hc1)
   have hlt := rng_le hn
   have hmem := List.mem_of_getElem? hn
   refine awp_skip ?_
   refine awp_seq ?_
   refine awp_block ?_
   refine xsr ?_
   refine xlz (o_mv rfl rfl rfl) ?_
   refine xlz (o_mv rfl rfl rfl) ?_
   refine xlz (o_ixN (i) rfl rfl rfl rfl ty49 (by first | rfl | omega | (simp; done) | (simp; omega)) hn ty78) ?_
   refine xlz (op_fieldC rfl rfl rfl fl78_0) ?_
   refine xlz (op_loadC1 rfl rfl rfl ty3 rfl rfl) ?_
   refine xlz (op_max rfl rfl rfl rfl rfl) ?_
   refine xlz (o_mv rfl rfl rfl) ?_
   refine xlz (o_mv rfl rfl rfl) ?_
   refine xlz (o_ixN (i) rfl rfl rfl rfl ty49 (by first | rfl | omega | (simp; done) | (simp; omega)) hn ty78) ?_
   refine xlz (op_fieldC rfl rfl rfl fl78_1) ?_
   refine xlz (op_loadC1 rfl rfl rfl ty3 rfl rfl) ?_
   refine xlz (op_min rfl rfl rfl rfl rfl) ?_
   refine xlz (o_bld rfl rfl rfl bl78 ty78 zk78 rfl rfl rfl) ?_
   refine xlz (op_alloc rfl rfl (by decide) ty78 zk78 rfl) ?_
   refine xlz (op_store rfl rfl rfl rfl rfl rfl ty78 rfl (xlb rfl)) ?_
   refine lend (fun _ => by kernel_rfl) ?_
   refine awp_seq ?_
   refine xsr ?_
   refine xlz (op_fieldP rfl rfl rfl fl78_0) ?_
   refine xlz (op_load1 rfl rfl rfl rfl ty3 rfl rfl) ?_
   refine xlz (op_fieldP rfl rfl rfl fl78_1) ?_
   refine xlz (op_load1 rfl rfl rfl rfl ty3 rfl rfl) ?_
   refine xlz (op_binI rfl rfl rfl rfl rfl (.inl rfl) rfl) ?_
   refine lendF ?_
   refine awp_cond rfl rfl (fun hc2 => ?_) (fun hc2 => ?_)
   ·
    have hge : (clampS x).lo ≥ (clampS x).hi := by have := hc2; simp at this; exact this
    refine awp_exit ?_
    refine awp_region mixed ?_
    refine xlz (o_mv rfl rfl rfl) ?_
    refine xlz (o_add rfl rfl rfl rfl (by first | omega | (simp; omega) | (simp at *; omega))) ?_
    refine xlz (o_as rfl rfl rfl) ?_
    refine lendF ?_
    refine ⟨(i + 1, l), ?_, ?_, ?_⟩
    ·
     exact ⟨rng_le hn, by show l.length ≤ i + 1; omega, by show canon1 l (s.drop (i + 1)) = _; rw [← hI, drop_cons hn, canon1, if_pos hge]⟩
    ·
     exact ent_k [] rfl rfl (xkc <| xkc <| xkc <| .nil) obs_nil rfl
    ·
     show s.length - (i + 1) < s.length - i; have := rng_le hn; omega
   ·
    have hge : ¬ (clampS x).lo ≥ (clampS x).hi := by have := hc2; simp at this; simp [clampS]; omega
    refine awp_skip ?_
    refine xsr ?_
    refine xlz (o_mv rfl rfl rfl) ?_
    refine xlz (o_eqI (o_lenE (n := l.length) rfl rfl rfl ty49 (by simp)) (m' := l.length) (by simp)) ?_
    refine xlz (o_as rfl rfl rfl) ?_
    refine lendF ?_
    refine awp_seq ?_
    refine awp_block ?_
    refine awp_loop (fun k => ⟨113, [(6, .d (I (k : Nat))), (0, .d (setD s)), (3, .d (.list (l.map Span.d))), (4, .d (I (i : Nat))), (5, .ptr 5 0), (11, .d (I (i : Nat))), (12, .d (setD s)), (13, .d (I s.length)), (17, .d (setD s)), (18, .d (I (i : Nat))), (21, .d (I x.lo)), (22, .d (I (clampS x).lo)), (23, .d (setD s)), (24, .d (I (i : Nat))), (27, .d (I x.hi)), (28, .d (I (clampS x).hi)), (29, .d (.agg [I (clampS x).lo, I (clampS x).hi])), (30, .ptr 5 0), (31, .d (I (clampS x).lo)), (32, .ptr 5 1), (33, .d (I (clampS x).hi)), (35, .d (.list (l.map Span.d))), (36, .d (I l.length))], [(5, .cells [.d (I (clampS x).lo), .d (I (clampS x).hi)])]⟩) (fun k => k) (fun k => k ≤ l.length ∧ posS l (clampS x) k = posS l (clampS x) l.length) l.length ?_ ?_ ?_
    ·
     exact ent_k [] rfl rfl (xkc <| xkc <| xkc <| xkc <| xkc <| xkc <| xkc <| xkc <| xkc <| xkc <| xkc <| xkc <| xkc <| xkc <| xkc <| xkc <| xkc <| xkc <| xkc <| xkc <| xkc <| xkc <| xkc <| .nil) (obs_cons rfl (o_eq rfl) obs_nil) rfl
    ·
     exact ⟨Nat.le_refl _, rfl⟩
    ·
     rintro k ⟨hk1, hP⟩
     refine awp_seq ?_
     refine xsr ?_
     refine xlz (o_mv rfl rfl rfl) ?_
     refine xlz (op_binI rfl rfl rfl rfl rfl (.inl rfl) rfl) ?_
     refine xlz (o_mv rfl rfl rfl) ?_
     refine lsplit rfl (fun hg3 => ?_) (fun hg3 => ?_)
     ·
      have hk0 : 0 < k := by have := (g11 hg3); simp at this; omega
      obtain ⟨z, hz⟩ : ∃ z, l[k - 1]? = some z := ⟨_, List.getElem?_eq_getElem (by first | omega | (simp at *; omega))⟩
      refine lg (o_mv rfl rfl rfl) rfl hg3 rfl rfl ?_
      refine lg (o_mv rfl rfl rfl) rfl hg3 rfl rfl ?_
      refine lg (o_sub rfl rfl rfl rfl (by first | omega | (simp; omega) | (simp at *; omega))) rfl hg3 rfl rfl ?_
      refine lg (o_ixN ((k - 1)) rfl rfl rfl rfl ty49 (by first | rfl | omega | (simp; done) | (simp; omega)) hz ty78) rfl hg3 rfl rfl ?_
      refine lg (op_fieldC rfl rfl rfl fl78_0) rfl hg3 rfl rfl ?_
      refine lg (op_loadC1 rfl rfl rfl ty3 rfl rfl) rfl hg3 rfl rfl ?_
      refine lg (op_fieldP rfl rfl rfl fl78_0) rfl hg3 rfl rfl ?_
      refine lg (op_load1 rfl rfl rfl rfl ty3 rfl rfl) rfl hg3 rfl rfl ?_
      refine lg (op_binI rfl rfl rfl rfl rfl (.inl rfl) rfl) rfl hg3 rfl rfl ?_
      refine xlz (o_pT rfl rfl (g11 hg3) rfl rfl) ?_
      refine lend (fun _ => by kernel_rfl) ?_
      refine awp_cond rfl rfl (fun hc4 => ?_) (fun hc4 => ?_)
      ·
       refine awp_skip ?_
       refine awp_block ?_
       refine awp_region mixed ?_
       refine xlz (o_mv rfl rfl rfl) ?_
       refine xlz (o_sub rfl rfl rfl rfl (by first | omega | (simp; omega) | (simp at *; omega))) ?_
       refine xlz (o_as rfl rfl rfl) ?_
       refine lendF ?_
       refine ⟨k - 1, ?_, ?_, ?_⟩
       ·
        exact ⟨by omega, by rw [← hP, pos_step hz (by first | omega | (simp at *; omega)) (by first | omega | (simp at *; omega))]⟩
       ·
        exact ent_k [] rfl rfl (.cons rfl (k_i (by first | omega | (simp at *; omega))) <| xkc <| xkc <| xkc <| xkc <| xkc <| xkc <| xkc <| xkc <| xkc <| xkc <| xkc <| xkc <| xkc <| xkc <| xkc <| xkc <| xkc <| xkc <| xkc <| xkc <| xkc <| xkc <| .nil) (obs_cons rfl (o_eq rfl) obs_nil) rfl
       ·
        first | omega | (simp at *; omega)
      ·
       refine awp_exit ?_
       refine awp_region mixed ?_
       have hk : posS l (clampS x) l.length = k := by rw [← hP]; first | (rw [show k = 0 from by simp at *; omega]; rfl) | exact pos_stop hz (by first | omega | (simp at *; omega)) (by first | omega | (simp at *; omega))
       have hkl : k ≤ l.length := hk1
       refine xlz (o_mv rfl rfl rfl) ?_
       refine xlz (o_mv rfl rfl rfl) ?_
       refine xlz (o_mv rfl rfl rfl) ?_
       refine xlz (o_sl3 rfl rfl rfl ty49 ty78 (by first | exact cl_map fun _ => rfl | exact cl_one rfl | exact cl_take (cl_drop (cl_map fun _ => rfl)) | exact cl_app (cl_one rfl) (cl_take (cl_drop (cl_map fun _ => rfl))) | exact cl_app (cl_map fun _ => rfl) (cl_one rfl)) .none (.some rfl rfl (n := k) (by first | rfl | omega | (simp; done) | (simp; omega))) (.some rfl rfl (n := k) (by first | rfl | omega | (simp; done) | (simp; omega))) (Nat.zero_le _) (by simp; omega)) ?_
       refine xlz (o_ldA rfl rfl rfl rfl ty78 rfl (xlb rfl) rfl) ?_
       refine xlz (o_bs rfl rfl rfl rfl rfl ty49 ty78 rfl rfl) ?_
       refine xlz (o_mv rfl rfl rfl) ?_
       refine xlz (o_mv rfl rfl rfl) ?_
       refine xlz (o_slL rfl rfl rfl ty49 ty78 (by first | exact cl_map fun _ => rfl | exact cl_one rfl | exact cl_take (cl_drop (cl_map fun _ => rfl)) | exact cl_app (cl_one rfl) (cl_take (cl_drop (cl_map fun _ => rfl))) | exact cl_app (cl_map fun _ => rfl) (cl_one rfl)) (.some rfl rfl (n := k) (by first | rfl | omega | (simp; done) | (simp; omega))) .none (by simp; omega) (by simp)) ?_
       refine xlz (o_app rfl rfl (by decide) rfl rfl rfl ty49 ty78 rfl (by decide) rfl (by first | exact cl_map fun _ => rfl | exact cl_one rfl | exact cl_take (cl_drop (cl_map fun _ => rfl)) | exact cl_app (cl_one rfl) (cl_take (cl_drop (cl_map fun _ => rfl))) | exact cl_app (cl_map fun _ => rfl) (cl_one rfl)) (by first | exact cl_map fun _ => rfl | exact cl_one rfl | exact cl_take (cl_drop (cl_map fun _ => rfl)) | exact cl_app (cl_one rfl) (cl_take (cl_drop (cl_map fun _ => rfl))) | exact cl_app (cl_map fun _ => rfl) (cl_one rfl)) (by simp; omega) (by decide) rfl) ?_
       refine xlz (o_app rfl rfl (by decide) rfl rfl rfl ty49 ty78 rfl (by decide) rfl (by first | exact cl_map fun _ => rfl | exact cl_one rfl | exact cl_take (cl_drop (cl_map fun _ => rfl)) | exact cl_app (cl_one rfl) (cl_take (cl_drop (cl_map fun _ => rfl))) | exact cl_app (cl_map fun _ => rfl) (cl_one rfl)) (by first | exact cl_map fun _ => rfl | exact cl_one rfl | exact cl_take (cl_drop (cl_map fun _ => rfl)) | exact cl_app (cl_one rfl) (cl_take (cl_drop (cl_map fun _ => rfl))) | exact cl_app (cl_map fun _ => rfl) (cl_one rfl)) (by simp; omega) (by decide) rfl) ?_
       refine xlz (o_as rfl rfl rfl) ?_
       refine lend (fun _ => by kernel_rfl) ?_
       refine awp_region mixed ?_
       refine xlz (o_mv rfl rfl rfl) ?_
       refine xlz (o_add rfl rfl rfl rfl (by first | omega | (simp; omega) | (simp at *; omega))) ?_
       refine xlz (o_as rfl rfl rfl) ?_
       refine lendF ?_
       refine ⟨(i + 1, insS l (clampS x)), ?_, ?_, ?_⟩
       ·
        exact ⟨rng_le hn, by show (insS l (clampS x)).length ≤ i + 1; rw [insS_len]; omega, by show canon1 (insS l (clampS x)) (s.drop (i + 1)) = _; rw [← hI, drop_cons hn, canon1, if_neg hge]⟩
       ·
        exact ent_k [] rfl rfl (.cons rfl (.data (by simp [toD, insS, hk, List.take_of_length_le])) <| .cons rfl (k_i (by simp)) <| xkc <| .nil) obs_nil rfl
       ·
        show s.length - (i + 1) < s.length - i; have := rng_le hn; omega
     ·
      have hk0 : k = 0 := by have := (g10 hg3); simp at this; omega
      refine lskip rfl hg3 rfl ?_
      refine lskip rfl hg3 rfl ?_
      refine lskip rfl hg3 rfl ?_
      refine lskip rfl hg3 rfl ?_
      refine lskip rfl hg3 rfl ?_
      refine lskip rfl hg3 rfl ?_
      refine lskip rfl hg3 rfl ?_
      refine lskip rfl hg3 rfl ?_
      refine lskip rfl hg3 rfl ?_
      refine xlz (o_pF rfl rfl (g10 hg3) rfl rfl) ?_
      refine lend (fun _ => by kernel_rfl) ?_
      refine awp_condF rfl rfl rfl ?_
      refine awp_exit ?_
      refine awp_region mixed ?_
      have hk : posS l (clampS x) l.length = k := by rw [← hP]; first | (rw [show k = 0 from by simp at *; omega]; rfl) | exact pos_stop hz (by first | omega | (simp at *; omega)) (by first | omega | (simp at *; omega))
      have hkl : k ≤ l.length := hk1
      refine xlz (o_mv rfl rfl rfl) ?_
      refine xlz (o_mv rfl rfl rfl) ?_
      refine xlz (o_mv rfl rfl rfl) ?_
      refine xlz (o_sl3 rfl rfl rfl ty49 ty78 (by first | exact cl_map fun _ => rfl | exact cl_one rfl | exact cl_take (cl_drop (cl_map fun _ => rfl)) | exact cl_app (cl_one rfl) (cl_take (cl_drop (cl_map fun _ => rfl))) | exact cl_app (cl_map fun _ => rfl) (cl_one rfl)) .none (.some rfl rfl (n := k) (by first | rfl | omega | (simp; done) | (simp; omega))) (.some rfl rfl (n := k) (by first | rfl | omega | (simp; done) | (simp; omega))) (Nat.zero_le _) (by simp; omega)) ?_
      refine xlz (o_ldA rfl rfl rfl rfl ty78 rfl (xlb rfl) rfl) ?_
      refine xlz (o_bs rfl rfl rfl rfl rfl ty49 ty78 rfl rfl) ?_
      refine xlz (o_mv rfl rfl rfl) ?_
      refine xlz (o_mv rfl rfl rfl) ?_
      refine xlz (o_slL rfl rfl rfl ty49 ty78 (by first | exact cl_map fun _ => rfl | exact cl_one rfl | exact cl_take (cl_drop (cl_map fun _ => rfl)) | exact cl_app (cl_one rfl) (cl_take (cl_drop (cl_map fun _ => rfl))) | exact cl_app (cl_map fun _ => rfl) (cl_one rfl)) (.some rfl rfl (n := k) (by first | rfl | omega | (simp; done) | (simp; omega))) .none (by simp; omega) (by simp)) ?_
      refine xlz (o_app rfl rfl (by decide) rfl rfl rfl ty49 ty78 rfl (by decide) rfl (by first | exact cl_map fun _ => rfl | exact cl_one rfl | exact cl_take (cl_drop (cl_map fun _ => rfl)) | exact cl_app (cl_one rfl) (cl_take (cl_drop (cl_map fun _ => rfl))) | exact cl_app (cl_map fun _ => rfl) (cl_one rfl)) (by first | exact cl_map fun _ => rfl | exact cl_one rfl | exact cl_take (cl_drop (cl_map fun _ => rfl)) | exact cl_app (cl_one rfl) (cl_take (cl_drop (cl_map fun _ => rfl))) | exact cl_app (cl_map fun _ => rfl) (cl_one rfl)) (by simp; omega) (by decide) rfl) ?_
      refine xlz (o_app rfl rfl (by decide) rfl rfl rfl ty49 ty78 rfl (by decide) rfl (by first | exact cl_map fun _ => rfl | exact cl_one rfl | exact cl_take (cl_drop (cl_map fun _ => rfl)) | exact cl_app (cl_one rfl) (cl_take (cl_drop (cl_map fun _ => rfl))) | exact cl_app (cl_map fun _ => rfl) (cl_one rfl)) (by first | exact cl_map fun _ => rfl | exact cl_one rfl | exact cl_take (cl_drop (cl_map fun _ => rfl)) | exact cl_app (cl_one rfl) (cl_take (cl_drop (cl_map fun _ => rfl))) | exact cl_app (cl_map fun _ => rfl) (cl_one rfl)) (by simp; omega) (by decide) rfl) ?_
      refine xlz (o_as rfl rfl rfl) ?_
      refine lend (fun _ => by kernel_rfl) ?_
      refine awp_region mixed ?_
      refine xlz (o_mv rfl rfl rfl) ?_
      refine xlz (o_add rfl rfl rfl rfl (by first | omega | (simp; omega) | (simp at *; omega))) ?_
      refine xlz (o_as rfl rfl rfl) ?_
      refine lendF ?_
      refine ⟨(i + 1, insS l (clampS x)), ?_, ?_, ?_⟩
      ·
       exact ⟨rng_le hn, by show (insS l (clampS x)).length ≤ i + 1; rw [insS_len]; omega, by show canon1 (insS l (clampS x)) (s.drop (i + 1)) = _; rw [← hI, drop_cons hn, canon1, if_neg hge]⟩
      ·
       exact ent_k [] rfl rfl (.cons rfl (.data (by simp [toD, insS, hk, List.take_of_length_le])) <| .cons rfl (k_i (by simp)) <| xkc <| .nil) obs_nil rfl
      ·
       show s.length - (i + 1) < s.length - i; have := rng_le hn; omega
  ·
   obtain rfl := rng_ge (l := s) (by simpa using hc1) hi
   refine awp_exit ?_
   refine xsr ?_
   refine xlz (op_bsR rfl rfl rfl rfl rfl ty49 ty78 rfl rfl rfl (by decide)) ?_
   refine xlz (o_as rfl rfl rfl) ?_
   refine lendF ?_
   refine awp_seq ?_
   refine xsr ?_
   refine xlz (o_as rfl rfl rfl) ?_
   refine lendF ?_
   refine awp_block ?_
   have hll : l.length ≤ s.length := hl
   refine awp_loop (fun x => ⟨113, [(7, .arr 500063 2 0 (x.2.map Span.d).length), (8, .d (I (x.1 : Nat))), (3, .d (.list (l.map Span.d)))], [(500063, .arr 2 (x.2.map Span.d))]⟩) (fun x => l.length - x.1) (fun x => x.1 ≤ l.length ∧ x.2.length ≤ x.1 ∧ (l.drop x.1).foldl mstep x.2 = canonS s) (0, []) ?_ ?_ ?_
   ·
    exact ent_k [(500063, 63)] rfl rfl (.cons rfl (k_arr rfl rfl) <| xkc <| xkc <| .nil) (obs_cons rfl (ko_arr rfl) obs_nil) rfl
   ·
    exact ⟨Nat.zero_le _, Nat.le_refl _, by show l.foldl mstep [] = _; rw [canonS, ← hI]; rw [List.drop_length]; rfl⟩
   ·
    rintro ⟨j, out⟩ ⟨hj, ho, hJ⟩
    dsimp only at hj ho hJ ⊢
    refine awp_seq ?_
    refine xsr ?_
    refine xlz (o_mv rfl rfl rfl) ?_
    refine xlz (o_mv rfl rfl rfl) ?_
    refine xlz (o_lenE (n := l.length) rfl rfl rfl ty49 (by simp)) ?_
    refine xlz (op_binI rfl rfl rfl rfl rfl (.inl rfl) rfl) ?_
    refine lendF ?_
    refine awp_cond rfl rfl (fun hc6 => ?_) (fun hc6 => ?_)
    ·
     obtain ⟨x, hn⟩ := rng_lt (l := l) (by simpa using hc6)
     have hlt := rng_le hn
     refine awp_skip ?_
     refine awp_seq ?_
     refine awp_block ?_
     refine xsr ?_
     refine xlz (o_mv rfl rfl rfl) ?_
     refine xlz (o_eqI (op_lenR rfl rfl rfl ty49) (m' := out.length) (by simp)) ?_
     refine xlz (o_as rfl rfl rfl) ?_
     refine lendF ?_
     refine xsr ?_
     refine xlz (o_mv rfl rfl rfl) ?_
     refine xlz (op_binI rfl rfl rfl rfl rfl (.inl rfl) rfl) ?_
     refine xlz (o_mv rfl rfl rfl) ?_
     refine lsplit rfl (fun hg7 => ?_) (fun hg7 => ?_)
     ·
      have ho0 : 0 < out.length := by have := (g11 hg7); simp at this; omega
      obtain ⟨z, hz⟩ := last_get (l := out) (by first | omega | (simp at *; omega))
      have hzm := map_get (f := Span.d) hz
      refine lg (o_mv rfl rfl rfl) rfl hg7 rfl rfl ?_
      refine lg (o_mv rfl rfl rfl) rfl hg7 rfl rfl ?_
      refine lg (o_ixN (j) rfl rfl rfl rfl ty49 (by first | rfl | omega | (simp; done) | (simp; omega)) hn ty78) rfl hg7 rfl rfl ?_
      refine lg (op_fieldC rfl rfl rfl fl78_0) rfl hg7 rfl rfl ?_
      refine lg (op_loadC1 rfl rfl rfl ty3 rfl rfl) rfl hg7 rfl rfl ?_
      refine lg (o_mv rfl rfl rfl) rfl hg7 rfl rfl ?_
      refine lg (o_mv rfl rfl rfl) rfl hg7 rfl rfl ?_
      refine lg (o_sub rfl rfl rfl rfl (by first | omega | (simp; omega) | (simp at *; omega))) rfl hg7 rfl rfl ?_
      refine lg (o_ixR' ((out.length - 1)) rfl rfl rfl rfl ty49 ty78 (by first | rfl | omega | (simp; done) | (simp; omega)) (by first | omega | (simp at *; omega)) (Nat.zero_add _).symm) rfl hg7 rfl rfl ?_
      refine lg (op_fieldE rfl rfl rfl fl78_1) rfl hg7 rfl rfl ?_
      refine lg (op_loadE1 rfl rfl rfl rfl hzm ty3 rfl rfl) rfl hg7 rfl rfl ?_
      refine lg (op_binI rfl rfl rfl rfl rfl (.inl rfl) rfl) rfl hg7 rfl rfl ?_
      refine xlz (o_pT rfl rfl (g11 hg7) rfl rfl) ?_
      refine lend (fun _ => by kernel_rfl) ?_
      refine awp_cond rfl rfl (fun hc8 => ?_) (fun hc8 => ?_)
      ·
       refine awp_region mixed ?_
       refine xlz (o_mv rfl rfl rfl) ?_
       refine xlz (o_mv rfl rfl rfl) ?_
       refine xlz (o_sub rfl rfl rfl rfl (by first | omega | (simp; omega) | (simp at *; omega))) ?_
       refine xlz (o_mv rfl rfl rfl) ?_
       refine xlz (o_mv rfl rfl rfl) ?_
       refine xlz (o_sub rfl rfl rfl rfl (by first | omega | (simp; omega) | (simp at *; omega))) ?_
       refine xlz (o_ixR' ((out.length - 1)) rfl rfl rfl rfl ty49 ty78 (by first | rfl | omega | (simp; done) | (simp; omega)) (by first | omega | (simp at *; omega)) (Nat.zero_add _).symm) ?_
       refine xlz (op_fieldE rfl rfl rfl fl78_1) ?_
       refine xlz (op_loadE1 rfl rfl rfl rfl hzm ty3 rfl rfl) ?_
       refine xlz (o_mv rfl rfl rfl) ?_
       refine xlz (o_mv rfl rfl rfl) ?_
       refine xlz (o_ixN (j) rfl rfl rfl rfl ty49 (by first | rfl | omega | (simp; done) | (simp; omega)) hn ty78) ?_
       refine xlz (op_fieldC rfl rfl rfl fl78_1) ?_
       refine xlz (op_loadC1 rfl rfl rfl ty3 rfl rfl) ?_
       refine xlz (op_max rfl rfl rfl rfl rfl) ?_
       refine xlz (o_ixR' ((out.length - 1)) rfl rfl rfl rfl ty49 ty78 (by first | rfl | omega | (simp; done) | (simp; omega)) (by first | omega | (simp at *; omega)) (Nat.zero_add _).symm) ?_
       refine xlz (op_fieldE rfl rfl rfl fl78_1) ?_
       refine xlz (op_storeE rfl rfl rfl rfl hzm rfl rfl rfl ty3 rfl rfl rfl) ?_
       refine lend (fun _ => by kernel_rfl) ?_
       refine awp_region mixed ?_
       refine xlz (o_mv rfl rfl rfl) ?_
       refine xlz (o_add rfl rfl rfl rfl (by first | omega | (simp; omega) | (simp at *; omega))) ?_
       refine xlz (o_as rfl rfl rfl) ?_
       refine lendF ?_
       refine ⟨(j + 1, out.set (out.length - 1) ⟨z.lo, if x.hi > z.hi then x.hi else z.hi⟩), ?_, ?_, ?_⟩
       ·
        exact ⟨rng_le hn, by show (out.set (out.length - 1) _).length ≤ j + 1; simp; omega, by show (l.drop (j + 1)).foldl mstep (out.set (out.length - 1) ⟨z.lo, _⟩) = _; rw [← hJ, drop_cons hn, List.foldl_cons, mstep_in hz (by first | omega | (simp at *; omega))]⟩
       ·
        exact ent_k [] rfl rfl (.cons rfl (k_arr rfl (by simp)) <| .cons rfl (k_i (by simp)) <| .cons rfl (k_eq rfl) <| .nil) (obs_cons rfl (ko_arr (by simp [D.upd, wrD, List.map_set])) obs_nil) rfl
       ·
        show l.length - (j + 1) < l.length - j; have := rng_le hn; omega
      ·
       refine awp_region mixed ?_
       refine xlz (o_mv rfl rfl rfl) ?_
       refine xlz (o_mv rfl rfl rfl) ?_
       refine xlz (o_mv rfl rfl rfl) ?_
       refine xlz (o_ixN (j) rfl rfl rfl rfl ty49 (by first | rfl | omega | (simp; done) | (simp; omega)) hn ty78) ?_
       refine xlz (op_loadCA rfl rfl rfl ty78 rfl (xlb rfl)) ?_
       refine xlz (o_bs rfl rfl rfl rfl rfl ty49 ty78 rfl rfl) ?_
       refine xlz (op_appendR rfl rfl (by decide) (.inr ⟨_, rfl, rfl, rfl⟩) rfl rfl rfl ty49 ty78 rfl (by decide) (by first | exact cl_map fun _ => rfl | exact cl_one rfl | exact cl_take (cl_drop (cl_map fun _ => rfl)) | exact cl_app (cl_one rfl) (cl_take (cl_drop (cl_map fun _ => rfl))) | exact cl_app (cl_map fun _ => rfl) (cl_one rfl)) (by simp) (by simp; omega) (by simp; omega)) ?_
       refine xlz (o_as rfl rfl rfl) ?_
       refine lendF ?_
       refine awp_region mixed ?_
       refine xlz (o_mv rfl rfl rfl) ?_
       refine xlz (o_add rfl rfl rfl rfl (by first | omega | (simp; omega) | (simp at *; omega))) ?_
       refine xlz (o_as rfl rfl rfl) ?_
       refine lendF ?_
       refine ⟨(j + 1, out ++ [x]), ?_, ?_, ?_⟩
       ·
        exact ⟨rng_le hn, by show (out ++ [x]).length ≤ j + 1; simp; omega, by show (l.drop (j + 1)).foldl mstep (out ++ [x]) = _; rw [← hJ, drop_cons hn, List.foldl_cons]; first | rw [mstep_nil (by first | omega | (simp at *; omega))] | rw [mstep_out hz (by first | omega | (simp at *; omega))]⟩
       ·
        exact ent_k [(500063, 111)] rfl rfl (.cons rfl (k_arr rfl (by simp)) <| .cons rfl (k_i (by simp)) <| .cons rfl (k_eq rfl) <| .nil) (obs_cons rfl (ko_arr (by simp; rfl)) obs_nil) rfl
       ·
        show l.length - (j + 1) < l.length - j; have := rng_le hn; omega
     ·
      have ho0 : ¬ 0 < out.length := by have := (g10 hg7); simp at this; simp [this]
      refine lskip rfl hg7 rfl ?_
      refine lskip rfl hg7 rfl ?_
      refine lskip rfl hg7 rfl ?_
      refine lskip rfl hg7 rfl ?_
      refine lskip rfl hg7 rfl ?_
      refine lskip rfl hg7 rfl ?_
      refine lskip rfl hg7 rfl ?_
      refine lskip rfl hg7 rfl ?_
      refine lskip rfl hg7 rfl ?_
      refine lskip rfl hg7 rfl ?_
      refine lskip rfl hg7 rfl ?_
      refine lskip rfl hg7 rfl ?_
      refine xlz (o_pF rfl rfl (g10 hg7) rfl rfl) ?_
      refine lend (fun _ => by kernel_rfl) ?_
      refine awp_condF rfl rfl rfl ?_
      refine awp_region mixed ?_
      refine xlz (o_mv rfl rfl rfl) ?_
      refine xlz (o_mv rfl rfl rfl) ?_
      refine xlz (o_mv rfl rfl rfl) ?_
      refine xlz (o_ixN (j) rfl rfl rfl rfl ty49 (by first | rfl | omega | (simp; done) | (simp; omega)) hn ty78) ?_
      refine xlz (op_loadCA rfl rfl rfl ty78 rfl (xlb rfl)) ?_
      refine xlz (o_bs rfl rfl rfl rfl rfl ty49 ty78 rfl rfl) ?_
      refine xlz (op_appendR rfl rfl (by decide) (.inr ⟨_, rfl, rfl, rfl⟩) rfl rfl rfl ty49 ty78 rfl (by decide) (by first | exact cl_map fun _ => rfl | exact cl_one rfl | exact cl_take (cl_drop (cl_map fun _ => rfl)) | exact cl_app (cl_one rfl) (cl_take (cl_drop (cl_map fun _ => rfl))) | exact cl_app (cl_map fun _ => rfl) (cl_one rfl)) (by simp) (by simp; omega) (by simp; omega)) ?_
      refine xlz (o_as rfl rfl rfl) ?_
      refine lendF ?_
      refine awp_region mixed ?_
      refine xlz (o_mv rfl rfl rfl) ?_
      refine xlz (o_add rfl rfl rfl rfl (by first | omega | (simp; omega) | (simp at *; omega))) ?_
      refine xlz (o_as rfl rfl rfl) ?_
      refine lendF ?_
      refine ⟨(j + 1, out ++ [x]), ?_, ?_, ?_⟩
      ·
       exact ⟨rng_le hn, by show (out ++ [x]).length ≤ j + 1; simp; omega, by show (l.drop (j + 1)).foldl mstep (out ++ [x]) = _; rw [← hJ, drop_cons hn, List.foldl_cons]; first | rw [mstep_nil (by first | omega | (simp at *; omega))] | rw [mstep_out hz (by first | omega | (simp at *; omega))]⟩
      ·
       exact ent_k [(500063, 111)] rfl rfl (.cons rfl (k_arr rfl (by simp)) <| .cons rfl (k_i (by simp)) <| .cons rfl (k_eq rfl) <| .nil) (obs_cons rfl (ko_arr (by simp; rfl)) obs_nil) rfl
      ·
       show l.length - (j + 1) < l.length - j; have := rng_le hn; omega
    ·
     obtain rfl := rng_ge (l := l) (by simpa using hc6) hj
     refine awp_exit ?_
     refine xsr ?_
     refine xlz (o_mv rfl rfl rfl) ?_
     refine xlz (o_as rfl rfl rfl) ?_
     refine lendF ?_
     refine awp_ret ?_
     refine ⟨[_], ⟨rfl, trivial⟩, ?_⟩
     exact ent_fz1 (ds := out.map Span.d) rfl (by simp) (by rw [← hJ, List.drop_length]; simp [List.take_of_length_le])

end Go.Pm

namespace Go.Pm
open Go.Proofs

set_option maxRecDepth 10000 in
theorem c95 (l : List Req) (hl : l.length < 4611686018427387904) (hq : ∀ q ∈ l, q.Sm) : Fn PR 95 [.d (reqsD l)] [] [.d (I (checkReqs l))] [] := by
 refine fn_of_awp Tryz.func95 rfl (N := 58) rfl ?_
 refine xsr ?_
 refine las rfl rfl rfl rfl rfl ?_
 refine lendF ?_
 refine awp_seq ?_
 refine xsr ?_
 refine lmv rfl rfl rfl rfl rfl ?_
 refine xlz (o_lenE (n := l.length) rfl rfl rfl ty26 (by simp)) ?_
 refine xlz (op_binI rfl rfl rfl rfl rfl (.inl rfl) rfl) ?_
 refine lendF ?_
 refine awp_cond rfl rfl (fun hc1 => ?_) (fun hc1 => ?_)
 ·
  have h16 : l.length > 16 := by have := hc1; simp at this; omega
  refine xsr ?_
  refine las rfl rfl rfl rfl rfl ?_
  refine lendF ?_
  refine awp_ret ?_
  refine ⟨[_], ⟨rfl, trivial⟩, ?_⟩
  exact ent_i rfl (by rw [checkReqs, if_pos h16])
 ·
  have h16 : ¬ l.length > 16 := by have := hc1; simp at this; omega
  refine awp_skip ?_
  refine awp_seq ?_
  refine xsr ?_
  refine las rfl rfl rfl rfl rfl ?_
  refine lendF ?_
  refine awp_block ?_
  refine awp_loop (fun i => ⟨58, [(3, .d (I (i : Nat))), (0, .d (reqsD l))], []⟩) (fun i => l.length - i) (fun i => i ≤ l.length ∧ reqsE (prevQ l i) (l.drop i) = reqsE none l) 0 ?_ ?_ ?_
  ·
   exact ent_k [] rfl rfl ((by repeat (first | exact .nil | refine xkc ?_))) obs_nil rfl
  ·
   exact ⟨Nat.zero_le _, rfl⟩
  ·
   rintro i ⟨hi, hI⟩
   refine awp_seq ?_
   refine xsr ?_
   iterate 2 refine lmv rfl rfl rfl rfl rfl ?_
   refine xlz (o_lenE (n := l.length) rfl rfl rfl ty26 (by simp)) ?_
   refine xlz (op_binI rfl rfl rfl rfl rfl (.inl rfl) rfl) ?_
   refine lendF ?_
   refine awp_cond rfl rfl (fun hc2 => ?_) (fun hc2 => ?_)
   ·
    obtain ⟨x, hn⟩ := rng_lt (l := l) (by simpa using hc2)
    have hlt := rng_le hn
    have hmem := List.mem_of_getElem? hn
    refine awp_skip ?_
    refine awp_seq ?_
    refine awp_block ?_
    refine awp_seq ?_
    refine xsr ?_
    iterate 2 refine lmv rfl rfl rfl rfl rfl ?_
    refine xlz (o_ixN (i) rfl rfl rfl rfl ty26 (by first | rfl | omega | (simp; done) | (simp; omega)) hn ty51) ?_
    refine xlz (op_fieldC rfl rfl rfl fl51_0) ?_
    refine xlz (op_loadC1 rfl rfl rfl ty9 rfl rfl) ?_
    refine xlz (o_call (c73 x.path (by have := (hq x hmem).path; omega)) rfl rfl rfl ca73 rfl rfl) ?_
    refine xlz (op_binI rfl rfl rfl rfl rfl (.inl rfl) rfl) ?_
    refine lendF ?_
    refine awp_cond rfl rfl (fun hc3 => ?_) (fun hc3 => ?_)
    ·
     have hmj : majN x.path < 0 := by simpa using hc3
     refine xsr ?_
     refine las rfl rfl rfl rfl rfl ?_
     refine lendF ?_
     refine awp_ret ?_
     refine ⟨[_], ⟨rfl, trivial⟩, ?_⟩
     first | exact ent_i rfl (reqsE_stop hI h16 hn (reqE_1 hmj) (by decide)) | exact ent_i rfl (reqsE_stop hI h16 hn (reqE_2 hmj hcs) (by decide)) | exact ent_i rfl (reqsE_stop hI h16 hn (reqE_3 hmj hcs hod) (by decide)) | exact ent_i rfl (reqsE_end hI h16)
    ·
     have hmj : ¬ majN x.path < 0 := by simpa using hc3
     refine awp_skip ?_
     refine awp_seq ?_
     refine xsr ?_
     iterate 2 refine lmv rfl rfl rfl rfl rfl ?_
     refine xlz (o_ixN (i) rfl rfl rfl rfl ty26 (by first | rfl | omega | (simp; done) | (simp; omega)) hn ty51) ?_
     refine xlz (op_fieldC rfl rfl rfl fl51_1) ?_
     refine xlz (op_loadC1 rfl rfl rfl ty49 rfl rfl) ?_
     refine xlz (o_lenE (n := x.set.length) rfl rfl rfl ty49 (by simp)) ?_
     refine xlz (op_binI rfl rfl rfl rfl rfl (.inl rfl) rfl) ?_
     refine lmv rfl rfl rfl rfl rfl ?_
     refine lsplit rfl (fun hg4 => ?_) (fun hg4 => ?_)
     ·
      have hs0 : ¬ x.set.length = 0 := by have := (g01 hg4); simp at this; simp [this]
      iterate 2 refine gmv hg4 rfl rfl rfl rfl rfl ?_
      refine lg (o_ixN (i) rfl rfl rfl rfl ty26 (by first | rfl | omega | (simp; done) | (simp; omega)) hn ty51) rfl hg4 rfl rfl ?_
      refine lg (op_fieldC rfl rfl rfl fl51_1) rfl hg4 rfl rfl ?_
      refine lg (op_loadC1 rfl rfl rfl ty49 rfl rfl) rfl hg4 rfl rfl ?_
      iterate 2 refine gmv hg4 rfl rfl rfl rfl rfl ?_
      refine lg (o_ixN (i) rfl rfl rfl rfl ty26 (by first | rfl | omega | (simp; done) | (simp; omega)) hn ty51) rfl hg4 rfl rfl ?_
      refine lg (op_fieldC rfl rfl rfl fl51_1) rfl hg4 rfl rfl ?_
      refine lg (op_loadC1 rfl rfl rfl ty49 rfl rfl) rfl hg4 rfl rfl ?_
      refine lg (o_call (c88 x.set (hq x hmem).set) rfl rfl rfl ca88 rfl rfl) rfl hg4 rfl rfl ?_
      refine lg (o_call (c42 x.set (canonS x.set) (by have := (hq x hmem).set; omega)) rfl rfl rfl ca42 rfl rfl) rfl hg4 rfl rfl ?_
      refine lg (op_not rfl rfl rfl) rfl hg4 rfl rfl ?_
      refine xlz (o_pF rfl rfl (g01 hg4) rfl rfl) ?_
      refine lend (fun _ => by kernel_rfl) ?_
      refine awp_cond rfl rfl (fun hc5 => ?_) (fun hc5 => ?_)
      ·
       have hcs : x.set.length = 0 ∨ x.set ≠ canonS x.set := .inr (by have := hc5; simp at this; exact this)
       refine xsr ?_
       refine las rfl rfl rfl rfl rfl ?_
       refine lendF ?_
       refine awp_ret ?_
       refine ⟨[_], ⟨rfl, trivial⟩, ?_⟩
       first | exact ent_i rfl (reqsE_stop hI h16 hn (reqE_1 hmj) (by decide)) | exact ent_i rfl (reqsE_stop hI h16 hn (reqE_2 hmj hcs) (by decide)) | exact ent_i rfl (reqsE_stop hI h16 hn (reqE_3 hmj hcs hod) (by decide)) | exact ent_i rfl (reqsE_end hI h16)
      ·
       have hcs : ¬ (x.set.length = 0 ∨ x.set ≠ canonS x.set) := by (have h := hc5); simp at h; rintro (h1 | h1); (exact hs0 h1); (exact h1 h)
       refine awp_skip ?_
       refine xsr ?_
       refine lmv rfl rfl rfl rfl rfl ?_
       refine xlz (op_binI rfl rfl rfl rfl rfl (.inl rfl) rfl) ?_
       refine lmv rfl rfl rfl rfl rfl ?_
       refine lsplit rfl (fun hg6 => ?_) (fun hg6 => ?_)
       ·
        have hi0 : 0 < i := by have := (g11 hg6); simp at this; omega
        obtain ⟨y, hy⟩ : ∃ y, l[i - 1]? = some y := ⟨_, List.getElem?_eq_getElem (by omega)⟩
        have hpv := prevQ_pos hi0 hy
        iterate 2 refine gmv hg6 rfl rfl rfl rfl rfl ?_
        refine lg (o_ixN (i) rfl rfl rfl rfl ty26 (by first | rfl | omega | (simp; done) | (simp; omega)) hn ty51) rfl hg6 rfl rfl ?_
        refine lg (op_fieldC rfl rfl rfl fl51_0) rfl hg6 rfl rfl ?_
        refine lg (op_loadC1 rfl rfl rfl ty9 rfl rfl) rfl hg6 rfl rfl ?_
        iterate 2 refine gmv hg6 rfl rfl rfl rfl rfl ?_
        refine lg (o_sub rfl rfl rfl rfl (by first | omega | (simp; omega) | (simp at *; omega))) rfl hg6 rfl rfl ?_
        refine lg (o_ixN ((i - 1)) rfl rfl rfl rfl ty26 (by first | rfl | omega | (simp; done) | (simp; omega)) hy ty51) rfl hg6 rfl rfl ?_
        refine lg (op_fieldC rfl rfl rfl fl51_0) rfl hg6 rfl rfl ?_
        refine lg (op_loadC1 rfl rfl rfl ty9 rfl rfl) rfl hg6 rfl rfl ?_
        refine lg (op_binS rfl rfl rfl rfl rfl (fun h => by first | cases h | (simp; omega)) rfl) rfl hg6 rfl rfl ?_
        refine xlz (o_pT rfl rfl (g11 hg6) rfl rfl) ?_
        refine lend (fun _ => by kernel_rfl) ?_
        refine awp_cond rfl rfl (fun hc7 => ?_) (fun hc7 => ?_)
        ·
         have hod := ordE_1 (q := x) hpv (b := false) (by have := hc7; rw [bytesLe_not] at this; simpa using this)
         refine xsr ?_
         refine las rfl rfl rfl rfl rfl ?_
         refine lendF ?_
         refine awp_ret ?_
         refine ⟨[_], ⟨rfl, trivial⟩, ?_⟩
         first | exact ent_i rfl (reqsE_stop hI h16 hn (reqE_1 hmj) (by decide)) | exact ent_i rfl (reqsE_stop hI h16 hn (reqE_2 hmj hcs) (by decide)) | exact ent_i rfl (reqsE_stop hI h16 hn (reqE_3 hmj hcs hod) (by decide)) | exact ent_i rfl (reqsE_end hI h16)
        ·
         have hod := ordE_1 (q := x) hpv (b := true) (by have := hc7; rw [bytesLe_not] at this; simpa using this)
         refine awp_skip ?_
         refine awp_region mixed ?_
         refine lmv rfl rfl rfl rfl rfl ?_
         refine xlz (o_add rfl rfl rfl rfl (by first | omega | (simp; omega) | (simp at *; omega))) ?_
         refine las rfl rfl rfl rfl rfl ?_
         refine lendF ?_
         refine ⟨i + 1, ?_, ?_, ?_⟩
         ·
          exact ⟨rng_le hn, reqsE_next hI hn (reqE_0 hmj hcs hod)⟩
         ·
          exact ent_k [] rfl rfl ((by repeat (first | exact .nil | refine xkc ?_))) obs_nil rfl
         ·
          omega
       ·
        have hi0 : i = 0 := by have := (g10 hg6); simp at this; omega
        have hod := ordE_0 (q := x) (l := l) hi0
        iterate 12 refine lskip rfl hg6 rfl ?_
        refine xlz (o_pF rfl rfl (g10 hg6) rfl rfl) ?_
        refine lend (fun _ => by kernel_rfl) ?_
        refine awp_condF rfl rfl rfl ?_
        refine awp_skip ?_
        refine awp_region mixed ?_
        refine lmv rfl rfl rfl rfl rfl ?_
        refine xlz (o_add rfl rfl rfl rfl (by first | omega | (simp; omega) | (simp at *; omega))) ?_
        refine las rfl rfl rfl rfl rfl ?_
        refine lendF ?_
        refine ⟨i + 1, ?_, ?_, ?_⟩
        ·
         exact ⟨rng_le hn, reqsE_next hI hn (reqE_0 hmj hcs hod)⟩
        ·
         exact ent_k [] rfl rfl ((by repeat (first | exact .nil | refine xkc ?_))) obs_nil rfl
        ·
         omega
     ·
      have hcs : x.set.length = 0 ∨ x.set ≠ canonS x.set := .inl (by have := (g00 hg4); simp at this; simp [this])
      iterate 13 refine lskip rfl hg4 rfl ?_
      refine xlz (o_pT rfl rfl (g00 hg4) rfl rfl) ?_
      refine lend (fun _ => by kernel_rfl) ?_
      refine awp_condT rfl rfl rfl ?_
      refine xsr ?_
      refine las rfl rfl rfl rfl rfl ?_
      refine lendF ?_
      refine awp_ret ?_
      refine ⟨[_], ⟨rfl, trivial⟩, ?_⟩
      first | exact ent_i rfl (reqsE_stop hI h16 hn (reqE_1 hmj) (by decide)) | exact ent_i rfl (reqsE_stop hI h16 hn (reqE_2 hmj hcs) (by decide)) | exact ent_i rfl (reqsE_stop hI h16 hn (reqE_3 hmj hcs hod) (by decide)) | exact ent_i rfl (reqsE_end hI h16)
   ·
    obtain rfl := rng_ge (l := l) (by simpa using hc2) hi
    refine awp_exit ?_
    refine xsr ?_
    refine las rfl rfl rfl rfl rfl ?_
    refine lendF ?_
    refine awp_ret ?_
    refine ⟨[_], ⟨rfl, trivial⟩, ?_⟩
    first | exact ent_i rfl (reqsE_stop hI h16 hn (reqE_1 hmj) (by decide)) | exact ent_i rfl (reqsE_stop hI h16 hn (reqE_2 hmj hcs) (by decide)) | exact ent_i rfl (reqsE_stop hI h16 hn (reqE_3 hmj hcs hod) (by decide)) | exact ent_i rfl (reqsE_end hI h16)

set_option maxRecDepth 10000 in
theorem c59 (r : Rls) (hr : r.Sm) : Fn PR 59 [.d r.d] [] [.d (I (relE r))] [] := by
 refine fn_of_awp Tryz.func59 rfl (N := 43) rfl ?_
 refine xsr ?_
 refine xlz (op_box rfl rfl (by decide) rfl rfl) ?_
 refine las rfl rfl rfl rfl rfl ?_
 refine lendF ?_
 refine xsr ?_
 refine xlz (op_fieldP rfl rfl rfl fl40_0) ?_
 refine xlz (op_load1 rfl rfl rfl rfl ty9 rfl rfl) ?_
 refine xlz (o_call (c73 r.path (by have := hr.path; omega)) rfl rfl rfl ca73 rfl rfl) ?_
 refine las rfl rfl rfl rfl rfl ?_
 refine lendF ?_
 refine awp_seq ?_
 refine xsr ?_
 refine lmv rfl rfl rfl rfl rfl ?_
 refine xlz (op_binI rfl rfl rfl rfl rfl (.inl rfl) rfl) ?_
 refine lendF ?_
 refine awp_cond rfl rfl (fun hc1 => ?_) (fun hc1 => ?_)
 ·
  have hmj : majN r.path < 0 := by simpa using hc1
  refine xsr ?_
  refine las rfl rfl rfl rfl rfl ?_
  refine lendF ?_
  refine awp_ret ?_
  refine ⟨[_], ⟨rfl, trivial⟩, ?_⟩
  first | exact ent_i rfl (relE_1 hmj).symm | exact ent_i rfl (relE_2 hmj hv).symm | exact ent_i rfl (relE_3 hmj hv hrq).symm | exact ent_i rfl (relE_4 hmj hv hrq (c := false) (by simp_all)).symm | exact ent_i rfl (relE_4 hmj hv hrq (c := true) (by simp_all)).symm
 ·
  have hmj : ¬ majN r.path < 0 := by simpa using hc1
  refine awp_skip ?_
  refine awp_seq ?_
  refine xsr ?_
  refine xlz (op_fieldP rfl rfl rfl fl40_1) ?_
  refine xlz (o_ldA rfl rfl rfl rfl ty38 rfl (xlb rfl) rfl) ?_
  refine xlz (o_call (c94 r.ver) rfl rfl rfl ca94 rfl rfl) ?_
  refine xlz (op_not rfl rfl rfl) ?_
  refine lmv rfl rfl rfl rfl rfl ?_
  refine lsplit rfl (fun hg2 => ?_) (fun hg2 => ?_)
  ·
   have hok : r.ver.ok = true := by have := (g01 hg2); simpa using this
   refine lg (op_fieldP rfl rfl rfl fl40_1) rfl hg2 rfl rfl ?_
   refine lg (op_fieldP rfl rfl rfl fl38_0) rfl hg2 rfl rfl ?_
   refine lg (op_load1 rfl rfl rfl rfl ty3 rfl rfl) rfl hg2 rfl rfl ?_
   refine gmv hg2 rfl rfl rfl rfl rfl ?_
   refine lg (op_binI rfl rfl rfl rfl rfl (.inl rfl) rfl) rfl hg2 rfl rfl ?_
   refine xlz (o_pF rfl rfl (g01 hg2) rfl rfl) ?_
   refine lendF ?_
   refine awp_cond rfl rfl (fun hc3 => ?_) (fun hc3 => ?_)
   ·
    have hv : r.ver.ok = false ∨ r.ver.maj ≠ majN r.path := .inr (by simpa using hc3)
    refine xsr ?_
    refine las rfl rfl rfl rfl rfl ?_
    refine lendF ?_
    refine awp_ret ?_
    refine ⟨[_], ⟨rfl, trivial⟩, ?_⟩
    first | exact ent_i rfl (relE_1 hmj).symm | exact ent_i rfl (relE_2 hmj hv).symm | exact ent_i rfl (relE_3 hmj hv hrq).symm | exact ent_i rfl (relE_4 hmj hv hrq (c := false) (by simp_all)).symm | exact ent_i rfl (relE_4 hmj hv hrq (c := true) (by simp_all)).symm
   ·
    have hv : ¬ (r.ver.ok = false ∨ r.ver.maj ≠ majN r.path) := by (have h := hc3); simp at h; simp [hok, h]
    refine awp_skip ?_
    refine awp_seq ?_
    refine xsr ?_
    refine xlz (op_fieldP rfl rfl rfl fl40_2) ?_
    refine xlz (op_load1 rfl rfl rfl rfl ty26 rfl rfl) ?_
    refine xlz (o_call (c95 r.reqs hr.len hr.reqs) rfl rfl rfl ca95 rfl rfl) ?_
    refine las rfl rfl rfl rfl rfl ?_
    refine lendF ?_
    refine xsr ?_
    refine lmv rfl rfl rfl rfl rfl ?_
    refine xlz (op_binI rfl rfl rfl rfl rfl (.inl rfl) rfl) ?_
    refine lendF ?_
    refine awp_cond rfl rfl (fun hc4 => ?_) (fun hc4 => ?_)
    ·
     have hrq : checkReqs r.reqs ≠ 0 := by simpa using hc4
     refine xsr ?_
     refine lmv rfl rfl rfl rfl rfl ?_
     refine las rfl rfl rfl rfl rfl ?_
     refine lendF ?_
     refine awp_ret ?_
     refine ⟨[_], ⟨rfl, trivial⟩, ?_⟩
     first | exact ent_i rfl (relE_1 hmj).symm | exact ent_i rfl (relE_2 hmj hv).symm | exact ent_i rfl (relE_3 hmj hv hrq).symm | exact ent_i rfl (relE_4 hmj hv hrq (c := false) (by simp_all)).symm | exact ent_i rfl (relE_4 hmj hv hrq (c := true) (by simp_all)).symm
    ·
     have hrq : checkReqs r.reqs = 0 := by simpa using hc4
     refine awp_skip ?_
     refine awp_seq ?_
     refine xsr ?_
     refine xlz (op_fieldP rfl rfl rfl fl40_3) ?_
     refine xlz (op_load1 rfl rfl rfl rfl ty9 rfl rfl) ?_
     refine xlz (o_call (c96 r.arch) rfl rfl rfl ca96 rfl rfl) ?_
     refine xlz (op_not rfl rfl rfl) ?_
     refine lmv rfl rfl rfl rfl rfl ?_
     refine lsplit rfl (fun hg5 => ?_) (fun hg5 => ?_)
     ·
      have hd1 : isDig r.arch = true := by (have h : (!isDig r.arch) = false := (g01 hg5)); simpa using h
      refine lg (op_fieldP rfl rfl rfl fl40_4) rfl hg5 rfl rfl ?_
      refine lg (op_load1 rfl rfl rfl rfl ty9 rfl rfl) rfl hg5 rfl rfl ?_
      refine lg (o_call (c96 r.iface) rfl rfl rfl ca96 rfl rfl) rfl hg5 rfl rfl ?_
      refine lg (op_not rfl rfl rfl) rfl hg5 rfl rfl ?_
      refine xlz (o_pF rfl rfl (g01 hg5) rfl rfl) ?_
      refine lmv rfl rfl rfl rfl rfl ?_
      refine lsplit rfl (fun hg6 => ?_) (fun hg6 => ?_)
      ·
       have hd2 : isDig r.iface = true := by (have h : (!isDig r.iface) = false := (g01 hg6)); simpa using h
       refine lg (op_fieldP rfl rfl rfl fl40_5) rfl hg6 rfl rfl ?_
       refine lg (op_load1 rfl rfl rfl rfl ty9 rfl rfl) rfl hg6 rfl rfl ?_
       refine lg (o_call (c96 r.cert) rfl rfl rfl ca96 rfl rfl) rfl hg6 rfl rfl ?_
       refine lg (op_not rfl rfl rfl) rfl hg6 rfl rfl ?_
       refine xlz (o_pF rfl rfl (g01 hg6) rfl rfl) ?_
       refine lendF ?_
       refine awp_cond rfl rfl (fun hc7 => ?_) (fun hc7 => ?_)
       ·
        have hd3 : isDig r.cert = false := by (have h : (!isDig r.cert) = true := hc7); simpa using h
        refine xsr ?_
        refine las rfl rfl rfl rfl rfl ?_
        refine lendF ?_
        refine awp_ret ?_
        refine ⟨[_], ⟨rfl, trivial⟩, ?_⟩
        first | exact ent_i rfl (relE_1 hmj).symm | exact ent_i rfl (relE_2 hmj hv).symm | exact ent_i rfl (relE_3 hmj hv hrq).symm | exact ent_i rfl (relE_4 hmj hv hrq (c := false) (by simp_all)).symm | exact ent_i rfl (relE_4 hmj hv hrq (c := true) (by simp_all)).symm
       ·
        have hd3 : isDig r.cert = true := by (have h : (!isDig r.cert) = false := hc7); simpa using h
        refine awp_skip ?_
        refine xsr ?_
        refine las rfl rfl rfl rfl rfl ?_
        refine lendF ?_
        refine awp_ret ?_
        refine ⟨[_], ⟨rfl, trivial⟩, ?_⟩
        first | exact ent_i rfl (relE_1 hmj).symm | exact ent_i rfl (relE_2 hmj hv).symm | exact ent_i rfl (relE_3 hmj hv hrq).symm | exact ent_i rfl (relE_4 hmj hv hrq (c := false) (by simp_all)).symm | exact ent_i rfl (relE_4 hmj hv hrq (c := true) (by simp_all)).symm
      ·
       have hd2 : isDig r.iface = false := by (have h : (!isDig r.iface) = true := (g00 hg6)); simpa using h
       iterate 4 refine lskip rfl hg6 rfl ?_
       refine xlz (o_pT rfl rfl (g00 hg6) rfl rfl) ?_
       refine lendF ?_
       refine awp_condT rfl rfl rfl ?_
       refine xsr ?_
       refine las rfl rfl rfl rfl rfl ?_
       refine lendF ?_
       refine awp_ret ?_
       refine ⟨[_], ⟨rfl, trivial⟩, ?_⟩
       first | exact ent_i rfl (relE_1 hmj).symm | exact ent_i rfl (relE_2 hmj hv).symm | exact ent_i rfl (relE_3 hmj hv hrq).symm | exact ent_i rfl (relE_4 hmj hv hrq (c := false) (by simp_all)).symm | exact ent_i rfl (relE_4 hmj hv hrq (c := true) (by simp_all)).symm
     ·
      have hd1 : isDig r.arch = false := by (have h : (!isDig r.arch) = true := (g00 hg5)); simpa using h
      iterate 4 refine lskip rfl hg5 rfl ?_
      refine xlz (o_pT rfl rfl (g00 hg5) rfl rfl) ?_
      refine lmv rfl rfl rfl rfl rfl ?_
      iterate 4 refine lskip rfl rfl rfl ?_
      refine xlz (o_pT rfl rfl rfl rfl rfl) ?_
      refine lendF ?_
      refine awp_condT rfl rfl rfl ?_
      refine xsr ?_
      refine las rfl rfl rfl rfl rfl ?_
      refine lendF ?_
      refine awp_ret ?_
      refine ⟨[_], ⟨rfl, trivial⟩, ?_⟩
      first | exact ent_i rfl (relE_1 hmj).symm | exact ent_i rfl (relE_2 hmj hv).symm | exact ent_i rfl (relE_3 hmj hv hrq).symm | exact ent_i rfl (relE_4 hmj hv hrq (c := false) (by simp_all)).symm | exact ent_i rfl (relE_4 hmj hv hrq (c := true) (by simp_all)).symm
  ·
   have hv : r.ver.ok = false ∨ r.ver.maj ≠ majN r.path := .inl (by have := (g00 hg2); simpa using this)
   iterate 5 refine lskip rfl hg2 rfl ?_
   refine xlz (o_pT rfl rfl (g00 hg2) rfl rfl) ?_
   refine lendF ?_
   refine awp_condT rfl rfl rfl ?_
   refine xsr ?_
   refine las rfl rfl rfl rfl rfl ?_
   refine lendF ?_
   refine awp_ret ?_
   refine ⟨[_], ⟨rfl, trivial⟩, ?_⟩
   first | exact ent_i rfl (relE_1 hmj).symm | exact ent_i rfl (relE_2 hmj hv).symm | exact ent_i rfl (relE_3 hmj hv hrq).symm | exact ent_i rfl (relE_4 hmj hv hrq (c := false) (by simp_all)).symm | exact ent_i rfl (relE_4 hmj hv hrq (c := true) (by simp_all)).symm

set_option maxRecDepth 10000 in
theorem c49 (x : Idx) (hl : x.rels.length < 4611686018427387904) (hr : ∀ r ∈ x.rels, r.Sm) : Fn PR 49 [.d x.d] [] [.d (I (checkI x.rels))] [] := by
 refine fn_of_awp Tryz.func49 rfl (N := 55) rfl ?_
 refine xsr ?_
 refine xlz (op_box rfl rfl (by decide) rfl rfl) ?_
 refine las rfl rfl rfl rfl rfl ?_
 refine lendF ?_
 refine xsr ?_
 refine xlz (op_fieldP rfl rfl rfl fl25_0) ?_
 refine xlz (op_load1 rfl rfl rfl rfl ty22 rfl rfl) ?_
 refine las rfl rfl rfl rfl rfl ?_
 refine lendF ?_
 refine awp_seq ?_
 refine xsr ?_
 refine lmv rfl rfl rfl rfl rfl ?_
 refine xlz (o_lenE (n := x.rels.length) rfl rfl rfl ty22 (by simp)) ?_
 refine xlz (op_binI rfl rfl rfl rfl rfl (.inl rfl) rfl) ?_
 refine lendF ?_
 refine awp_cond rfl rfl (fun hc1 => ?_) (fun hc1 => ?_)
 ·
  have h16 : x.rels.length > 256 := by have := hc1; simp at this; omega
  refine xsr ?_
  refine las rfl rfl rfl rfl rfl ?_
  refine lendF ?_
  refine awp_ret ?_
  refine ⟨[_], ⟨rfl, trivial⟩, ?_⟩
  exact ent_i rfl (by rw [checkI, if_pos h16])
 ·
  have h16 : ¬ x.rels.length > 256 := by have := hc1; simp at this; omega
  refine awp_skip ?_
  refine awp_seq ?_
  refine xsr ?_
  refine las rfl rfl rfl rfl rfl ?_
  refine lendF ?_
  refine awp_block ?_
  refine awp_loop (fun i => ⟨55, [(4, .d (I (i : Nat))), (3, .d (relsD x.rels))], []⟩) (fun i => x.rels.length - i) (fun i => i ≤ x.rels.length ∧ relsE (prevQ x.rels i) (x.rels.drop i) = relsE none x.rels) 0 ?_ ?_ ?_
  ·
   exact ent_k [] rfl rfl ((by repeat (first | exact .nil | refine xkc ?_))) obs_nil rfl
  ·
   exact ⟨Nat.zero_le _, rfl⟩
  ·
   rintro i ⟨hi, hI⟩
   refine awp_seq ?_
   refine xsr ?_
   iterate 2 refine lmv rfl rfl rfl rfl rfl ?_
   refine xlz (o_lenE (n := x.rels.length) rfl rfl rfl ty22 (by simp)) ?_
   refine xlz (op_binI rfl rfl rfl rfl rfl (.inl rfl) rfl) ?_
   refine lendF ?_
   refine awp_cond rfl rfl (fun hc2 => ?_) (fun hc2 => ?_)
   ·
    obtain ⟨z, hn⟩ := rng_lt (l := x.rels) (by simpa using hc2)
    have hlt := rng_le hn
    have hmem := List.mem_of_getElem? hn
    refine awp_skip ?_
    refine awp_seq ?_
    refine awp_block ?_
    refine awp_seq ?_
    refine xsr ?_
    iterate 2 refine lmv rfl rfl rfl rfl rfl ?_
    refine xlz (o_ixN (i) rfl rfl rfl rfl ty22 (by first | rfl | omega | (simp; done) | (simp; omega)) hn ty40) ?_
    refine xlz (op_loadCA rfl rfl rfl ty40 rfl (xlb rfl)) ?_
    refine xlz (o_call (c59 z (hr z hmem)) rfl rfl rfl ca59 rfl rfl) ?_
    refine las rfl rfl rfl rfl rfl ?_
    refine lendF ?_
    refine xsr ?_
    refine lmv rfl rfl rfl rfl rfl ?_
    refine xlz (op_binI rfl rfl rfl rfl rfl (.inl rfl) rfl) ?_
    refine lendF ?_
    refine awp_cond rfl rfl (fun hc3 => ?_) (fun hc3 => ?_)
    ·
     have hz0 : relE z ≠ 0 := by simpa using hc3
     refine xsr ?_
     refine lmv rfl rfl rfl rfl rfl ?_
     refine las rfl rfl rfl rfl rfl ?_
     refine lendF ?_
     refine awp_ret ?_
     refine ⟨[_], ⟨rfl, trivial⟩, ?_⟩
     first | exact ent_i rfl (relsE_stop hI h16 hn rfl hz0) | exact ent_i rfl (relsE_stop2 hI h16 hn hz0 hst (by decide)) | exact ent_i rfl (relsE_end hI h16)
    ·
     have hz0 : relE z = 0 := by simpa using hc3
     refine awp_skip ?_
     refine awp_seq ?_
     refine xsr ?_
     refine lmv rfl rfl rfl rfl rfl ?_
     refine xlz (op_binI rfl rfl rfl rfl rfl (.inl rfl) rfl) ?_
     refine lmv rfl rfl rfl rfl rfl ?_
     refine lsplit rfl (fun hg4 => ?_) (fun hg4 => ?_)
     ·
      have hi0 : 0 < i := by have := (g11 hg4); simp at this; omega
      obtain ⟨y, hy⟩ : ∃ y, x.rels[i - 1]? = some y := ⟨_, List.getElem?_eq_getElem (by omega)⟩
      have hpv := prevQ_pos hi0 hy
      iterate 2 refine gmv hg4 rfl rfl rfl rfl rfl ?_
      refine lg (o_sub rfl rfl rfl rfl (by first | omega | (simp; omega) | (simp at *; omega))) rfl hg4 rfl rfl ?_
      refine lg (o_ixN ((i - 1)) rfl rfl rfl rfl ty22 (by first | rfl | omega | (simp; done) | (simp; omega)) hy ty40) rfl hg4 rfl rfl ?_
      refine lg (op_loadCA rfl rfl rfl ty40 rfl (xlb rfl)) rfl hg4 rfl rfl ?_
      iterate 2 refine gmv hg4 rfl rfl rfl rfl rfl ?_
      refine lg (o_ixN (i) rfl rfl rfl rfl ty22 (by first | rfl | omega | (simp; done) | (simp; omega)) hn ty40) rfl hg4 rfl rfl ?_
      refine lg (op_loadCA rfl rfl rfl ty40 rfl (xlb rfl)) rfl hg4 rfl rfl ?_
      refine lg (o_call (c90 y z) rfl rfl rfl ca90 rfl rfl) rfl hg4 rfl rfl ?_
      refine lg (op_binI rfl rfl rfl rfl rfl (.inl rfl) rfl) rfl hg4 rfl rfl ?_
      refine xlz (o_pT rfl rfl (g11 hg4) rfl rfl) ?_
      refine lend (fun _ => by kernel_rfl) ?_
      refine awp_cond rfl rfl (fun hc5 => ?_) (fun hc5 => ?_)
      ·
       have hst := stepE_5 (r := z) hpv (by simpa using hc5)
       refine xsr ?_
       refine las rfl rfl rfl rfl rfl ?_
       refine lendF ?_
       refine awp_ret ?_
       refine ⟨[_], ⟨rfl, trivial⟩, ?_⟩
       first | exact ent_i rfl (relsE_stop hI h16 hn rfl hz0) | exact ent_i rfl (relsE_stop2 hI h16 hn hz0 hst (by decide)) | exact ent_i rfl (relsE_end hI h16)
      ·
       have hne : ¬ cmpR y z = 0 := by simpa using hc5
       refine awp_skip ?_
       refine xsr ?_
       refine lmv rfl rfl rfl rfl rfl ?_
       refine xlz (op_binI rfl rfl rfl rfl rfl (.inl rfl) rfl) ?_
       refine lmv rfl rfl rfl rfl rfl ?_
       iterate 2 refine gmv hg4 rfl rfl rfl rfl rfl ?_
       refine lg (o_sub rfl rfl rfl rfl (by first | omega | (simp; omega) | (simp at *; omega))) rfl hg4 rfl rfl ?_
       refine lg (o_ixN ((i - 1)) rfl rfl rfl rfl ty22 (by first | rfl | omega | (simp; done) | (simp; omega)) hy ty40) rfl hg4 rfl rfl ?_
       refine lg (op_loadCA rfl rfl rfl ty40 rfl (xlb rfl)) rfl hg4 rfl rfl ?_
       iterate 2 refine gmv hg4 rfl rfl rfl rfl rfl ?_
       refine lg (o_ixN (i) rfl rfl rfl rfl ty22 (by first | rfl | omega | (simp; done) | (simp; omega)) hn ty40) rfl hg4 rfl rfl ?_
       refine lg (op_loadCA rfl rfl rfl ty40 rfl (xlb rfl)) rfl hg4 rfl rfl ?_
       refine lg (o_call (c90 y z) rfl rfl rfl ca90 rfl rfl) rfl hg4 rfl rfl ?_
       refine lg (op_binI rfl rfl rfl rfl rfl (.inl rfl) rfl) rfl hg4 rfl rfl ?_
       refine xlz (o_pT rfl rfl (g11 hg4) rfl rfl) ?_
       refine lend (fun _ => by kernel_rfl) ?_
       refine awp_cond rfl rfl (fun hc6 => ?_) (fun hc6 => ?_)
       ·
        have hst := stepE_1 (r := z) hpv hne (by simpa using hc6)
        refine xsr ?_
        refine las rfl rfl rfl rfl rfl ?_
        refine lendF ?_
        refine awp_ret ?_
        refine ⟨[_], ⟨rfl, trivial⟩, ?_⟩
        first | exact ent_i rfl (relsE_stop hI h16 hn rfl hz0) | exact ent_i rfl (relsE_stop2 hI h16 hn hz0 hst (by decide)) | exact ent_i rfl (relsE_end hI h16)
       ·
        have hst := stepE_0 (r := z) hpv hne (by simpa using hc6)
        refine awp_skip ?_
        refine awp_region mixed ?_
        refine lmv rfl rfl rfl rfl rfl ?_
        refine xlz (o_add rfl rfl rfl rfl (by first | omega | (simp; omega) | (simp at *; omega))) ?_
        refine las rfl rfl rfl rfl rfl ?_
        refine lendF ?_
        refine ⟨i + 1, ?_, ?_, ?_⟩
        ·
         exact ⟨rng_le hn, relsE_next hI hn hz0 hst⟩
        ·
         exact ent_k [] rfl rfl ((by repeat (first | exact .nil | refine xkc ?_))) obs_nil rfl
        ·
         omega
     ·
      have hi0 : i = 0 := by have := (g10 hg4); simp at this; omega
      have hst := stepE_z (r := z) (l := x.rels) hi0
      iterate 11 refine lskip rfl hg4 rfl ?_
      refine xlz (o_pF rfl rfl (g10 hg4) rfl rfl) ?_
      refine lend (fun _ => by kernel_rfl) ?_
      refine awp_condF rfl rfl rfl ?_
      refine awp_skip ?_
      refine xsr ?_
      refine lmv rfl rfl rfl rfl rfl ?_
      refine xlz (op_binI rfl rfl rfl rfl rfl (.inl rfl) rfl) ?_
      refine lmv rfl rfl rfl rfl rfl ?_
      iterate 11 refine lskip rfl hg4 rfl ?_
      refine xlz (o_pF rfl rfl (g10 hg4) rfl rfl) ?_
      refine lend (fun _ => by kernel_rfl) ?_
      refine awp_condF rfl rfl rfl ?_
      refine awp_skip ?_
      refine awp_region mixed ?_
      refine lmv rfl rfl rfl rfl rfl ?_
      refine xlz (o_add rfl rfl rfl rfl (by first | omega | (simp; omega) | (simp at *; omega))) ?_
      refine las rfl rfl rfl rfl rfl ?_
      refine lendF ?_
      refine ⟨i + 1, ?_, ?_, ?_⟩
      ·
       exact ⟨rng_le hn, relsE_next hI hn hz0 hst⟩
      ·
       exact ent_k [] rfl rfl ((by repeat (first | exact .nil | refine xkc ?_))) obs_nil rfl
      ·
       omega
   ·
    obtain rfl := rng_ge (l := x.rels) (by simpa using hc2) hi
    refine awp_exit ?_
    refine xsr ?_
    refine las rfl rfl rfl rfl rfl ?_
    refine lendF ?_
    refine awp_ret ?_
    refine ⟨[_], ⟨rfl, trivial⟩, ?_⟩
    first | exact ent_i rfl (relsE_stop hI h16 hn rfl hz0) | exact ent_i rfl (relsE_stop2 hI h16 hn hz0 hst (by decide)) | exact ent_i rfl (relsE_end hI h16)

end Go.Pm

namespace Go.Pm
open Go.Proofs

set_option maxRecDepth 10000 in
set_option maxHeartbeats 2000000 in
theorem c35 (x : Idx) (hl : x.rels.length < 4611686018427387904) (hr : ∀ r ∈ x.rels, r.Sm) (p : Bytes) (v : Ver) : Fn PR 35 [.d x.d, .d (.str p), .d v.d] [] [.d (getR x ⟨p, v⟩).d, .d (.bool (findR (okR x) ⟨p, v⟩).isSome)] [] := by
 refine fn_of_awp Tryz.func35 rfl (N := 44) rfl ?_
 refine xsr ?_
 refine xlz (op_box rfl rfl (by decide) rfl rfl) ?_
 refine xlz (op_box rfl rfl (by decide) rfl rfl) ?_
 refine xlz (op_alloc rfl rfl (by decide) ty40 zk40 rfl) ?_
 refine las rfl rfl rfl rfl rfl ?_
 refine lendF ?_
 refine awp_seq ?_
 refine xsr ?_
 refine xlz (o_ldA rfl rfl rfl rfl ty25 rfl (xlb rfl) rfl) ?_
 refine xlz (o_call (c49 x hl hr) rfl rfl rfl ca49 rfl rfl) ?_
 refine xlz (op_binI rfl rfl rfl rfl rfl (.inl rfl) rfl) ?_
 refine lendF ?_
 refine awp_cond rfl rfl (fun hc1 => ?_) (fun hc1 => ?_)
 ·
  have hok := okR_no (x := x) (by simpa using hc1)
  refine xsr ?_
  refine xlz (o_bld rfl rfl rfl bl40 ty40 zk40 rfl rfl rfl) ?_
  refine xlz (op_store rfl rfl rfl rfl rfl rfl ty40 rfl (xlb rfl)) ?_
  refine las rfl rfl rfl rfl rfl ?_
  refine lendF ?_
  refine awp_ret ?_
  refine ⟨[_, _], ⟨⟨_, _, _, _, _, _, _, rfl, rfl, ty40, (xlb rfl), rfl⟩, rfl, trivial⟩, ?_⟩
  exact ent_d2 rfl (by unfold getR; rw [hok]; rfl) rfl (by rw [hok]; rfl)
 ·
  have h0 : checkI x.rels = 0 := by simpa using hc1
  have hok := okR_yes h0
  refine awp_skip ?_
  refine awp_seq ?_
  refine xsr ?_
  refine las rfl rfl rfl rfl rfl ?_
  refine lendF ?_
  refine awp_block ?_
  refine awp_loop (fun i => ⟨44, [(8, .d (I (i : Nat))), (1, .d (.str p)), (3, .ptr 3 0), (5, .ptr 5 0), (6, .ptr 6 0)], [(6, .cells [.d (.str []), .d (I 0), .d (I 0), .d (I 0), .nils, .d (.str []), .d (.str []), .d (.str []), .d (.bool false)]), (5, .cells [.d (I v.maj), .d (I v.min), .d (I v.pat)]), (3, .cells [.d (relsD x.rels), .d (.list x.ifs)])]⟩) (fun i => x.rels.length - i) (fun i => i ≤ x.rels.length ∧ findR (x.rels.drop i) ⟨p, v⟩ = findR x.rels ⟨p, v⟩) 0 ?_ ?_ ?_
  ·
   exact ent_k [] rfl rfl ((by repeat (first | exact .nil | refine xkc ?_))) (obs_cons rfl (o_eq rfl) (obs_cons rfl (o_eq rfl) (obs_cons rfl (o_eq rfl) obs_nil))) rfl
  ·
   exact ⟨Nat.zero_le _, rfl⟩
  ·
   rintro i ⟨hi, hI⟩
   refine awp_seq ?_
   refine xsr ?_
   refine lmv rfl rfl rfl rfl rfl ?_
   refine xlz (op_fieldP rfl rfl rfl fl25_0) ?_
   refine xlz (op_load1 rfl rfl rfl rfl ty22 rfl rfl) ?_
   refine xlz (o_lenE (n := x.rels.length) rfl rfl rfl ty22 (by simp)) ?_
   refine xlz (op_binI rfl rfl rfl rfl rfl (.inl rfl) rfl) ?_
   refine lendF ?_
   refine awp_cond rfl rfl (fun hc2 => ?_) (fun hc2 => ?_)
   ·
    obtain ⟨z, hn⟩ := rng_lt (l := x.rels) (by simpa using hc2)
    have hlt := rng_le hn
    have hmem := List.mem_of_getElem? hn
    refine awp_skip ?_
    refine awp_seq ?_
    refine awp_block ?_
    refine xsr ?_
    refine xlz (op_fieldP rfl rfl rfl fl25_0) ?_
    refine xlz (op_load1 rfl rfl rfl rfl ty22 rfl rfl) ?_
    refine lmv rfl rfl rfl rfl rfl ?_
    refine xlz (o_ixN (i) rfl rfl rfl rfl ty22 (by first | rfl | omega | (simp; done) | (simp; omega)) hn ty40) ?_
    refine xlz (op_fieldC rfl rfl rfl fl40_0) ?_
    refine xlz (op_loadC1 rfl rfl rfl ty9 rfl rfl) ?_
    refine lmv rfl rfl rfl rfl rfl ?_
    refine xlz (op_binS rfl rfl rfl rfl rfl (fun h => by first | cases h | (simp; omega)) rfl) ?_
    refine lmv rfl rfl rfl rfl rfl ?_
    refine lsplit rfl (fun hg3 => ?_) (fun hg3 => ?_)
    ·
     have hp : z.path = p := by simpa using (g11 hg3)
     refine lg (op_fieldP rfl rfl rfl fl25_0) rfl hg3 rfl rfl ?_
     refine lg (op_load1 rfl rfl rfl rfl ty22 rfl rfl) rfl hg3 rfl rfl ?_
     refine gmv hg3 rfl rfl rfl rfl rfl ?_
     refine lg (o_ixN (i) rfl rfl rfl rfl ty22 (by first | rfl | omega | (simp; done) | (simp; omega)) hn ty40) rfl hg3 rfl rfl ?_
     refine lg (op_fieldC rfl rfl rfl fl40_1) rfl hg3 rfl rfl ?_
     refine lg (op_loadCA rfl rfl rfl ty38 rfl (xlb rfl)) rfl hg3 rfl rfl ?_
     refine lg (o_ldA rfl rfl rfl rfl ty38 rfl (xlb rfl) rfl) rfl hg3 rfl rfl ?_
     refine lg (op_eqlA rfl (.inl rfl) rfl rfl rfl rfl ty38 es38 rfl rfl eg38) rfl hg3 rfl rfl ?_
     refine xlz (o_pT rfl rfl (g11 hg3) rfl rfl) ?_
     refine lend (fun _ => by kernel_rfl) ?_
     refine awp_cond rfl rfl (fun hc4 => ?_) (fun hc4 => ?_)
     ·
      have hk : z.sel = ⟨p, v⟩ := by (have h : eqDs [I z.ver.maj, I z.ver.min, I z.ver.pat] [I v.maj, I v.min, I v.pat] = true := hc4); rw [eqDs_ver] at h; simp at h; simp [Rls.sel, hp, h]
      refine xsr ?_
      refine xlz (op_fieldP rfl rfl rfl fl25_0) ?_
      refine xlz (op_load1 rfl rfl rfl rfl ty22 rfl rfl) ?_
      refine lmv rfl rfl rfl rfl rfl ?_
      refine xlz (o_ixN (i) rfl rfl rfl rfl ty22 (by first | rfl | omega | (simp; done) | (simp; omega)) hn ty40) ?_
      refine xlz (op_loadCA rfl rfl rfl ty40 rfl (xlb rfl)) ?_
      refine xlz (op_store rfl rfl rfl rfl rfl rfl ty40 rfl (xlb rfl)) ?_
      refine las rfl rfl rfl rfl rfl ?_
      refine lendF ?_
      refine awp_ret ?_
      refine ⟨[_, _], ⟨⟨_, _, _, _, _, _, _, rfl, rfl, ty40, (xlb rfl), rfl⟩, rfl, trivial⟩, ?_⟩
      have hf : findR x.rels ⟨p, v⟩ = some z := by rw [← hI, drop_cons hn, findR_yes hk]
      exact ent_d2 rfl (by unfold getR; rw [hok, hf]; rfl) rfl (by rw [hok, hf]; rfl)
     ·
      have hk : ¬ z.sel = ⟨p, v⟩ := by (have h : eqDs [I z.ver.maj, I z.ver.min, I z.ver.pat] [I v.maj, I v.min, I v.pat] = false := hc4); rw [eqDs_ver] at h; simp at h; intro e; simp [Rls.sel] at e; exact h e.2
      refine awp_skip ?_
      refine awp_region mixed ?_
      refine lmv rfl rfl rfl rfl rfl ?_
      refine xlz (o_add rfl rfl rfl rfl (by first | omega | (simp; omega) | (simp at *; omega))) ?_
      refine las rfl rfl rfl rfl rfl ?_
      refine lendF ?_
      refine ⟨i + 1, ?_, ?_, ?_⟩
      ·
       exact ⟨rng_le hn, by rw [← hI, drop_cons hn, findR_no hk]⟩
      ·
       exact ent_k [] rfl rfl ((by repeat (first | exact .nil | refine xkc ?_))) (obs_cons rfl (o_eq rfl) (obs_cons rfl (o_eq rfl) (obs_cons rfl (o_eq rfl) obs_nil))) rfl
      ·
       omega
    ·
     have hk : ¬ z.sel = ⟨p, v⟩ := by (have h := (g10 hg3)); simp at h; intro e; simp [Rls.sel] at e; exact h e.1
     iterate 8 refine lskip rfl hg3 rfl ?_
     refine xlz (o_pF rfl rfl (g10 hg3) rfl rfl) ?_
     refine lend (fun _ => by kernel_rfl) ?_
     refine awp_condF rfl rfl rfl ?_
     refine awp_skip ?_
     refine awp_region mixed ?_
     refine lmv rfl rfl rfl rfl rfl ?_
     refine xlz (o_add rfl rfl rfl rfl (by first | omega | (simp; omega) | (simp at *; omega))) ?_
     refine las rfl rfl rfl rfl rfl ?_
     refine lendF ?_
     refine ⟨i + 1, ?_, ?_, ?_⟩
     ·
      exact ⟨rng_le hn, by rw [← hI, drop_cons hn, findR_no hk]⟩
     ·
      exact ent_k [] rfl rfl ((by repeat (first | exact .nil | refine xkc ?_))) (obs_cons rfl (o_eq rfl) (obs_cons rfl (o_eq rfl) (obs_cons rfl (o_eq rfl) obs_nil))) rfl
     ·
      omega
   ·
    obtain rfl := rng_ge (l := x.rels) (by simpa using hc2) hi
    refine awp_exit ?_
    refine xsr ?_
    refine xlz (o_bld rfl rfl rfl bl40 ty40 zk40 rfl rfl rfl) ?_
    refine xlz (op_store rfl rfl rfl rfl rfl rfl ty40 rfl (xlb rfl)) ?_
    refine las rfl rfl rfl rfl rfl ?_
    refine lendF ?_
    refine awp_ret ?_
    refine ⟨[_, _], ⟨⟨_, _, _, _, _, _, _, rfl, rfl, ty40, (xlb rfl), rfl⟩, rfl, trivial⟩, ?_⟩
    have hf : findR x.rels ⟨p, v⟩ = none := by rw [← hI, List.drop_length]; rfl
    exact ent_d2 rfl (by unfold getR; rw [hok, hf]; rfl) rfl (by rw [hok, hf]; rfl)

end Go.Pm

namespace Go.Pm
open Go.Proofs

set_option maxRecDepth 10000 in
set_option maxHeartbeats 4000000 in
theorem c17 (r : Rls) (hr : r.Sm) : Fn PR 17 [.d r.d] [] [.d (.str (if checkI [r] = 0 then manT r else [])), .d (I (checkI [r]))] [] := by
 refine fn_of_awp Tryz.func17 rfl (N := 89) rfl ?_
 refine xsr ?_
 refine xlz (op_box rfl rfl (by decide) rfl rfl) ?_
 iterate 2 refine las rfl rfl rfl rfl rfl ?_
 refine lendF ?_
 refine awp_seq ?_
 refine xsr ?_
 refine xlz (o_ldA rfl rfl rfl rfl ty40 rfl (xlb rfl) rfl) ?_
 refine xlz (o_bs rfl rfl rfl rfl rfl ty22 ty40 rfl rfl) ?_
 refine xlz (o_bld rfl rfl rfl bl25 ty25 zk25 rfl rfl rfl) ?_
 refine xlz (o_call (c22 ⟨[r], []⟩ (by simp) (by simpa using hr)) rfl rfl rfl ca22 rfl rfl) ?_
 refine las rfl rfl rfl rfl rfl ?_
 refine lendF ?_
 refine xsr ?_
 refine lmv rfl rfl rfl rfl rfl ?_
 refine xlz (op_binI rfl rfl rfl rfl rfl (.inl rfl) rfl) ?_
 refine lendF ?_
 refine awp_cond rfl rfl (fun hc1 => ?_) (fun hc1 => ?_)
 ·
  have h0 : ¬ checkI [r] = 0 := by simpa using hc1
  refine xsr ?_
  refine lmv rfl rfl rfl rfl rfl ?_
  iterate 2 refine las rfl rfl rfl rfl rfl ?_
  refine lendF ?_
  refine awp_ret ?_
  refine ⟨[_, _], ⟨rfl, rfl, trivial⟩, ?_⟩
  exact ent_d2 rfl (by rw [if_neg h0]) rfl rfl
 ·
  have h0 : checkI [r] = 0 := by simpa using hc1
  have he : relE r = 0 := checkI_ok h0 r (by simp)
  obtain ⟨_, hok, _, _, ha, hb, hd⟩ := relE_all he
  have hvb := ok_bounds hok
  have ha := isDig_len ha
  have hb := isDig_len hb
  have hd := isDig_len hd
  have hq := relE_reqs he
  have hh := headT_len hr he
  have hh1 : (textsS [r.path]).length ≤ 200000 := by simp only [headT, List.length_append] at hh; omega
  have hh2 : (textsS [r.path] ++ intsS [r.ver.min, r.ver.pat, if r.yank then 1 else 0]).length ≤ 200000 := by simp only [headT, List.length_append] at hh ⊢; omega
  have hh3 : (textsS [r.path] ++ intsS [r.ver.min, r.ver.pat, if r.yank then 1 else 0] ++ textsS [r.arch, r.iface, r.cert]).length ≤ 200000 := by simp only [headT, List.length_append] at hh ⊢; omega
  refine awp_skip ?_
  refine xsr ?_
  refine xlz (op_alloc rfl rfl (by decide) ty9 zk9 rfl) ?_
  refine xlz (op_store rfl rfl rfl rfl rfl rfl ty9 rfl (xlb rfl)) ?_
  refine lendF ?_
  refine xsr ?_
  refine xlz (op_fn rfl rfl rfl rfl rfl) ?_
  refine las rfl rfl rfl rfl rfl ?_
  refine lendF ?_
  refine xsr ?_
  refine xlz (op_fn rfl rfl rfl rfl rfl) ?_
  refine las rfl rfl rfl rfl rfl ?_
  refine lendF ?_
  refine xsr ?_
  refine lmv rfl rfl rfl rfl rfl ?_
  refine xlz (op_fieldP rfl rfl rfl fl40_0) ?_
  refine xlz (op_load1 rfl rfl rfl rfl ty9 rfl rfl) ?_
  refine xlz (o_bsD rfl rfl rfl rfl rfl ty71 ty9 rfl rfl) ?_
  refine xlz (o_callW [5] 26 (c57 [r.path] [] (by simp) (by simp; have := hr.path; omega) (by simp only [List.length_nil]; omega)) rfl rfl rfl ca57 rfl (by decide) (handOK_cons (by decide) (by decide) rfl rfl handOK_nil) rfl rfl rfl rfl) ?_
  refine lendF ?_
  refine xsr ?_
  refine las rfl rfl rfl rfl rfl ?_
  refine lendF ?_
  refine awp_joinX (fun _ : Unit => ⟨89, [(8, .d (I (if r.yank then 1 else 0 : Int))), (1, .ptr 1 0), (5, .ptr 5 0), (6, .fn (.func 55) [] [.ptr 5 0]), (7, .fn (.func 57) [] [.ptr 5 0])], [(5, .cells [.d (.str (textsS [r.path]))]), (1, .cells [.d (.str r.path), .d (I r.ver.maj), .d (I r.ver.min), .d (I r.ver.pat), .d (reqsD r.reqs), .d (.str r.arch), .d (.str r.iface), .d (.str r.cert), .d (.bool r.yank)])]⟩) (fun _ : Unit => True) ?_ ?_
  ·
   refine xsr ?_
   refine xlz (op_fieldP rfl rfl rfl fl40_6) ?_
   refine xlz (op_load1 rfl rfl rfl rfl ty4 rfl rfl) ?_
   refine lendF ?_
   refine awp_cond rfl rfl (fun hc2 => ?_) (fun hc2 => ?_)
   ·
    refine awp_region mixed ?_
    refine las rfl rfl rfl rfl rfl ?_
    refine lendF ?_
    refine ⟨(), ?_, ?_⟩
    ·
     exact True.intro
    ·
     exact ent_k [] rfl rfl (.cons rfl (k_i (by simp_all)) <| (by repeat (first | exact .nil | refine xkc ?_))) (obs_cons rfl (o_eq rfl) (obs_cons rfl (o_eq rfl) obs_nil)) rfl
   ·
    refine awp_skip ?_
    refine ⟨(), ?_, ?_⟩
    ·
     exact True.intro
    ·
     exact ent_k [] rfl rfl (.cons rfl (k_i (by simp_all)) <| (by repeat (first | exact .nil | refine xkc ?_))) (obs_cons rfl (o_eq rfl) (obs_cons rfl (o_eq rfl) obs_nil)) rfl
  ·
   rintro _ _
   refine xsr ?_
   refine lmv rfl rfl rfl rfl rfl ?_
   refine xlz (op_fieldP rfl rfl rfl fl40_1) ?_
   refine xlz (op_fieldP rfl rfl rfl fl38_1) ?_
   refine xlz (op_load1 rfl rfl rfl rfl ty3 rfl rfl) ?_
   refine xlz (op_fieldP rfl rfl rfl fl40_1) ?_
   refine xlz (op_fieldP rfl rfl rfl fl38_2) ?_
   refine xlz (op_load1 rfl rfl rfl rfl ty3 rfl rfl) ?_
   refine lmv rfl rfl rfl rfl rfl ?_
   refine xlz (o_bsD rfl rfl rfl rfl rfl ty96 ty3 rfl rfl) ?_
   refine xlz (o_callW [5] 38 (c55 [r.ver.min, r.ver.pat, if r.yank then 1 else 0] (textsS [r.path]) (by simp) (by simp; refine ⟨by omega, by omega, by split <;> omega⟩) (by rw [← List.length_append]; omega)) rfl rfl rfl ca55 rfl (by decide) (handOK_cons (by decide) (by decide) rfl rfl handOK_nil) rfl rfl rfl rfl) ?_
   refine lendF ?_
   refine xsr ?_
   refine lmv rfl rfl rfl rfl rfl ?_
   refine xlz (op_fieldP rfl rfl rfl fl40_3) ?_
   refine xlz (op_load1 rfl rfl rfl rfl ty9 rfl rfl) ?_
   refine xlz (op_fieldP rfl rfl rfl fl40_4) ?_
   refine xlz (op_load1 rfl rfl rfl rfl ty9 rfl rfl) ?_
   refine xlz (op_fieldP rfl rfl rfl fl40_5) ?_
   refine xlz (op_load1 rfl rfl rfl rfl ty9 rfl rfl) ?_
   refine xlz (o_bsD rfl rfl rfl rfl rfl ty71 ty9 rfl rfl) ?_
   refine xlz (o_callW [5] 47 (c57 [r.arch, r.iface, r.cert] (textsS [r.path] ++ intsS [r.ver.min, r.ver.pat, if r.yank then 1 else 0]) (by simp) (by simp; omega) (by rw [← List.length_append]; omega)) rfl rfl rfl ca57 rfl (by decide) (handOK_cons (by decide) (by decide) rfl rfl handOK_nil) rfl rfl rfl rfl) ?_
   refine lendF ?_
   refine xsr ?_
   refine lmv rfl rfl rfl rfl rfl ?_
   refine xlz (op_fieldP rfl rfl rfl fl40_2) ?_
   refine xlz (op_load1 rfl rfl rfl rfl ty26 rfl rfl) ?_
   refine xlz (o_lenE (n := r.reqs.length) rfl rfl rfl ty26 (by simp)) ?_
   refine xlz (o_bsD rfl rfl rfl rfl rfl ty96 ty3 rfl rfl) ?_
   refine xlz (o_callW [5] 53 (c55 [(r.reqs.length : Int)] (textsS [r.path] ++ intsS [r.ver.min, r.ver.pat, if r.yank then 1 else 0] ++ textsS [r.arch, r.iface, r.cert]) (by simp) (by simp; omega) (by rw [← List.length_append]; exact Nat.lt_of_le_of_lt hh (by omega))) rfl rfl rfl ca55 rfl (by decide) (handOK_cons (by decide) (by decide) rfl rfl handOK_nil) rfl rfl rfl rfl) ?_
   refine lendF ?_
   refine awp_seq ?_
   refine xsr ?_
   refine xlz (op_fieldP rfl rfl rfl fl40_2) ?_
   refine xlz (op_load1 rfl rfl rfl rfl ty26 rfl rfl) ?_
   refine xlz (o_lenE (n := r.reqs.length) rfl rfl rfl ty26 (by simp)) ?_
   refine lmv rfl rfl rfl rfl rfl ?_
   refine lendF ?_
   refine awp_block ?_
   refine awp_loop (fun i => ⟨89, [(57, .d (I (i : Nat))), (5, .ptr 5 0), (6, .fn (.func 55) [] [.ptr 5 0]), (7, .fn (.func 57) [] [.ptr 5 0]), (55, .d (reqsD r.reqs)), (56, .d (I r.reqs.length))], [(5, .cells [.d (.str (headT r ++ (r.reqs.take i).flatMap reqT))])]⟩) (fun i => r.reqs.length - i) (fun i => i ≤ r.reqs.length) 0 ?_ ?_ ?_
   ·
    exact ent_k [] rfl rfl ((by repeat (first | exact .nil | refine xkc ?_))) (obs_cons rfl (.cells (.cons (k_s (by simp [headT])) .nil)) obs_nil) rfl
   ·
    exact Nat.zero_le _
   ·
    rintro i hi
    refine xsr ?_
    refine xlz (op_binI rfl rfl rfl rfl rfl (.inl rfl) rfl) ?_
    refine lendF ?_
    refine awp_seq ?_
    refine awp_cond rfl rfl (fun hc3 => ?_) (fun hc3 => ?_)
    ·
     obtain ⟨z, hn⟩ := rng_lt (l := r.reqs) (by simpa using hc3)
     have hlt := rng_le hn
     have hmem := List.mem_of_getElem? hn
     have hpre := man_pre hr he hn
     have hzs := hr.reqs z hmem
     have hzp := hzs.path
     have hzl := hzs.set
     have hzb := relE_sets he z hmem
     have hp1 : (headT r ++ (r.reqs.take i).flatMap reqT ++ textsS [z.path]).length ≤ 600000000 := by simp only [reqT, List.length_append] at hpre ⊢; omega
     have hp2 : (headT r ++ (r.reqs.take i).flatMap reqT ++ textsS [z.path] ++ intsS [(z.set.length : Int)]).length ≤ 600000000 := by simp only [reqT, List.length_append] at hpre ⊢; omega
     refine awp_skip ?_
     refine awp_seq ?_
     refine awp_block ?_
     refine xsr ?_
     refine xlz (o_ixN (i) rfl rfl rfl rfl ty26 (by first | rfl | omega | (simp; done) | (simp; omega)) hn ty51) ?_
     refine xlz (op_loadCA rfl rfl rfl ty51 rfl (xlb rfl)) ?_
     refine xlz (op_alloc rfl rfl (by decide) ty51 zk51 rfl) ?_
     refine xlz (op_store rfl rfl rfl rfl rfl rfl ty51 rfl (xlb rfl)) ?_
     refine lendF ?_
     refine xsr ?_
     refine lmv rfl rfl rfl rfl rfl ?_
     refine xlz (op_fieldP rfl rfl rfl fl51_0) ?_
     refine xlz (op_load1 rfl rfl rfl rfl ty9 rfl rfl) ?_
     refine xlz (o_bsD rfl rfl rfl rfl rfl ty71 ty9 rfl rfl) ?_
     refine xlz (o_callW [5] 65 (c57 [z.path] (headT r ++ (r.reqs.take i).flatMap reqT) (by simp) (by simp; omega) (by rw [← List.length_append]; omega)) rfl rfl rfl ca57 rfl (by decide) (handOK_cons (by decide) (by decide) rfl rfl handOK_nil) rfl rfl rfl rfl) ?_
     refine lendF ?_
     refine xsr ?_
     refine lmv rfl rfl rfl rfl rfl ?_
     refine xlz (op_fieldP rfl rfl rfl fl51_1) ?_
     refine xlz (op_load1 rfl rfl rfl rfl ty49 rfl rfl) ?_
     refine xlz (o_lenE (n := z.set.length) rfl rfl rfl ty49 (by simp)) ?_
     refine xlz (o_bsD rfl rfl rfl rfl rfl ty96 ty3 rfl rfl) ?_
     refine xlz (o_callW [5] 71 (c55 [(z.set.length : Int)] (headT r ++ (r.reqs.take i).flatMap reqT ++ textsS [z.path]) (by simp) (by simp; omega) (by rw [← List.length_append]; omega)) rfl rfl rfl ca55 rfl (by decide) (handOK_cons (by decide) (by decide) rfl rfl handOK_nil) rfl rfl rfl rfl) ?_
     refine lendF ?_
     refine xsr ?_
     refine xlz (op_fieldP rfl rfl rfl fl51_1) ?_
     refine xlz (op_load1 rfl rfl rfl rfl ty49 rfl rfl) ?_
     refine xlz (o_lenE (n := z.set.length) rfl rfl rfl ty49 (by simp)) ?_
     refine lmv rfl rfl rfl rfl rfl ?_
     refine lendF ?_
     refine awp_block ?_
     refine awp_loop (fun k => ⟨89, [(75, .d (I (k : Nat))), (5, .ptr 5 0), (6, .fn (.func 55) [] [.ptr 5 0]), (7, .fn (.func 57) [] [.ptr 5 0]), (10, .ptr 10 0), (55, .d (reqsD r.reqs)), (56, .d (I r.reqs.length)), (57, .d (I (i : Nat))), (60, .d (.agg [.str z.path, setD z.set])), (61, .fn (.func 57) [] [.ptr 5 0]), (62, .ptr 10 0), (63, .d (.str z.path)), (64, .d (.list [.str z.path])), (66, .fn (.func 55) [] [.ptr 5 0]), (67, .ptr 10 1), (68, .d (setD z.set)), (69, .d (I z.set.length)), (70, .d (.list [I z.set.length])), (72, .ptr 10 1), (73, .d (setD z.set)), (74, .d (I z.set.length))], [(5, .cells [.d (.str (headT r ++ (r.reqs.take i).flatMap reqT ++ textsS [z.path] ++ intsS [(z.set.length : Int)] ++ (z.set.take k).flatMap (fun y => intsS [y.lo, y.hi])))]), (10, .cells [.d (.str z.path), .d (setD z.set)])]⟩) (fun k => z.set.length - k) (fun k => k ≤ z.set.length) 0 ?_ ?_ ?_
     ·
      exact ent_k [] rfl rfl ((by repeat (first | exact .nil | refine xkc ?_))) (obs_cons rfl (.cells (.cons (k_s (by simp)) .nil)) (obs_cons rfl (o_eq rfl) obs_nil)) rfl
     ·
      exact Nat.zero_le _
     ·
      rintro k hk
      refine xsr ?_
      refine xlz (op_binI rfl rfl rfl rfl rfl (.inl rfl) rfl) ?_
      refine lendF ?_
      refine awp_seq ?_
      refine awp_cond rfl rfl (fun hc4 => ?_) (fun hc4 => ?_)
      ·
       obtain ⟨y, hm⟩ := rng_lt (l := z.set) (by simpa using hc4)
       have hlt2 := rng_le hm
       have hyb := hzb y (List.mem_of_getElem? hm)
       have hp3 : (headT r ++ (r.reqs.take i).flatMap reqT ++ textsS [z.path] ++ intsS [(z.set.length : Int)] ++ (z.set.take k).flatMap (fun y => intsS [y.lo, y.hi]) ++ intsS [y.lo, y.hi]).length ≤ 600000000 := by have := flat_take (fun y : Span => intsS [y.lo, y.hi]) hm; simp only [reqT, List.length_append] at hpre this ⊢; omega
       refine awp_skip ?_
       refine awp_seq ?_
       refine awp_block ?_
       refine xsr ?_
       refine xlz (o_ixN (k) rfl rfl rfl rfl ty49 (by first | rfl | omega | (simp; done) | (simp; omega)) hm ty78) ?_
       refine xlz (op_loadCA rfl rfl rfl ty78 rfl (xlb rfl)) ?_
       refine xlz (op_alloc rfl rfl (by decide) ty78 zk78 rfl) ?_
       refine xlz (op_store rfl rfl rfl rfl rfl rfl ty78 rfl (xlb rfl)) ?_
       refine lendF ?_
       refine awp_region mixed ?_
       refine lmv rfl rfl rfl rfl rfl ?_
       refine xlz (op_fieldP rfl rfl rfl fl78_0) ?_
       refine xlz (op_load1 rfl rfl rfl rfl ty3 rfl rfl) ?_
       refine xlz (op_fieldP rfl rfl rfl fl78_1) ?_
       refine xlz (op_load1 rfl rfl rfl rfl ty3 rfl rfl) ?_
       refine xlz (o_bsD rfl rfl rfl rfl rfl ty96 ty3 rfl rfl) ?_
       refine xlz (o_callW [5] 85 (c55 [y.lo, y.hi] (headT r ++ (r.reqs.take i).flatMap reqT ++ textsS [z.path] ++ intsS [(z.set.length : Int)] ++ (z.set.take k).flatMap (fun y => intsS [y.lo, y.hi])) (by simp) (by simp; omega) (by rw [← List.length_append]; omega)) rfl rfl rfl ca55 rfl (by decide) (handOK_cons (by decide) (by decide) rfl rfl handOK_nil) rfl rfl rfl rfl) ?_
       refine lendF ?_
       refine awp_region mixed ?_
       refine xlz (o_add rfl rfl rfl rfl (by first | omega | (simp; omega) | (simp at *; omega))) ?_
       refine lmv rfl rfl rfl rfl rfl ?_
       refine lendF ?_
       refine ⟨k + 1, ?_, ?_, ?_⟩
       ·
        exact rng_le hm
       ·
        exact ent_k [] rfl rfl ((by repeat (first | exact .nil | refine xkc ?_))) (obs_cons rfl (.cells (.cons (k_s (by rw [take_succ hm]; simp)) .nil)) (obs_cons rfl (o_eq rfl) obs_nil)) rfl
       ·
        omega
      ·
       obtain rfl := rng_ge (l := z.set) (by simpa using hc4) hk
       refine awp_exit ?_
       refine awp_region mixed ?_
       refine xlz (o_add rfl rfl rfl rfl (by first | omega | (simp; omega) | (simp at *; omega))) ?_
       refine lmv rfl rfl rfl rfl rfl ?_
       refine lendF ?_
       refine ⟨i + 1, ?_, ?_, ?_⟩
       ·
        exact rng_le hn
       ·
        exact ent_k [] rfl rfl ((by repeat (first | exact .nil | refine xkc ?_))) (obs_cons rfl (.cells (.cons (k_s (by rw [take_succ hn]; simp [reqT])) .nil)) obs_nil) rfl
       ·
        omega
    ·
     obtain rfl := rng_ge (l := r.reqs) (by simpa using hc3) hi
     refine awp_exit ?_
     refine xsr ?_
     refine xlz (op_load1 rfl rfl rfl rfl ty9 rfl rfl) ?_
     iterate 2 refine las rfl rfl rfl rfl rfl ?_
     refine lendF ?_
     refine awp_ret ?_
     refine ⟨[_, _], ⟨rfl, rfl, trivial⟩, ?_⟩
     exact ent_d2 rfl (by rw [if_pos h0]; simp [manT]) rfl (by rw [h0])

end Go.Pm

namespace Go.Pm
open Go.Proofs

set_option maxRecDepth 10000 in
set_option maxHeartbeats 4000000 in
theorem c19 (m : Bytes) (hm : m.length ≤ 100000) : Fn PR 19 [.d (.str m)] [] [.d (readI m).1.d, .d (I (readI m).2)] [] := by
 refine fn_of_awp Tryz.func19 rfl (N := 91) rfl ?_
 refine xsr ?_
 refine xlz (op_alloc rfl rfl (by decide) ty40 zk40 rfl) ?_
 refine las rfl rfl rfl rfl rfl ?_
 refine lendF ?_
 refine xsr ?_
 refine lmv rfl rfl rfl rfl rfl ?_
 refine xlz (o_callX (p := .ptr 6011 0) (news := [6011]) (upd := [(6011, some (.cells [.d (.str m), .d (I 0), .d (I 0)]))]) [] 11 (c63 m) rfl rfl rfl ca63 rfl (by decide) handOK_nil rfl rfl rfl rfl (by kernel_rfl) (by kernel_rfl) (by kernel_rfl)) ?_
 refine las rfl rfl rfl rfl rfl ?_
 refine lendF ?_
 refine awp_joinX (fun _ : Unit => ⟨91, [(5, .ptr 5 0), (4, .ptr 6011 0), (0, .d (.str m)), (2, .ptr 2 0)], [(5, .cells [.d (.str (rd1 m).1), .d (I 0), .d (I 0), .d (I 0), .nils, .d (.str []), .d (.str []), .d (.str []), .d (.bool false)]), (6011, (rd1 m).2.ob), (2, .cells [.d (.str []), .d (I 0), .d (I 0), .d (I 0), .nils, .d (.str []), .d (.str []), .d (.str []), .d (.bool false)])]⟩) (fun _ : Unit => True) ?_ ?_
 ·
  refine awp_region mixed ?_
  refine lmv rfl rfl rfl rfl rfl ?_
  refine xlz (o_callX (p := .d (.str (rd1 m).1)) (news := []) (upd := [(6011, some ((rd1 m).2.ob))]) [6011] 13 (c64 ⟨m, 0, 0⟩ (by show m.length < _; omega) (Nat.zero_le _)) rfl rfl rfl ca64 rfl (by decide) (handOK_cons (by decide) (by decide) rfl rfl handOK_nil) rfl rfl rfl rfl (by kernel_rfl) (by kernel_rfl) (by kernel_rfl)) ?_
  refine xlz (o_bldP rfl rfl rfl bl40 ty40 zk40 rfl rfl) ?_
  refine xlz (op_alloc rfl rfl (by decide) ty40 zk40 rfl) ?_
  refine xlz (op_storeX [.d (.str (rd1 m).1), .d (I 0), .d (I 0), .d (I 0), .nils, .d (.str []), .d (.str []), .d (.str []), .d (.bool false)] rfl rfl rfl rfl rfl rfl ty40 rfl (xlb rfl) (by kernel_rfl)) ?_
  refine lendF ?_
  refine ⟨(), ?_, ?_⟩
  ·
   exact True.intro
  ·
   exact ent_k [] rfl rfl ((by repeat (first | exact .nil | refine xkc ?_))) (obs_cons rfl (.cells (by repeat (first | exact .nil | refine .cons (by first | exact k_eq rfl | exact .same _ | exact k_i (by rw [majN_eq hp]; simp [hp])) ?_))) (obs_cons rfl (o_eq rfl) (obs_cons rfl (o_eq rfl) obs_nil))) rfl
 ·
  rintro _ _
  refine xsr ?_
  refine xlz (op_fieldP rfl rfl rfl fl40_0) ?_
  refine xlz (op_load1 rfl rfl rfl rfl ty9 rfl rfl) ?_
  refine xlz (o_call (c65 (rd1 m).1 (Nat.le_trans (text_len (m := m) (r := ⟨m, 0, 0⟩) ⟨rfl, Nat.zero_le _⟩) hm)) rfl rfl rfl ca65 rfl rfl) ?_
  refine lmv rfl rfl rfl rfl rfl ?_
  refine xlz (op_extract rfl rfl rfl rfl) ?_
  refine xlz (op_extract rfl rfl rfl rfl) ?_
  refine xlz (op_extract rfl rfl rfl rfl) ?_
  iterate 3 refine las rfl rfl rfl rfl rfl ?_
  refine lendF ?_
  refine awp_seq ?_
  refine xsr ?_
  refine lmv rfl rfl rfl rfl rfl ?_
  refine xlz (op_binI rfl rfl rfl rfl rfl (.inl rfl) rfl) ?_
  refine lendF ?_
  refine awp_cond rfl rfl (fun hc1 => ?_) (fun hc1 => ?_)
  ·
   have hp : isPath (rd1 m).1 = false := by (have h := hc1); split at h; (simp at h); (rename_i h2; simpa using h2)
   have hmj := majN_no hp
   have hb : readB m := .inl hmj
   refine xsr ?_
   refine xlz (o_bld rfl rfl rfl bl40 ty40 zk40 rfl rfl rfl) ?_
   refine xlz (op_storeX [.d (.str []), .d (I 0), .d (I 0), .d (I 0), .d (.list []), .d (.str []), .d (.str []), .d (.str []), .d (.bool false)] rfl rfl rfl rfl rfl rfl ty40 rfl (xlb rfl) (by kernel_rfl)) ?_
   refine las rfl rfl rfl rfl rfl ?_
   refine lendF ?_
   refine awp_ret ?_
   refine ⟨[_, _], ⟨⟨_, _, _, _, _, _, _, rfl, rfl, ty40, (xlb rfl), rfl⟩, rfl, trivial⟩, ?_⟩
   first | exact ent_d2 rfl (by rw [readI, if_pos hb] <;> rfl) rfl (by rw [readI, if_pos hb] <;> rfl) | exact ent_d2 rfl (by rw [readI, if_neg hb] <;> rfl) rfl (by rw [readI, if_neg hb] <;> rfl)
  ·
   have hp : isPath (rd1 m).1 = true := by (have h := hc1); split at h; (assumption); (simp at h)
   have hmj := majN_yes hp
   have hme := majN_eq hp
   refine awp_skip ?_
   refine awp_joinX (fun _ : Unit => ⟨91, [(5, .ptr 5 0), (4, .ptr 6011 0), (0, .d (.str m)), (2, .ptr 2 0)], [(5, .cells [.d (.str (rd1 m).1), .d (I (majN (rd1 m).1)), .d (I (rd2 m).1), .d (I (rd3 m).1), .nils, .d (.str []), .d (.str []), .d (.str []), .d (.bool false)]), (6011, (rd3 m).2.ob), (2, .cells [.d (.str []), .d (I 0), .d (I 0), .d (I 0), .nils, .d (.str []), .d (.str []), .d (.str []), .d (.bool false)])]⟩) (fun _ : Unit => True) ?_ ?_
   ·
    refine awp_region mixed ?_
    iterate 2 refine lmv rfl rfl rfl rfl rfl ?_
    refine xlz (o_callX (p := .d (I (rd2 m).1)) (news := []) (upd := [(6011, some ((rd2 m).2.ob))]) [6011] 27 (c66 (rd1 m).2 ((in1 m).hs hm) (in1 m).hp) rfl rfl rfl ca66 rfl (by decide) (handOK_cons (by decide) (by decide) rfl rfl handOK_nil) rfl rfl rfl rfl (by kernel_rfl) (by kernel_rfl) (by kernel_rfl)) ?_
    refine lmv rfl rfl rfl rfl rfl ?_
    refine xlz (o_callX (p := .d (I (rd3 m).1)) (news := []) (upd := [(6011, some ((rd3 m).2.ob))]) [6011] 29 (c66 (rd2 m).2 ((in2 m).hs hm) (in2 m).hp) rfl rfl rfl ca66 rfl (by decide) (handOK_cons (by decide) (by decide) rfl rfl handOK_nil) rfl rfl rfl rfl (by kernel_rfl) (by kernel_rfl) (by kernel_rfl)) ?_
    refine xlz (o_bld rfl rfl rfl bl38 ty38 zk38 rfl rfl rfl) ?_
    refine xlz (op_fieldP rfl rfl rfl fl40_1) ?_
    refine xlz (op_storeX [.d (.str (rd1 m).1), .d (I (if isPath (rd1 m).1 then (majorF (rd1 m).1).1 else 0)), .d (I (rd2 m).1), .d (I (rd3 m).1), .nils, .d (.str []), .d (.str []), .d (.str []), .d (.bool false)] rfl rfl rfl rfl rfl rfl ty38 rfl (xlb rfl) (by kernel_rfl)) ?_
    refine lendF ?_
    refine ⟨(), ?_, ?_⟩
    ·
     exact True.intro
    ·
     exact ent_k [] rfl rfl ((by repeat (first | exact .nil | refine xkc ?_))) (obs_cons rfl (.cells (by repeat (first | exact .nil | refine .cons (by first | exact k_eq rfl | exact .same _ | exact k_i (by rw [majN_eq hp]; simp [hp])) ?_))) (obs_cons rfl (o_eq rfl) (obs_cons rfl (o_eq rfl) obs_nil))) rfl
   ·
    rintro _ _
    refine awp_joinX (fun _ : Unit => ⟨91, [(5, .ptr 5 0), (4, .ptr 6011 0), (0, .d (.str m)), (2, .ptr 2 0)], [(5, .cells [.d (.str (rd1 m).1), .d (I (majN (rd1 m).1)), .d (I (rd2 m).1), .d (I (rd3 m).1), .nils, .d (.str []), .d (.str []), .d (.str []), .d (.bool ((rd4 m).1 == 1))]), (6011, (rd4 m).2.ob), (2, .cells [.d (.str []), .d (I 0), .d (I 0), .d (I 0), .nils, .d (.str []), .d (.str []), .d (.str []), .d (.bool false)])]⟩) (fun _ : Unit => True) ?_ ?_
    ·
     refine awp_region mixed ?_
     refine lmv rfl rfl rfl rfl rfl ?_
     refine xlz (o_callX (p := .d (I (rd4 m).1)) (news := []) (upd := [(6011, some ((rd4 m).2.ob))]) [6011] 33 (c67 (rd3 m).2 1 ((in3 m).hs hm) (in3 m).hp) rfl rfl rfl ca67 rfl (by decide) (handOK_cons (by decide) (by decide) rfl rfl handOK_nil) rfl rfl rfl rfl (by kernel_rfl) (by kernel_rfl) (by kernel_rfl)) ?_
     refine xlz (op_binI rfl rfl rfl rfl rfl (.inl rfl) rfl) ?_
     refine xlz (op_fieldP rfl rfl rfl fl40_6) ?_
     refine xlz (op_storeX [.d (.str (rd1 m).1), .d (I (majN (rd1 m).1)), .d (I (rd2 m).1), .d (I (rd3 m).1), .nils, .d (.str []), .d (.str []), .d (.str []), .d (.bool ((rd4 m).1 == 1))] rfl rfl rfl rfl rfl rfl ty4 rfl (xlb rfl) (by kernel_rfl)) ?_
     refine lendF ?_
     refine ⟨(), ?_, ?_⟩
     ·
      exact True.intro
     ·
      exact ent_k [] rfl rfl ((by repeat (first | exact .nil | refine xkc ?_))) (obs_cons rfl (.cells (by repeat (first | exact .nil | refine .cons (by first | exact k_eq rfl | exact .same _ | exact k_i (by rw [majN_eq hp]; simp [hp])) ?_))) (obs_cons rfl (o_eq rfl) (obs_cons rfl (o_eq rfl) obs_nil))) rfl
    ·
     rintro _ _
     refine awp_joinX (fun _ : Unit => ⟨91, [(5, .ptr 5 0), (4, .ptr 6011 0), (0, .d (.str m)), (2, .ptr 2 0)], [(5, .cells [.d (.str (rd1 m).1), .d (I (majN (rd1 m).1)), .d (I (rd2 m).1), .d (I (rd3 m).1), .nils, .d (.str (rd5 m).1), .d (.str (rd6 m).1), .d (.str (rd7 m).1), .d (.bool ((rd4 m).1 == 1))]), (6011, (rd7 m).2.ob), (2, .cells [.d (.str []), .d (I 0), .d (I 0), .d (I 0), .nils, .d (.str []), .d (.str []), .d (.str []), .d (.bool false)])]⟩) (fun _ : Unit => True) ?_ ?_
     ·
      refine awp_region mixed ?_
      refine lmv rfl rfl rfl rfl rfl ?_
      refine xlz (o_callX (p := .d (.str (rd5 m).1)) (news := []) (upd := [(6011, some ((rd5 m).2.ob))]) [6011] 37 (c64 (rd4 m).2 ((in4 m).hs hm) (in4 m).hp) rfl rfl rfl ca64 rfl (by decide) (handOK_cons (by decide) (by decide) rfl rfl handOK_nil) rfl rfl rfl rfl (by kernel_rfl) (by kernel_rfl) (by kernel_rfl)) ?_
      refine lmv rfl rfl rfl rfl rfl ?_
      refine xlz (o_callX (p := .d (.str (rd6 m).1)) (news := []) (upd := [(6011, some ((rd6 m).2.ob))]) [6011] 39 (c64 (rd5 m).2 ((in5 m).hs hm) (in5 m).hp) rfl rfl rfl ca64 rfl (by decide) (handOK_cons (by decide) (by decide) rfl rfl handOK_nil) rfl rfl rfl rfl (by kernel_rfl) (by kernel_rfl) (by kernel_rfl)) ?_
      refine lmv rfl rfl rfl rfl rfl ?_
      refine xlz (o_callX (p := .d (.str (rd7 m).1)) (news := []) (upd := [(6011, some ((rd7 m).2.ob))]) [6011] 41 (c64 (rd6 m).2 ((in6 m).hs hm) (in6 m).hp) rfl rfl rfl ca64 rfl (by decide) (handOK_cons (by decide) (by decide) rfl rfl handOK_nil) rfl rfl rfl rfl (by kernel_rfl) (by kernel_rfl) (by kernel_rfl)) ?_
      refine xlz (op_fieldP rfl rfl rfl fl40_3) ?_
      refine xlz (op_storeX [.d (.str (rd1 m).1), .d (I (majN (rd1 m).1)), .d (I (rd2 m).1), .d (I (rd3 m).1), .nils, .d (.str (rd5 m).1), .d (.str []), .d (.str []), .d (.bool ((rd4 m).1 == 1))] rfl rfl rfl rfl rfl rfl ty9 rfl (xlb rfl) (by kernel_rfl)) ?_
      refine xlz (op_fieldP rfl rfl rfl fl40_4) ?_
      refine xlz (op_storeX [.d (.str (rd1 m).1), .d (I (majN (rd1 m).1)), .d (I (rd2 m).1), .d (I (rd3 m).1), .nils, .d (.str (rd5 m).1), .d (.str (rd6 m).1), .d (.str []), .d (.bool ((rd4 m).1 == 1))] rfl rfl rfl rfl rfl rfl ty9 rfl (xlb rfl) (by kernel_rfl)) ?_
      refine xlz (op_fieldP rfl rfl rfl fl40_5) ?_
      refine xlz (op_storeX [.d (.str (rd1 m).1), .d (I (majN (rd1 m).1)), .d (I (rd2 m).1), .d (I (rd3 m).1), .nils, .d (.str (rd5 m).1), .d (.str (rd6 m).1), .d (.str (rd7 m).1), .d (.bool ((rd4 m).1 == 1))] rfl rfl rfl rfl rfl rfl ty9 rfl (xlb rfl) (by kernel_rfl)) ?_
      refine lendF ?_
      refine ⟨(), ?_, ?_⟩
      ·
       exact True.intro
      ·
       exact ent_k [] rfl rfl ((by repeat (first | exact .nil | refine xkc ?_))) (obs_cons rfl (.cells (by repeat (first | exact .nil | refine .cons (by first | exact k_eq rfl | exact .same _ | exact k_i (by rw [majN_eq hp]; simp [hp])) ?_))) (obs_cons rfl (o_eq rfl) (obs_cons rfl (o_eq rfl) obs_nil))) rfl
     ·
      rintro _ _
      refine awp_seq ?_
      refine xsr ?_
      refine lmv rfl rfl rfl rfl rfl ?_
      refine xlz (o_callX (p := .d (I (rd8 m).1)) (news := []) (upd := [(6011, some ((rd8 m).2.ob))]) [6011] 46 (c67 (rd7 m).2 16 ((in7 m).hs hm) (in7 m).hp) rfl rfl rfl ca67 rfl (by decide) (handOK_cons (by decide) (by decide) rfl rfl handOK_nil) rfl rfl rfl rfl (by kernel_rfl) (by kernel_rfl) (by kernel_rfl)) ?_
      refine lmv rfl rfl rfl rfl rfl ?_
      refine lendF ?_
      refine awp_block ?_
      refine awp_ent (ent_tailc 5 4 500076 2 rfl rfl rfl (by decide) rfl) ?_
      refine awp_loop (fun i => ⟨91, [(47, .d (I (i : Nat))), (46, .d (I (rd8 m).1)), (5, .ptr 5 0), (4, .ptr 6011 0), (0, .d (.str m)), (2, .ptr 2 0)], [(5, .cells [.d (.str (rd1 m).1), .d (I (majN (rd1 m).1)), .d (I (rd2 m).1), .d (I (rd3 m).1), .tl ((qI m.length (rd8 m).2 i).1.map Req.d) (some 500076), .d (.str (rd5 m).1), .d (.str (rd6 m).1), .d (.str (rd7 m).1), .d (.bool ((rd4 m).1 == 1))]), (500076, .tail 2), (6011, (qI m.length (rd8 m).2 i).2.ob), (2, .cells [.d (.str []), .d (I 0), .d (I 0), .d (I 0), .nils, .d (.str []), .d (.str []), .d (.str []), .d (.bool false)])]⟩) (fun i => (rd8 m).1.toNat - i) (fun i => i ≤ (rd8 m).1.toNat) 0 ?_ ?_ ?_
      ·
       exact ent_k [] rfl rfl ((by repeat (first | exact .nil | refine xkc ?_))) (obs_cons rfl (.cells (by repeat (first | exact .nil | refine .cons (by first | exact k_eq rfl | exact .same _ | exact k_i (by rw [majN_eq hp]; simp [hp])) ?_))) (obs_cons rfl (o_eq rfl) (obs_cons rfl (o_eq rfl) (obs_cons rfl (o_eq rfl) obs_nil)))) rfl
      ·
       exact Nat.zero_le _
      ·
       rintro i hi
       refine xsr ?_
       refine xlz (op_binI rfl rfl rfl rfl rfl (.inl rfl) rfl) ?_
       refine lendF ?_
       refine awp_seq ?_
       refine awp_cond rfl rfl (fun hc2 => ?_) (fun hc2 => ?_)
       ·
        have h8 := cnt8 m
        have hlt : i < (rd8 m).1.toNat := by (have h : decide ((i : Int) < (rd8 m).1) = true := hc2); simp at h; omega
        refine awp_skip ?_
        refine awp_seq ?_
        refine awp_block ?_
        refine xsr ?_
        refine lmv rfl rfl rfl rfl rfl ?_
        refine xlz (o_callX (p := .d (.str ((qI m.length (rd8 m).2 i).2.text).1)) (news := []) (upd := [(6011, some (((qI m.length (rd8 m).2 i).2.text).2.ob))]) [6011] 50 (c64 (qI m.length (rd8 m).2 i).2 ((qI_in (in8 m) m.length i).hs hm) (qI_in (in8 m) m.length i).hp) rfl rfl rfl ca64 rfl (by decide) (handOK_cons (by decide) (by decide) rfl rfl handOK_nil) rfl rfl rfl rfl (by kernel_rfl) (by kernel_rfl) (by kernel_rfl)) ?_
        refine xlz (o_bldP rfl rfl rfl bl51 ty51 zk51 rfl rfl) ?_
        refine xlz (op_alloc rfl rfl (by decide) ty51 zk51 rfl) ?_
        refine xlz (op_storeX [.d (.str (qI m.length (rd8 m).2 i).2.text.1), .nils] rfl rfl rfl rfl rfl rfl ty51 rfl (xlb rfl) (by kernel_rfl)) ?_
        refine lendF ?_
        refine awp_seq ?_
        refine xsr ?_
        iterate 2 refine lmv rfl rfl rfl rfl rfl ?_
        refine xlz (op_lenS rfl rfl rfl ty9) ?_
        refine xlz (o_callX (p := .d (I (rdc m.length (qI m.length (rd8 m).2 i).2).1)) (news := []) (upd := [(6011, some ((rdc m.length (qI m.length (rd8 m).2 i).2).2.ob))]) [6011] 55 (c67 (qI m.length (rd8 m).2 i).2.text.2 m.length ((text_in (qI_in (in8 m) m.length i)).hs hm) (text_in (qI_in (in8 m) m.length i)).hp) rfl rfl rfl ca67 rfl (by decide) (handOK_cons (by decide) (by decide) rfl rfl handOK_nil) rfl rfl rfl rfl (by kernel_rfl) (by kernel_rfl) (by kernel_rfl)) ?_
        refine lmv rfl rfl rfl rfl rfl ?_
        refine lendF ?_
        refine awp_block ?_
        refine awp_ent (ent_tailc 9 1 500069 2 rfl rfl rfl (by decide) rfl) ?_
        refine awp_loop (fun k => ⟨91, [(56, .d (I (k : Nat))), (55, .d (I (rdc m.length (qI m.length (rd8 m).2 i).2).1)), (9, .ptr 9 0), (0, .d (.str m)), (2, .ptr 2 0), (4, .ptr 6011 0), (5, .ptr 5 0), (46, .d (I (rd8 m).1)), (47, .d (I (i : Nat))), (49, .ptr 6011 0), (50, .d (.str ((qI m.length (rd8 m).2 i).2.text).1)), (51, .agg [.d (.str (qI m.length (rd8 m).2 i).2.text.1), .nils]), (52, .ptr 6011 0), (53, .d (.str m)), (54, .d (I m.length))], [(9, .cells [.d (.str (qI m.length (rd8 m).2 i).2.text.1), .tl ((sI (rdc m.length (qI m.length (rd8 m).2 i).2).2 k).1.map Span.d) (some 500069)]), (500069, .tail 2), (6011, (sI (rdc m.length (qI m.length (rd8 m).2 i).2).2 k).2.ob), (5, .cells [.d (.str (rd1 m).1), .d (I (majN (rd1 m).1)), .d (I (rd2 m).1), .d (I (rd3 m).1), .tl ((qI m.length (rd8 m).2 i).1.map Req.d) (some 500076), .d (.str (rd5 m).1), .d (.str (rd6 m).1), .d (.str (rd7 m).1), .d (.bool ((rd4 m).1 == 1))]), (500076, .tail 2), (2, .cells [.d (.str []), .d (I 0), .d (I 0), .d (I 0), .nils, .d (.str []), .d (.str []), .d (.str []), .d (.bool false)])]⟩) (fun k => (rdc m.length (qI m.length (rd8 m).2 i).2).1.toNat - k) (fun k => k ≤ (rdc m.length (qI m.length (rd8 m).2 i).2).1.toNat) 0 ?_ ?_ ?_
        ·
         exact ent_k [] rfl rfl ((by repeat (first | exact .nil | refine xkc ?_))) (obs_cons rfl (.cells (by repeat (first | exact .nil | refine .cons (by first | exact k_eq rfl | exact .same _ | exact k_i (by rw [majN_eq hp]; simp [hp])) ?_))) (obs_cons rfl (o_eq rfl) (obs_cons rfl (o_eq rfl) (obs_cons rfl (o_eq rfl) (obs_cons rfl (o_eq rfl) (obs_cons rfl (o_eq rfl) obs_nil)))))) rfl
        ·
         exact Nat.zero_le _
        ·
         rintro k hk
         refine xsr ?_
         refine xlz (op_binI rfl rfl rfl rfl rfl (.inl rfl) rfl) ?_
         refine lendF ?_
         refine awp_seq ?_
         refine awp_cond rfl rfl (fun hc3 => ?_) (fun hc3 => ?_)
         ·
          have hcb : (rdc m.length (qI m.length (rd8 m).2 i).2).1 ≤ m.length := (count_bnd (qI m.length (rd8 m).2 i).2.text.2 m.length (by omega)).2
          have hk2 : k < (rdc m.length (qI m.length (rd8 m).2 i).2).1.toNat := by (have h : decide ((k : Int) < (rdc m.length (qI m.length (rd8 m).2 i).2).1) = true := hc3); simp at h; omega
          refine awp_skip ?_
          refine awp_seq ?_
          refine awp_block ?_
          refine awp_seq ?_
          refine xsr ?_
          refine lmv rfl rfl rfl rfl rfl ?_
          refine xlz (o_callR [6011] (c68 (sI (rdc m.length (qI m.length (rd8 m).2 i).2).2 k).2) rfl rfl rfl ca68 rfl (by decide) (handOK_cons (by decide) (by decide) rfl rfl handOK_nil) rfl) ?_
          refine xlz (op_binI rfl rfl rfl rfl rfl (.inl rfl) rfl) ?_
          refine lendF ?_
          refine awp_cond rfl rfl (fun hc4 => ?_) (fun hc4 => ?_)
          ·
           have he : (sI (rdc m.length (qI m.length (rd8 m).2 i).2).2 k).2.e ≠ 0 := by simpa using hc4
           rw [sI_stop he hk]
           refine awp_exit ?_
           refine awp_region mixed ?_
           refine xlz (op_fieldP rfl rfl rfl fl40_2) ?_
           refine xlz (op_load1 rfl rfl rfl rfl ty26 rfl rfl) ?_
           refine xlz (o_ldA rfl rfl rfl rfl ty51 rfl (xlb rfl) rfl) ?_
           refine xlz (o_bs rfl rfl rfl rfl rfl ty26 ty51 rfl rfl) ?_
           refine xlz (o_app rfl rfl (by decide) rfl rfl rfl ty26 ty51 rfl (by decide) rfl (by intro d hd; obtain ⟨x, _, rfl⟩ := List.mem_map.1 hd; rfl) (by simp [D.cells]) (by have := qI_len m.length (rd8 m).2 i; have := cnt8 m; simp; omega) (by decide) (show _ = (qI m.length (rd8 m).2 (i + 1)).1.map Req.d from by simp [qI, qstep])) ?_
           refine xlz (op_fieldP rfl rfl rfl fl40_2) ?_
           refine xlz (op_storeX [.d (.str (rd1 m).1), .d (I (majN (rd1 m).1)), .d (I (rd2 m).1), .d (I (rd3 m).1), .tl ((qI m.length (rd8 m).2 (i + 1)).1.map Req.d) (some 76), .d (.str (rd5 m).1), .d (.str (rd6 m).1), .d (.str (rd7 m).1), .d (.bool ((rd4 m).1 == 1))] rfl rfl rfl rfl rfl rfl ty26 rfl (xlb rfl) (by kernel_rfl)) ?_
           refine lendF ?_
           refine awp_region mixed ?_
           refine xlz (o_add rfl rfl rfl rfl (by first | omega | (simp; omega) | (simp at *; omega))) ?_
           refine lmv rfl rfl rfl rfl rfl ?_
           refine lendF ?_
           refine ⟨i + 1, ?_, ?_, ?_⟩
           ·
            exact hlt
           ·
            exact ent_k [(500076, 76)] rfl rfl ((by repeat (first | exact .nil | refine xkc ?_))) (obs_cons rfl (.cells (by repeat (first | exact .nil | refine .cons (by first | exact k_eq rfl | exact .same _ | exact k_i (by rw [majN_eq hp]; simp [hp])) ?_))) (obs_cons rfl (o_eq rfl) (obs_cons rfl (o_eq rfl) (obs_cons rfl (o_eq rfl) obs_nil)))) rfl
           ·
            omega
          ·
           have he : (sI (rdc m.length (qI m.length (rd8 m).2 i).2).2 k).2.e = 0 := by simpa using hc4
           refine awp_skip ?_
           refine awp_region mixed ?_
           refine xlz (op_fieldP rfl rfl rfl fl51_1) ?_
           refine xlz (op_load1 rfl rfl rfl rfl ty49 rfl rfl) ?_
           refine lmv rfl rfl rfl rfl rfl ?_
           refine xlz (o_callX (p := .d (I ((sI (rdc m.length (qI m.length (rd8 m).2 i).2).2 k).2.uint).1)) (news := []) (upd := [(6011, some (((sI (rdc m.length (qI m.length (rd8 m).2 i).2).2 k).2.uint).2.ob))]) [6011] 64 (c66 (sI (rdc m.length (qI m.length (rd8 m).2 i).2).2 k).2 ((sI_in (count_in (text_in (qI_in (in8 m) m.length i)) m.length) k).hs hm) (sI_in (count_in (text_in (qI_in (in8 m) m.length i)) m.length) k).hp) rfl rfl rfl ca66 rfl (by decide) (handOK_cons (by decide) (by decide) rfl rfl handOK_nil) rfl rfl rfl rfl (by kernel_rfl) (by kernel_rfl) (by kernel_rfl)) ?_
           refine lmv rfl rfl rfl rfl rfl ?_
           refine xlz (o_callX (p := .d (I ((sI (rdc m.length (qI m.length (rd8 m).2 i).2).2 k).2.uint.2.uint).1)) (news := []) (upd := [(6011, some (((sI (rdc m.length (qI m.length (rd8 m).2 i).2).2 k).2.uint.2.uint).2.ob))]) [6011] 66 (c66 (sI (rdc m.length (qI m.length (rd8 m).2 i).2).2 k).2.uint.2 ((uint_in (sI_in (count_in (text_in (qI_in (in8 m) m.length i)) m.length) k)).hs hm) (uint_in (sI_in (count_in (text_in (qI_in (in8 m) m.length i)) m.length) k)).hp) rfl rfl rfl ca66 rfl (by decide) (handOK_cons (by decide) (by decide) rfl rfl handOK_nil) rfl rfl rfl rfl (by kernel_rfl) (by kernel_rfl) (by kernel_rfl)) ?_
           refine xlz (o_bld rfl rfl rfl bl78 ty78 zk78 rfl rfl rfl) ?_
           refine xlz (o_bs rfl rfl rfl rfl rfl ty49 ty78 rfl rfl) ?_
           refine xlz (o_app rfl rfl (by decide) rfl rfl rfl ty49 ty78 rfl (by decide) rfl (by intro d hd; obtain ⟨x, _, rfl⟩ := List.mem_map.1 hd; rfl) (by simp [D.cells]) (by have := sI_len (rdc m.length (qI m.length (rd8 m).2 i).2).2 k; have := (count_bnd (qI m.length (rd8 m).2 i).2.text.2 m.length (by omega)).2; unfold rdc at *; simp; omega) (by decide) (show _ = (sI (rdc m.length (qI m.length (rd8 m).2 i).2).2 (k + 1)).1.map Span.d from by rw [sI_next he]; simp)) ?_
           refine xlz (op_fieldP rfl rfl rfl fl51_1) ?_
           refine xlz (op_storeX [.d (.str (qI m.length (rd8 m).2 i).2.text.1), .tl ((sI (rdc m.length (qI m.length (rd8 m).2 i).2).2 (k + 1)).1.map Span.d) (some 69)] rfl rfl rfl rfl rfl rfl ty49 rfl (xlb rfl) (by kernel_rfl)) ?_
           refine lend (fun _ => by kernel_rfl) ?_
           refine awp_region mixed ?_
           refine xlz (o_add rfl rfl rfl rfl (by first | omega | (simp; omega) | (simp at *; omega))) ?_
           refine lmv rfl rfl rfl rfl rfl ?_
           refine lendF ?_
           refine ⟨k + 1, ?_, ?_, ?_⟩
           ·
            exact hk2
           ·
            exact ent_k [(500069, 69)] rfl rfl ((by repeat (first | exact .nil | refine xkc ?_))) (obs_cons rfl (.cells (by repeat (first | exact .nil | refine .cons (by first | exact k_eq rfl | exact .same _ | exact k_i (by rw [majN_eq hp]; simp [hp])) ?_))) (obs_cons rfl (o_eq rfl) (obs_cons rfl (o_eq (by rw [sI_next he]; rfl)) (obs_cons rfl (o_eq rfl) (obs_cons rfl (o_eq rfl) (obs_cons rfl (o_eq rfl) obs_nil)))))) rfl
           ·
            omega
         ·
          obtain rfl : k = (rdc m.length (qI m.length (rd8 m).2 i).2).1.toNat := by (have h : decide ((k : Int) < (rdc m.length (qI m.length (rd8 m).2 i).2).1) = false := hc3); simp at h; omega
          refine awp_exit ?_
          refine awp_region mixed ?_
          refine xlz (op_fieldP rfl rfl rfl fl40_2) ?_
          refine xlz (op_load1 rfl rfl rfl rfl ty26 rfl rfl) ?_
          refine xlz (o_ldA rfl rfl rfl rfl ty51 rfl (xlb rfl) rfl) ?_
          refine xlz (o_bs rfl rfl rfl rfl rfl ty26 ty51 rfl rfl) ?_
          refine xlz (o_app rfl rfl (by decide) rfl rfl rfl ty26 ty51 rfl (by decide) rfl (by intro d hd; obtain ⟨x, _, rfl⟩ := List.mem_map.1 hd; rfl) (by simp [D.cells]) (by have := qI_len m.length (rd8 m).2 i; have := cnt8 m; simp; omega) (by decide) (show _ = (qI m.length (rd8 m).2 (i + 1)).1.map Req.d from by simp [qI, qstep])) ?_
          refine xlz (op_fieldP rfl rfl rfl fl40_2) ?_
          refine xlz (op_storeX [.d (.str (rd1 m).1), .d (I (majN (rd1 m).1)), .d (I (rd2 m).1), .d (I (rd3 m).1), .tl ((qI m.length (rd8 m).2 (i + 1)).1.map Req.d) (some 76), .d (.str (rd5 m).1), .d (.str (rd6 m).1), .d (.str (rd7 m).1), .d (.bool ((rd4 m).1 == 1))] rfl rfl rfl rfl rfl rfl ty26 rfl (xlb rfl) (by kernel_rfl)) ?_
          refine lendF ?_
          refine awp_region mixed ?_
          refine xlz (o_add rfl rfl rfl rfl (by first | omega | (simp; omega) | (simp at *; omega))) ?_
          refine lmv rfl rfl rfl rfl rfl ?_
          refine lendF ?_
          refine ⟨i + 1, ?_, ?_, ?_⟩
          ·
           exact hlt
          ·
           exact ent_k [(500076, 76)] rfl rfl ((by repeat (first | exact .nil | refine xkc ?_))) (obs_cons rfl (.cells (by repeat (first | exact .nil | refine .cons (by first | exact k_eq rfl | exact .same _ | exact k_i (by rw [majN_eq hp]; simp [hp])) ?_))) (obs_cons rfl (o_eq rfl) (obs_cons rfl (o_eq rfl) (obs_cons rfl (o_eq rfl) obs_nil)))) rfl
          ·
           omega
       ·
        obtain rfl : i = (rd8 m).1.toNat := by (have h : decide ((i : Int) < (rd8 m).1) = false := hc2); simp at h; omega
        refine awp_exit ?_
        refine awp_seq ?_
        refine xsr ?_
        refine lmv rfl rfl rfl rfl rfl ?_
        refine xlz (o_callR [6011] (c69 (rd9 m).2 ((in9 m).hs hm)) rfl rfl rfl ca69 rfl (by decide) (handOK_cons (by decide) (by decide) rfl rfl handOK_nil) rfl) ?_
        refine xlz (op_binI rfl rfl rfl rfl rfl (.inl rfl) rfl) ?_
        refine lmv rfl rfl rfl rfl rfl ?_
        refine lsplit rfl (fun hg5 => ?_) (fun hg5 => ?_)
        ·
         have hd : (rd9 m).2.done = 0 := by (have h := (g01 hg5)); simpa using h
         refine lg (o_ldA rfl rfl rfl rfl ty40 rfl (xlb rfl) rfl) rfl hg5 rfl rfl ?_
         refine lg (o_bs rfl rfl rfl rfl rfl ty22 ty40 rfl rfl) rfl hg5 rfl rfl ?_
         refine lg (o_bld rfl rfl rfl bl25 ty25 zk25 rfl rfl rfl) rfl hg5 rfl rfl ?_
         refine lg (o_call (c22 ⟨[outI m], []⟩ (by simp) (by simpa using out_sm m hm)) rfl rfl rfl ca22 rfl rfl) rfl hg5 rfl rfl ?_
         refine lg (op_binI rfl rfl rfl rfl rfl (.inl rfl) rfl) rfl hg5 rfl rfl ?_
         refine xlz (o_pF rfl rfl (g01 hg5) rfl rfl) ?_
         refine lendF ?_
         refine awp_cond rfl rfl (fun hc6 => ?_) (fun hc6 => ?_)
         ·
          have hb : readB m := .inr (.inr (by (have h := hc6); simpa using h))
          refine xsr ?_
          refine xlz (o_bld rfl rfl rfl bl40 ty40 zk40 rfl rfl rfl) ?_
          refine xlz (op_storeX [.d (.str []), .d (I 0), .d (I 0), .d (I 0), .d (.list []), .d (.str []), .d (.str []), .d (.str []), .d (.bool false)] rfl rfl rfl rfl rfl rfl ty40 rfl (xlb rfl) (by kernel_rfl)) ?_
          refine las rfl rfl rfl rfl rfl ?_
          refine lendF ?_
          refine awp_ret ?_
          refine ⟨[_, _], ⟨⟨_, _, _, _, _, _, _, rfl, rfl, ty40, (xlb rfl), rfl⟩, rfl, trivial⟩, ?_⟩
          first | exact ent_d2 rfl (by rw [readI, if_pos hb] <;> rfl) rfl (by rw [readI, if_pos hb] <;> rfl) | exact ent_d2 rfl (by rw [readI, if_neg hb] <;> rfl) rfl (by rw [readI, if_neg hb] <;> rfl)
         ·
          have hc : checkI [outI m] = 0 := by (have h := hc6); simpa using h
          have hb : ¬ readB m := by (have := majN_yes hp); simp [readB, hd, hc, this]
          refine awp_skip ?_
          refine xsr ?_
          refine xlz (o_ldA rfl rfl rfl rfl ty40 rfl (xlb rfl) rfl) ?_
          refine xlz (op_store rfl rfl rfl rfl rfl rfl ty40 rfl (xlb rfl)) ?_
          refine las rfl rfl rfl rfl rfl ?_
          refine lendF ?_
          refine awp_ret ?_
          refine ⟨[_, _], ⟨⟨_, _, _, _, _, _, _, rfl, rfl, ty40, (xlb rfl), rfl⟩, rfl, trivial⟩, ?_⟩
          first | exact ent_d2 rfl (by rw [readI, if_pos hb] <;> rfl) rfl (by rw [readI, if_pos hb] <;> rfl) | exact ent_d2 rfl (by rw [readI, if_neg hb] <;> rfl) rfl (by rw [readI, if_neg hb] <;> rfl)
        ·
         have hb : readB m := .inr (.inl (by (have h := (g00 hg5)); simpa using h))
         iterate 5 refine lskip rfl hg5 rfl ?_
         refine xlz (o_pT rfl rfl (g00 hg5) rfl rfl) ?_
         refine lendF ?_
         refine awp_condT rfl rfl rfl ?_
         refine xsr ?_
         refine xlz (o_bld rfl rfl rfl bl40 ty40 zk40 rfl rfl rfl) ?_
         refine xlz (op_storeX [.d (.str []), .d (I 0), .d (I 0), .d (I 0), .d (.list []), .d (.str []), .d (.str []), .d (.str []), .d (.bool false)] rfl rfl rfl rfl rfl rfl ty40 rfl (xlb rfl) (by kernel_rfl)) ?_
         refine las rfl rfl rfl rfl rfl ?_
         refine lendF ?_
         refine awp_ret ?_
         refine ⟨[_, _], ⟨⟨_, _, _, _, _, _, _, rfl, rfl, ty40, (xlb rfl), rfl⟩, rfl, trivial⟩, ?_⟩
         first | exact ent_d2 rfl (by rw [readI, if_pos hb] <;> rfl) rfl (by rw [readI, if_pos hb] <;> rfl) | exact ent_d2 rfl (by rw [readI, if_neg hb] <;> rfl) rfl (by rw [readI, if_neg hb] <;> rfl)

end Go.Pm

namespace Go.Pm
open Go.Proofs
set_option maxRecDepth 100000
theorem exI_len : exI.rels.length = 4 := by decide
theorem c45x : Fn PR 45 [] [] [.d exI.d] [] := c45
theorem c17x : Fn PR 17 [.d exR.d] [] [.d (.str (manX exR)), .d (I 0)] [] := by
  have h := c17 exR exR_sm
  rw [show (if checkI [exR] = 0 then manT exR else []) = manX exR from rfl, ex_man] at h; exact h
theorem c19x : Fn PR 19 [.d (.str (manX exR))] [] [.d exR.d, .d (I 0)] [] := by
  have h := c19 (manX exR) ex_len
  rw [ex_read] at h; exact h
theorem c22x : Fn PR 22 [.d exI.d] [] [.d (I 0)] [] := by
  have h := c22 exI (by rw [exI_len]; decide) exI_sm
  rw [ex_check] at h; exact h
theorem c13x : Fn PR 13 [.d exI.d, .d (reqsD exN)] [] [.d (selsD exL)] [] := by
  have h := c13 exI (by rw [exI_len]; decide) exI_sm exN exN_sm (by decide)
  rw [ex_reachL] at h; exact h
theorem c43x : Fn PR 43 [.d exI.d, .d (.str pB)] [] [.d (setD exV)] [] := by
  have h := c43 exI (by rw [exI_len]; decide) exI_sm pB
  rw [ex_avV] at h; exact h
theorem c42x : Fn PR 42 [.d (setD exV), .d (setD exV)] [] [.d (.bool true)] [] := by
  have h := c42 exV exV (by decide)
  rw [decide_eq_true rfl] at h; exact h
theorem c15s : Fn PR 15 [.d exI.d, .d (reqsD exN), .d (selsD exS)] [] [.d (I 17)] [] := by
  have h := c15 exI (by rw [exI_len]; decide) exI_sm exN exS exN_sm (by decide) (by decide)
  rw [ex_sol] at h; exact h
theorem c15g : Fn PR 15 [.d exI.d, .d (reqsD exN), .d (selsD exG)] [] [.d (I 0)] [] := by
  have h := c15 exI (by rw [exI_len]; decide) exI_sm exN exG exN_sm (by decide) (by decide)
  rw [ex_good] at h; exact h
theorem c21x : Fn PR 21 [.d exR.d, .d exR.d] [] [.d (.bool true)] [] := by
  have h := c21 exR exR (by decide) (by decide)
  rw [decide_eq_true rfl] at h; exact h
end Go.Pm

namespace Go.Pm
open Go.Proofs

set_option maxRecDepth 10000 in
set_option maxHeartbeats 4000000 in
theorem c9  : Fn PR 9 [] [] [.d (.bool true)] [] := by
 refine fn_of_awp Tryz.func9 rfl (N := 89) rfl ?_
 refine xsr ?_
 refine las rfl rfl rfl rfl rfl ?_
 refine lendF ?_
 refine xsr ?_
 refine xlz (o_call (c45x) rfl rfl rfl ca45 rfl rfl) ?_
 refine xlz (op_alloc rfl rfl (by decide) ty25 zk25 rfl) ?_
 refine xlz (op_store rfl rfl rfl rfl rfl rfl ty25 rfl (xlb rfl)) ?_
 refine lendF ?_
 refine xsr ?_
 refine xlz (o_bld rfl rfl rfl bl78 ty78 zk78 rfl rfl rfl) ?_
 refine xlz (o_bs rfl rfl rfl rfl rfl ty49 ty78 rfl rfl) ?_
 refine xlz (o_bld rfl rfl rfl bl51 ty51 zk51 rfl rfl rfl) ?_
 refine xlz (o_bs rfl rfl rfl rfl rfl ty26 ty51 rfl rfl) ?_
 refine las rfl rfl rfl rfl rfl ?_
 refine lendF ?_
 refine xsr ?_
 refine xlz (o_bld rfl rfl rfl bl38 ty38 zk38 rfl rfl rfl) ?_
 refine xlz (o_bld rfl rfl rfl bl38 ty38 zk38 rfl rfl rfl) ?_
 refine xlz (op_alloc rfl rfl (by decide) ty38 zk38 rfl) ?_
 refine xlz (op_alloc rfl rfl (by decide) ty38 zk38 rfl) ?_
 refine xlz (op_store rfl rfl rfl rfl rfl rfl ty38 rfl (xlb rfl)) ?_
 refine xlz (op_store rfl rfl rfl rfl rfl rfl ty38 rfl (xlb rfl)) ?_
 refine lendF ?_
 refine xsr ?_
 refine xlz (o_ldA rfl rfl rfl rfl ty38 rfl (xlb rfl) rfl) ?_
 refine xlz (o_bld rfl rfl rfl bl54 ty54 zk54 rfl rfl rfl) ?_
 refine xlz (o_ldA rfl rfl rfl rfl ty38 rfl (xlb rfl) rfl) ?_
 refine xlz (o_bld rfl rfl rfl bl54 ty54 zk54 rfl rfl rfl) ?_
 refine xlz (o_bs rfl rfl rfl rfl rfl ty27 ty54 rfl rfl) ?_
 refine las rfl rfl rfl rfl rfl ?_
 refine lendF ?_
 refine xsr ?_
 refine xlz (o_ldA rfl rfl rfl rfl ty38 rfl (xlb rfl) rfl) ?_
 refine xlz (o_bld rfl rfl rfl bl54 ty54 zk54 rfl rfl rfl) ?_
 refine xlz (o_ldA rfl rfl rfl rfl ty38 rfl (xlb rfl) rfl) ?_
 refine xlz (o_bld rfl rfl rfl bl54 ty54 zk54 rfl rfl rfl) ?_
 refine xlz (o_bs rfl rfl rfl rfl rfl ty27 ty54 rfl rfl) ?_
 refine las rfl rfl rfl rfl rfl ?_
 refine lendF ?_
 refine xsr ?_
 refine xlz (op_fieldP rfl rfl rfl fl25_0) ?_
 refine xlz (op_load1 rfl rfl rfl rfl ty22 rfl rfl) ?_
 refine xlz (o_ixN (0) rfl rfl rfl rfl ty22 (by first | rfl | omega | (simp; done) | (simp; omega)) (rfl : exI.rels[0]? = some exR) ty40) ?_
 refine xlz (op_loadCA rfl rfl rfl ty40 rfl (xlb rfl)) ?_
 refine xlz (o_call (c17x) rfl rfl rfl ca17 rfl rfl) ?_
 refine lmv rfl rfl rfl rfl rfl ?_
 refine xlz (op_extract rfl rfl rfl rfl) ?_
 refine xlz (op_extract rfl rfl rfl rfl) ?_
 iterate 2 refine las rfl rfl rfl rfl rfl ?_
 refine lendF ?_
 refine awp_joinX (fun _ : Unit => ⟨89, [(2, .d (reqsD exN)), (5, .d (selsD exS)), (6, .d (selsD exG)), (8, .d (I 0)), (10, .d (I 0)), (1, .ptr 1 0), (9, .ptr 9 0)], [(1, .cells [.d (relsD exI.rels), .d (.list exI.ifs)]), (9, .cells [.d (.str exR.path), .d (I exR.ver.maj), .d (I exR.ver.min), .d (I exR.ver.pat), .d (reqsD exR.reqs), .d (.str exR.arch), .d (.str exR.iface), .d (.str exR.cert), .d (.bool exR.yank)])]⟩) (fun _ : Unit => True) ?_ ?_
 ·
  refine awp_region mixed ?_
  refine lmv rfl rfl rfl rfl rfl ?_
  refine xlz (o_call (c19x) rfl rfl rfl ca19 rfl rfl) ?_
  refine lmv rfl rfl rfl rfl rfl ?_
  refine xlz (op_extract rfl rfl rfl rfl) ?_
  refine xlz (op_extract rfl rfl rfl rfl) ?_
  refine xlz (op_alloc rfl rfl (by decide) ty40 zk40 rfl) ?_
  refine xlz (op_store rfl rfl rfl rfl rfl rfl ty40 rfl (xlb rfl)) ?_
  refine las rfl rfl rfl rfl rfl ?_
  refine lendF ?_
  refine ⟨(), ?_, ?_⟩
  ·
   exact True.intro
  ·
   exact ent_k [] rfl rfl ((by repeat (first | exact .nil | refine xkc ?_))) (obs_cons rfl (o_eq rfl) (obs_cons rfl (o_eq rfl) obs_nil)) rfl
 ·
  rintro _ _
  refine xsr ?_
  refine xlz (o_ldA rfl rfl rfl rfl ty25 rfl (xlb rfl) rfl) ?_
  refine xlz (o_call (c22x) rfl rfl rfl ca22 rfl rfl) ?_
  refine xlz (op_binI rfl rfl rfl rfl rfl (.inl rfl) rfl) ?_
  refine lmv rfl rfl rfl rfl rfl ?_
  refine lsplit rfl (fun hg1 => ?_) (fun hg1 => ?_)
  ·
   refine lg (o_ldA rfl rfl rfl rfl ty25 rfl (xlb rfl) rfl) rfl hg1 rfl rfl ?_
   refine gmv hg1 rfl rfl rfl rfl rfl ?_
   refine lg (o_call (c13x) rfl rfl rfl ca13 rfl rfl) rfl hg1 rfl rfl ?_
   refine lg (o_lenE (n := exL.length) rfl rfl rfl ty27 (by simp)) rfl hg1 rfl rfl ?_
   refine lg (op_binI rfl rfl rfl rfl rfl (.inl rfl) rfl) rfl hg1 rfl rfl ?_
   refine xlz (o_pT rfl rfl (g11 hg1) rfl rfl) ?_
   refine lmv rfl rfl rfl rfl rfl ?_
   refine lsplit rfl (fun hg2 => ?_) (fun hg2 => ?_)
   ·
    refine lg (o_ldA rfl rfl rfl rfl ty25 rfl (xlb rfl) rfl) rfl hg2 rfl rfl ?_
    refine lg (o_call (c43x) rfl rfl rfl ca43 rfl rfl) rfl hg2 rfl rfl ?_
    refine lg (o_bld rfl rfl rfl bl78 ty78 zk78 rfl rfl rfl) rfl hg2 rfl rfl ?_
    refine lg (o_bld rfl rfl rfl bl78 ty78 zk78 rfl rfl rfl) rfl hg2 rfl rfl ?_
    refine lg (o_bsD rfl rfl rfl rfl rfl ty49 ty78 rfl rfl) rfl hg2 rfl rfl ?_
    refine lg (o_call (c42x) rfl rfl rfl ca42 rfl rfl) rfl hg2 rfl rfl ?_
    refine xlz (o_pT rfl rfl (g11 hg2) rfl rfl) ?_
    refine lmv rfl rfl rfl rfl rfl ?_
    refine lsplit rfl (fun hg3 => ?_) (fun hg3 => ?_)
    ·
     refine lg (o_ldA rfl rfl rfl rfl ty25 rfl (xlb rfl) rfl) rfl hg3 rfl rfl ?_
     iterate 2 refine gmv hg3 rfl rfl rfl rfl rfl ?_
     refine lg (o_call (c15s) rfl rfl rfl ca15 rfl rfl) rfl hg3 rfl rfl ?_
     refine lg (op_binI rfl rfl rfl rfl rfl (.inl rfl) rfl) rfl hg3 rfl rfl ?_
     refine xlz (o_pT rfl rfl (g11 hg3) rfl rfl) ?_
     refine lmv rfl rfl rfl rfl rfl ?_
     refine lsplit rfl (fun hg4 => ?_) (fun hg4 => ?_)
     ·
      refine lg (o_ldA rfl rfl rfl rfl ty25 rfl (xlb rfl) rfl) rfl hg4 rfl rfl ?_
      iterate 2 refine gmv hg4 rfl rfl rfl rfl rfl ?_
      refine lg (o_call (c15g) rfl rfl rfl ca15 rfl rfl) rfl hg4 rfl rfl ?_
      refine lg (op_binI rfl rfl rfl rfl rfl (.inl rfl) rfl) rfl hg4 rfl rfl ?_
      refine xlz (o_pT rfl rfl (g11 hg4) rfl rfl) ?_
      refine lmv rfl rfl rfl rfl rfl ?_
      refine lsplit rfl (fun hg5 => ?_) (fun hg5 => ?_)
      ·
       refine gmv hg5 rfl rfl rfl rfl rfl ?_
       refine lg (op_binI rfl rfl rfl rfl rfl (.inl rfl) rfl) rfl hg5 rfl rfl ?_
       refine xlz (o_pT rfl rfl (g11 hg5) rfl rfl) ?_
       refine lmv rfl rfl rfl rfl rfl ?_
       refine lsplit rfl (fun hg6 => ?_) (fun hg6 => ?_)
       ·
        refine gmv hg6 rfl rfl rfl rfl rfl ?_
        refine lg (op_binI rfl rfl rfl rfl rfl (.inl rfl) rfl) rfl hg6 rfl rfl ?_
        refine xlz (o_pT rfl rfl (g11 hg6) rfl rfl) ?_
        refine lmv rfl rfl rfl rfl rfl ?_
        refine lsplit rfl (fun hg7 => ?_) (fun hg7 => ?_)
        ·
         refine lg (o_ldA rfl rfl rfl rfl ty40 rfl (xlb rfl) rfl) rfl hg7 rfl rfl ?_
         refine lg (op_fieldP rfl rfl rfl fl25_0) rfl hg7 rfl rfl ?_
         refine lg (op_load1 rfl rfl rfl rfl ty22 rfl rfl) rfl hg7 rfl rfl ?_
         refine lg (o_ixN (0) rfl rfl rfl rfl ty22 (by first | rfl | omega | (simp; done) | (simp; omega)) (rfl : exI.rels[0]? = some exR) ty40) rfl hg7 rfl rfl ?_
         refine lg (op_loadCA rfl rfl rfl ty40 rfl (xlb rfl)) rfl hg7 rfl rfl ?_
         refine lg (o_call (c21x) rfl rfl rfl ca21 rfl rfl) rfl hg7 rfl rfl ?_
         refine xlz (o_pT rfl rfl (g11 hg7) rfl rfl) ?_
         refine las rfl rfl rfl rfl rfl ?_
         refine lend (fun _ => by kernel_rfl) ?_
         refine awp_ret ?_
         refine ⟨[_], ⟨rfl, trivial⟩, ?_⟩
         exact ent_d1 rfl rfl
        ·
         exact absurd (g10 hg7) (by decide)
       ·
        exact absurd (g10 hg6) (by decide)
      ·
       exact absurd (g10 hg5) (by decide)
     ·
      exact absurd (g10 hg4) (by decide)
    ·
     exact absurd (g10 hg3) (by decide)
   ·
    exact absurd (g10 hg2) (by decide)
  ·
   exact absurd (g10 hg1) (by decide)

end Go.Pm

namespace Go.Pm
section
variable {x : Idx} {needs : List Req}
theorem Rch.more {L : List Rls} {more : List Req} {r : Rls} (h : Rch L needs r) : Rch L (needs ++ more) r := by
  induction h with
  | root hr h => exact .root hr (by unfold anyReaches at *; rw [List.any_append, h]; rfl)
  | step _ hr h ih => exact .step ih hr h
end
end Go.Pm

namespace Go.Pm
theorem eqI {α : Type} [DecidableEq α] {a b : List α} {i : Nat} {x y : α} (hn : a[i]? = some x) (hy : b[i]? = some y) (hI : decide (a.drop i = b.drop i) = decide (a = b)) (h : x = y) : decide (a.drop (i + 1) = b.drop (i + 1)) = decide (a = b) := by
  rw [← hI, drop_cons hn, drop_cons hy, cons_eq_iff, h]; simp
theorem eqNo {α : Type} [DecidableEq α] {a b : List α} {i : Nat} {x y : α} (hn : a[i]? = some x) (hy : b[i]? = some y) (hI : decide (a.drop i = b.drop i) = decide (a = b)) (h : ¬ x = y) : false = decide (a = b) := by
  rw [← hI, drop_cons hn, drop_cons hy, cons_eq_iff]; simp [h]
theorem eqEnd {α : Type} [DecidableEq α] {a b : List α} (hl : a.length = b.length) (hI : decide (a.drop a.length = b.drop a.length) = decide (a = b)) : true = decide (a = b) := by
  rw [← hI, List.drop_length, List.drop_of_length_le (by omega)]; simp
/-- The releases of a path among the first ones. -/
def pthT (x : Idx) (p : Bytes) (i : Nat) : List Rls := (x.rels.take i).filter fun r => r.path == p
section
variable {x : Idx} {p : Bytes} {i : Nat} {z : Rls}
theorem pthT_yes (hn : x.rels[i]? = some z) (h : z.path = p) : pthT x p (i + 1) = pthT x p i ++ [z] := by unfold pthT; rw [take_succ hn, List.filter_append]; simp [h]
theorem pthT_no (hn : x.rels[i]? = some z) (h : ¬ z.path = p) : pthT x p (i + 1) = pthT x p i := by unfold pthT; rw [take_succ hn, List.filter_append]; simp [h]
theorem pthT_end (h : x.rels.length ≤ i ∧ checkI x.rels = 0 ∨ i = 0 ∧ (x.rels.length ≤ i ∨ ¬ checkI x.rels = 0)) : pthT x p i = pathR x p := by
  unfold pthT pathR
  rcases h with ⟨h, h0⟩ | ⟨rfl, h⟩
  · rw [okR_yes h0, List.take_of_length_le h]
  · by_cases h0 : checkI x.rels = 0
    · have : x.rels.length ≤ 0 := h.resolve_right (fun h2 => h2 h0)
      have : x.rels = [] := List.length_eq_zero_iff.1 (by omega)
      rw [okR_yes h0, this]; rfl
    · rw [okR_no h0]; simp
theorem pthT_len : (pthT x p i).length ≤ i := Nat.le_trans (List.length_filter_le _ _) (List.length_take_le _ _)
end
/-- Each path once, as they come. -/
def dd : Option Bytes → List Rls → List Bytes
  | _, [] => []
  | q, r :: t => (if q = some r.path then [] else [r.path]) ++ dd (some r.path) t
def lastP : Option Bytes → List Rls → Option Bytes
  | q, [] => q
  | _, r :: t => lastP (some r.path) t
theorem dd_snoc : ∀ (l : List Rls) (q : Option Bytes) (z : Rls), dd q (l ++ [z]) = dd q l ++ (if lastP q l = some z.path then [] else [z.path])
  | [], q, z => by
    show ((if q = some z.path then [] else [z.path]) ++ []) = [] ++ (if q = some z.path then [] else [z.path])
    rw [List.append_nil, List.nil_append]
  | r :: t, q, z => by
    simp only [List.cons_append, dd, lastP, dd_snoc t, List.append_assoc]
    congr 2
theorem lastP_snoc : ∀ (l : List Rls) (q : Option Bytes) (z : Rls), lastP q (l ++ [z]) = some z.path
  | [], q, z => rfl
  | r :: t, q, z => lastP_snoc t _ z
def pthS (x : Idx) (i : Nat) : List Bytes := dd none (x.rels.take i)
section
variable {x : Idx} {i : Nat} {z w : Rls}
theorem lastP_take (h0 : 0 < i) (hw : x.rels[i - 1]? = some w) : lastP none (x.rels.take i) = some w.path := by
  obtain ⟨j, rfl⟩ : ∃ j, i = j + 1 := ⟨i - 1, by omega⟩
  rw [take_succ (by simpa using hw), lastP_snoc]
theorem pthS_new (hn : x.rels[i]? = some z) (h : i = 0 ∨ ∃ w, 0 < i ∧ x.rels[i - 1]? = some w ∧ ¬ z.path = w.path) : pthS x (i + 1) = pthS x i ++ [z.path] := by
  unfold pthS
  rw [take_succ hn, dd_snoc]
  rcases h with rfl | ⟨w, h0, hw, hne⟩
  · simp [lastP]
  · rw [lastP_take h0 hw, if_neg (fun e => hne (by injection e with e; exact e.symm))]
theorem pthS_old (hn : x.rels[i]? = some z) (h0 : 0 < i) (hw : x.rels[i - 1]? = some w) (h : z.path = w.path) : pthS x (i + 1) = pthS x i := by
  unfold pthS
  rw [take_succ hn, dd_snoc, lastP_take h0 hw, if_pos (by rw [h])]; simp
theorem dd_len : ∀ (l : List Rls) (q : Option Bytes), (dd q l).length ≤ l.length
  | [], _ => Nat.le_refl _
  | r :: t, q => by
    have := dd_len t (some r.path)
    simp only [dd, List.length_append, List.length_cons]; split <;> simp <;> omega
theorem pthS_len : (pthS x i).length ≤ i := Nat.le_trans (dd_len _ _) (List.length_take_le _ _)
end
def pthA (x : Idx) : List Bytes := dd none (okR x)
theorem pthS_end {x : Idx} {i : Nat} (h : x.rels.length ≤ i ∧ checkI x.rels = 0 ∨ i = 0 ∧ (x.rels.length ≤ i ∨ ¬ checkI x.rels = 0)) : pthS x i = pthA x := by
  unfold pthS pthA
  rcases h with ⟨h, h0⟩ | ⟨rfl, h⟩
  · rw [okR_yes h0, List.take_of_length_le h]
  · by_cases h0 : checkI x.rels = 0
    · have : x.rels.length ≤ 0 := h.resolve_right (fun h2 => h2 h0)
      have : x.rels = [] := List.length_eq_zero_iff.1 (by omega)
      rw [okR_yes h0, this]; rfl
    · rw [okR_no h0]; simp
end Go.Pm

namespace Go.Pm
open Go.Proofs

set_option maxRecDepth 10000 in
theorem c36 (a b : List Ver) (ha : a.length < 4611686018427387904) (hb : b.length < 4611686018427387904) : Fn PR 36 [.d (.list (a.map Ver.d)), .d (.list (b.map Ver.d))] [] [.d (.bool (decide (a = b)))] [] := by
 refine fn_of_awp Tryz.func36 rfl (N := 26) rfl ?_
 refine xsr ?_
 refine las rfl rfl rfl rfl rfl ?_
 refine lendF ?_
 refine awp_seq ?_
 refine xsr ?_
 refine lmv rfl rfl rfl rfl rfl ?_
 refine xlz (o_lenE (n := a.length) rfl rfl rfl ty68 (by simp)) ?_
 refine lmv rfl rfl rfl rfl rfl ?_
 refine xlz (o_lenE (n := b.length) rfl rfl rfl ty68 (by simp)) ?_
 refine xlz (op_binI rfl rfl rfl rfl rfl (.inl rfl) rfl) ?_
 refine lendF ?_
 refine awp_cond rfl rfl (fun hc1 => ?_) (fun hc1 => ?_)
 ·
  have hl : ¬ a.length = b.length := by (have h := hc1); simp at h; omega
  refine xsr ?_
  refine las rfl rfl rfl rfl rfl ?_
  refine lendF ?_
  refine awp_ret ?_
  refine ⟨[_], ⟨rfl, trivial⟩, ?_⟩
  exact ent_d1 rfl (by rw [decide_eq_false (fun h => hl (by rw [h]))])
 ·
  have hl : a.length = b.length := by (have h := hc1); simp at h; omega
  refine awp_skip ?_
  refine awp_seq ?_
  refine xsr ?_
  refine lmv rfl rfl rfl rfl rfl ?_
  refine xlz (o_lenE (n := a.length) rfl rfl rfl ty68 (by simp)) ?_
  refine lmv rfl rfl rfl rfl rfl ?_
  refine lendF ?_
  refine awp_block ?_
  refine awp_loop (fun i => ⟨26, [(13, .d (I (i : Nat))), (0, .d (.list (a.map Ver.d))), (1, .d (.list (b.map Ver.d))), (12, .d (I a.length))], []⟩) (fun i => a.length - i) (fun i => i ≤ a.length ∧ decide (a.drop i = b.drop i) = decide (a = b)) 0 ?_ ?_ ?_
  ·
   exact ent_k [] rfl rfl ((by repeat (first | exact .nil | refine xkc ?_))) obs_nil rfl
  ·
   exact ⟨Nat.zero_le _, rfl⟩
  ·
   rintro i ⟨hi, hI⟩
   refine xsr ?_
   refine xlz (op_binI rfl rfl rfl rfl rfl (.inl rfl) rfl) ?_
   refine lendF ?_
   refine awp_seq ?_
   refine awp_cond rfl rfl (fun hc2 => ?_) (fun hc2 => ?_)
   ·
    obtain ⟨x, hn⟩ := rng_lt (l := a) (by simpa using hc2)
    have hlt := rng_le hn
    obtain ⟨y, hy⟩ : ∃ y, b[i]? = some y := ⟨_, List.getElem?_eq_getElem (by omega)⟩
    refine awp_skip ?_
    refine awp_seq ?_
    refine awp_block ?_
    refine xsr ?_
    refine lmv rfl rfl rfl rfl rfl ?_
    refine las rfl rfl rfl rfl rfl ?_
    refine lendF ?_
    refine xsr ?_
    iterate 2 refine lmv rfl rfl rfl rfl rfl ?_
    refine xlz (o_ixN (i) rfl rfl rfl rfl ty68 (by first | rfl | omega | (simp; done) | (simp; omega)) hn ty38) ?_
    refine xlz (op_loadCA rfl rfl rfl ty38 rfl (xlb rfl)) ?_
    iterate 2 refine lmv rfl rfl rfl rfl rfl ?_
    refine xlz (o_ixN (i) rfl rfl rfl rfl ty68 (by first | rfl | omega | (simp; done) | (simp; omega)) hy ty38) ?_
    refine xlz (op_loadCA rfl rfl rfl ty38 rfl (xlb rfl)) ?_
    refine xlz (op_eqlA rfl (.inr rfl) rfl rfl rfl rfl ty38 es38 rfl rfl eg38) ?_
    refine lend (fun _ => by kernel_rfl) ?_
    refine awp_cond rfl rfl (fun hc3 => ?_) (fun hc3 => ?_)
    ·
     have hne : ¬ x = y := by (have h := hc3); first | (rw [eqT_ver] at h; simpa using h) | (rw [eqDs_ver] at h; simpa using h)
     refine xsr ?_
     refine las rfl rfl rfl rfl rfl ?_
     refine lendF ?_
     refine awp_ret ?_
     refine ⟨[_], ⟨rfl, trivial⟩, ?_⟩
     exact ent_d1 rfl (by rw [← eqNo hn hy hI hne])
    ·
     have hxy : x = y := by (have h := hc3); first | (rw [eqT_ver] at h; simpa using h) | (rw [eqDs_ver] at h; simpa using h)
     refine awp_skip ?_
     refine awp_region mixed ?_
     refine xlz (o_add rfl rfl rfl rfl (by first | omega | (simp; omega) | (simp at *; omega))) ?_
     refine lmv rfl rfl rfl rfl rfl ?_
     refine lendF ?_
     refine ⟨i + 1, ?_, ?_, ?_⟩
     ·
      exact ⟨rng_le hn, eqI hn hy hI hxy⟩
     ·
      exact ent_k [] rfl rfl ((by repeat (first | exact .nil | refine xkc ?_))) obs_nil rfl
     ·
      omega
   ·
    obtain rfl := rng_ge (l := a) (by simpa using hc2) hi
    refine awp_exit ?_
    refine xsr ?_
    refine las rfl rfl rfl rfl rfl ?_
    refine lendF ?_
    refine awp_ret ?_
    refine ⟨[_], ⟨rfl, trivial⟩, ?_⟩
    exact ent_d1 rfl (by rw [← eqEnd hl hI])

set_option maxRecDepth 10000 in
theorem c39 (a b : List Bytes) (ha : a.length < 4611686018427387904) (hb : b.length < 4611686018427387904) : Fn PR 39 [.d (.list (a.map .str)), .d (.list (b.map .str))] [] [.d (.bool (decide (a = b)))] [] := by
 refine fn_of_awp Tryz.func39 rfl (N := 26) rfl ?_
 refine xsr ?_
 refine las rfl rfl rfl rfl rfl ?_
 refine lendF ?_
 refine awp_seq ?_
 refine xsr ?_
 refine lmv rfl rfl rfl rfl rfl ?_
 refine xlz (o_lenE (n := a.length) rfl rfl rfl ty71 (by simp)) ?_
 refine lmv rfl rfl rfl rfl rfl ?_
 refine xlz (o_lenE (n := b.length) rfl rfl rfl ty71 (by simp)) ?_
 refine xlz (op_binI rfl rfl rfl rfl rfl (.inl rfl) rfl) ?_
 refine lendF ?_
 refine awp_cond rfl rfl (fun hc1 => ?_) (fun hc1 => ?_)
 ·
  have hl : ¬ a.length = b.length := by (have h := hc1); simp at h; omega
  refine xsr ?_
  refine las rfl rfl rfl rfl rfl ?_
  refine lendF ?_
  refine awp_ret ?_
  refine ⟨[_], ⟨rfl, trivial⟩, ?_⟩
  exact ent_d1 rfl (by rw [decide_eq_false (fun h => hl (by rw [h]))])
 ·
  have hl : a.length = b.length := by (have h := hc1); simp at h; omega
  refine awp_skip ?_
  refine awp_seq ?_
  refine xsr ?_
  refine lmv rfl rfl rfl rfl rfl ?_
  refine xlz (o_lenE (n := a.length) rfl rfl rfl ty71 (by simp)) ?_
  refine lmv rfl rfl rfl rfl rfl ?_
  refine lendF ?_
  refine awp_block ?_
  refine awp_loop (fun i => ⟨26, [(13, .d (I (i : Nat))), (0, .d (.list (a.map .str))), (1, .d (.list (b.map .str))), (12, .d (I a.length))], []⟩) (fun i => a.length - i) (fun i => i ≤ a.length ∧ decide (a.drop i = b.drop i) = decide (a = b)) 0 ?_ ?_ ?_
  ·
   exact ent_k [] rfl rfl ((by repeat (first | exact .nil | refine xkc ?_))) obs_nil rfl
  ·
   exact ⟨Nat.zero_le _, rfl⟩
  ·
   rintro i ⟨hi, hI⟩
   refine xsr ?_
   refine xlz (op_binI rfl rfl rfl rfl rfl (.inl rfl) rfl) ?_
   refine lendF ?_
   refine awp_seq ?_
   refine awp_cond rfl rfl (fun hc2 => ?_) (fun hc2 => ?_)
   ·
    obtain ⟨x, hn⟩ := rng_lt (l := a) (by simpa using hc2)
    have hlt := rng_le hn
    obtain ⟨y, hy⟩ : ∃ y, b[i]? = some y := ⟨_, List.getElem?_eq_getElem (by omega)⟩
    refine awp_skip ?_
    refine awp_seq ?_
    refine awp_block ?_
    refine xsr ?_
    refine lmv rfl rfl rfl rfl rfl ?_
    refine las rfl rfl rfl rfl rfl ?_
    refine lendF ?_
    refine xsr ?_
    iterate 2 refine lmv rfl rfl rfl rfl rfl ?_
    refine xlz (o_ixN (i) rfl rfl rfl rfl ty71 (by first | rfl | omega | (simp; done) | (simp; omega)) hn ty9) ?_
    refine xlz (op_loadC1 rfl rfl rfl ty9 rfl rfl) ?_
    iterate 2 refine lmv rfl rfl rfl rfl rfl ?_
    refine xlz (o_ixN (i) rfl rfl rfl rfl ty71 (by first | rfl | omega | (simp; done) | (simp; omega)) hy ty9) ?_
    refine xlz (op_loadC1 rfl rfl rfl ty9 rfl rfl) ?_
    refine xlz (op_binS rfl rfl rfl rfl rfl (fun h => by first | cases h | (simp; omega)) rfl) ?_
    refine lend (fun _ => by kernel_rfl) ?_
    refine awp_cond rfl rfl (fun hc3 => ?_) (fun hc3 => ?_)
    ·
     have hne : ¬ x = y := by (have h := hc3); simpa using h
     refine xsr ?_
     refine las rfl rfl rfl rfl rfl ?_
     refine lendF ?_
     refine awp_ret ?_
     refine ⟨[_], ⟨rfl, trivial⟩, ?_⟩
     exact ent_d1 rfl (by rw [← eqNo hn hy hI hne])
    ·
     have hxy : x = y := by (have h := hc3); simpa using h
     refine awp_skip ?_
     refine awp_region mixed ?_
     refine xlz (o_add rfl rfl rfl rfl (by first | omega | (simp; omega) | (simp at *; omega))) ?_
     refine lmv rfl rfl rfl rfl rfl ?_
     refine lendF ?_
     refine ⟨i + 1, ?_, ?_, ?_⟩
     ·
      exact ⟨rng_le hn, eqI hn hy hI hxy⟩
     ·
      exact ent_k [] rfl rfl ((by repeat (first | exact .nil | refine xkc ?_))) obs_nil rfl
     ·
      omega
   ·
    obtain rfl := rng_ge (l := a) (by simpa using hc2) hi
    refine awp_exit ?_
    refine xsr ?_
    refine las rfl rfl rfl rfl rfl ?_
    refine lendF ?_
    refine awp_ret ?_
    refine ⟨[_], ⟨rfl, trivial⟩, ?_⟩
    exact ent_d1 rfl (by rw [← eqEnd hl hI])

set_option maxRecDepth 10000 in
set_option maxHeartbeats 2000000 in
theorem c38 (x : Idx) (hl : x.rels.length ≤ 1000000) (hr : ∀ r ∈ x.rels, r.Sm) (p : Bytes) : Fn PR 38 [.d x.d, .d (.str p)] [] [.d (.list ((pathR x p).map fun r => r.ver.d))] [] := by
 refine fn_of_awp Tryz.func38 rfl (N := 38) rfl ?_
 refine xsr ?_
 refine xlz (op_box rfl rfl (by decide) rfl rfl) ?_
 refine las rfl rfl rfl rfl rfl ?_
 refine lendF ?_
 refine xsr ?_
 refine xlz (o_bs rfl rfl rfl rfl rfl ty68 ty38 rfl rfl) ?_
 refine las rfl rfl rfl rfl rfl ?_
 refine lendF ?_
 refine awp_seq ?_
 refine xsr ?_
 refine las rfl rfl rfl rfl rfl ?_
 refine lendF ?_
 refine awp_block ?_
 refine awp_ent (ent_tail 5 500005 3 rfl rfl rfl (by decide)) ?_
 refine awp_loop (fun i => ⟨38, [(5, .tl ((pthT x p i).map (fun r => r.ver.d)) (some 500005)), (6, .d (I (i : Nat))), (1, .d (.str p)), (2, .ptr 2 0)], [(500005, .tail 3), (2, .cells [.d (relsD x.rels), .d (.list x.ifs)])]⟩) (fun i => x.rels.length - i) (fun i => i ≤ x.rels.length ∧ (¬ checkI x.rels = 0 → i = 0)) 0 ?_ ?_ ?_
 ·
  exact ent_k [] rfl rfl ((by repeat (first | exact .nil | refine xkc ?_))) (obs_cons rfl (o_eq rfl) (obs_cons rfl (o_eq rfl) obs_nil)) rfl
 ·
  exact ⟨Nat.zero_le _, fun _ => rfl⟩
 ·
  rintro i ⟨hi, hI⟩
  refine awp_seq ?_
  refine xsr ?_
  refine lmv rfl rfl rfl rfl rfl ?_
  refine xlz (op_fieldP rfl rfl rfl fl25_0) ?_
  refine xlz (op_load1 rfl rfl rfl rfl ty22 rfl rfl) ?_
  refine xlz (o_lenE (n := x.rels.length) rfl rfl rfl ty22 (by simp)) ?_
  refine xlz (op_binI rfl rfl rfl rfl rfl (.inl rfl) rfl) ?_
  refine lmv rfl rfl rfl rfl rfl ?_
  refine lsplit rfl (fun hg1 => ?_) (fun hg1 => ?_)
  ·
   obtain ⟨z, hn⟩ := rng_lt (l := x.rels) (by (have h := (g11 hg1)); simpa using h)
   have hlt := rng_le hn
   refine lg (o_ldA rfl rfl rfl rfl ty25 rfl (xlb rfl) rfl) rfl hg1 rfl rfl ?_
   refine lg (o_call (c49 x (by omega) hr) rfl rfl rfl ca49 rfl rfl) rfl hg1 rfl rfl ?_
   refine lg (op_binI rfl rfl rfl rfl rfl (.inl rfl) rfl) rfl hg1 rfl rfl ?_
   refine xlz (o_pT rfl rfl (g11 hg1) rfl rfl) ?_
   refine lendF ?_
   refine awp_cond rfl rfl (fun hc2 => ?_) (fun hc2 => ?_)
   ·
    have h0 : checkI x.rels = 0 := by (have h := hc2); simpa using h
    refine awp_skip ?_
    refine awp_seq ?_
    refine awp_block ?_
    refine xsr ?_
    refine xlz (op_fieldP rfl rfl rfl fl25_0) ?_
    refine xlz (op_load1 rfl rfl rfl rfl ty22 rfl rfl) ?_
    refine lmv rfl rfl rfl rfl rfl ?_
    refine xlz (o_ixN (i) rfl rfl rfl rfl ty22 (by first | rfl | omega | (simp; done) | (simp; omega)) hn ty40) ?_
    refine xlz (op_fieldC rfl rfl rfl fl40_0) ?_
    refine xlz (op_loadC1 rfl rfl rfl ty9 rfl rfl) ?_
    refine lmv rfl rfl rfl rfl rfl ?_
    refine xlz (op_binS rfl rfl rfl rfl rfl (fun h => by first | cases h | (simp; omega)) rfl) ?_
    refine lendF ?_
    refine awp_cond rfl rfl (fun hc3 => ?_) (fun hc3 => ?_)
    ·
     have hp : z.path = p := by (have h := hc3); simpa using h
     refine awp_region mixed ?_
     refine lmv rfl rfl rfl rfl rfl ?_
     refine xlz (op_fieldP rfl rfl rfl fl25_0) ?_
     refine xlz (op_load1 rfl rfl rfl rfl ty22 rfl rfl) ?_
     refine lmv rfl rfl rfl rfl rfl ?_
     refine xlz (o_ixN (i) rfl rfl rfl rfl ty22 (by first | rfl | omega | (simp; done) | (simp; omega)) hn ty40) ?_
     refine xlz (op_fieldC rfl rfl rfl fl40_1) ?_
     refine xlz (op_loadCA rfl rfl rfl ty38 rfl (xlb rfl)) ?_
     refine xlz (o_bs rfl rfl rfl rfl rfl ty68 ty38 rfl rfl) ?_
     refine xlz (o_app rfl rfl (by decide) rfl rfl rfl ty68 ty38 rfl (by decide) rfl (by intro d hd; obtain ⟨x, _, rfl⟩ := List.mem_map.1 hd; rfl) (by first | (simp [D.cells]; done) | (intro d hd; obtain ⟨x, _, rfl⟩ := List.mem_map.1 hd; rfl)) (by have := pthT_len (x := x) (p := p) (i := i); simp; omega) (by decide) (show _ = (pthT x p (i + 1)).map (fun r => r.ver.d) from by rw [pthT_yes hn hp]; simp; rfl)) ?_
     refine las rfl rfl rfl rfl rfl ?_
     refine lendF ?_
     refine awp_region mixed ?_
     refine lmv rfl rfl rfl rfl rfl ?_
     refine xlz (o_add rfl rfl rfl rfl (by first | omega | (simp; omega) | (simp at *; omega))) ?_
     refine las rfl rfl rfl rfl rfl ?_
     refine lendF ?_
     refine ⟨i + 1, ?_, ?_, ?_⟩
     ·
      exact ⟨hlt, fun h => absurd h0 h⟩
     ·
      exact ent_k [(500005, 36)] rfl rfl (.cons rfl (k_tl rfl (by simp)) <| .cons rfl (k_i (by simp)) <| by repeat (first | exact .nil | refine .cons rfl (by first | exact k_eq rfl | exact .data rfl) ?_)) (by repeat (first | exact obs_nil | refine obs_cons rfl (o_eq rfl) ?_)) rfl
     ·
      omega
    ·
     have hp : ¬ z.path = p := by (have h := hc3); simpa using h
     refine awp_skip ?_
     refine awp_region mixed ?_
     refine lmv rfl rfl rfl rfl rfl ?_
     refine xlz (o_add rfl rfl rfl rfl (by first | omega | (simp; omega) | (simp at *; omega))) ?_
     refine las rfl rfl rfl rfl rfl ?_
     refine lendF ?_
     refine ⟨i + 1, ?_, ?_, ?_⟩
     ·
      exact ⟨hlt, fun h => absurd h0 h⟩
     ·
      exact ent_k [] rfl rfl (.cons rfl (k_tl rfl (by rw [pthT_no hn hp])) <| .cons rfl (k_i (by simp)) <| by repeat (first | exact .nil | refine .cons rfl (by first | exact k_eq rfl | exact .data rfl) ?_)) (by repeat (first | exact obs_nil | refine obs_cons rfl (o_eq rfl) ?_)) rfl
     ·
      omega
   ·
    have hend : x.rels.length ≤ i ∧ checkI x.rels = 0 ∨ i = 0 ∧ (x.rels.length ≤ i ∨ ¬ checkI x.rels = 0) := by (have h := hc2); have h2 : ¬ checkI x.rels = 0 := (by simpa using h); exact .inr ⟨hI h2, .inr h2⟩
    refine awp_exit ?_
    refine xsr ?_
    refine lmv rfl rfl rfl rfl rfl ?_
    refine las rfl rfl rfl rfl rfl ?_
    refine lendF ?_
    refine awp_ret ?_
    refine ⟨[_], ⟨rfl, trivial⟩, ?_⟩
    exact ent_d1 rfl (by rw [pthT_end hend])
  ·
   have hge : x.rels.length ≤ i := by (have h := (g10 hg1)); simp at h; omega
   have hend : x.rels.length ≤ i ∧ checkI x.rels = 0 ∨ i = 0 ∧ (x.rels.length ≤ i ∨ ¬ checkI x.rels = 0) := by (rcases Decidable.em (checkI x.rels = 0) with h0 | h0); (exact .inl ⟨hge, h0⟩); (exact .inr ⟨hI h0, .inl hge⟩)
   iterate 3 refine lskip rfl hg1 rfl ?_
   refine xlz (o_pF rfl rfl (g10 hg1) rfl rfl) ?_
   refine lendF ?_
   refine awp_condF rfl rfl rfl ?_
   refine awp_exit ?_
   refine xsr ?_
   refine lmv rfl rfl rfl rfl rfl ?_
   refine las rfl rfl rfl rfl rfl ?_
   refine lendF ?_
   refine awp_ret ?_
   refine ⟨[_], ⟨rfl, trivial⟩, ?_⟩
   exact ent_d1 rfl (by rw [pthT_end hend])

set_option maxRecDepth 10000 in
set_option maxHeartbeats 2000000 in
theorem c44 (x : Idx) (hl : x.rels.length ≤ 1000000) (hr : ∀ r ∈ x.rels, r.Sm) (p : Bytes) : Fn PR 44 [.d x.d, .d (.str p)] [] [.d (setD (canonS (avS (pathR x p))))] [] := by
 refine fn_of_awp Tryz.func44 rfl (N := 48) rfl ?_
 refine xsr ?_
 refine xlz (op_box rfl rfl (by decide) rfl rfl) ?_
 refine las rfl rfl rfl rfl rfl ?_
 refine lendF ?_
 refine xsr ?_
 refine xlz (o_bs rfl rfl rfl rfl rfl ty49 ty78 rfl rfl) ?_
 refine las rfl rfl rfl rfl rfl ?_
 refine lendF ?_
 refine awp_seq ?_
 refine xsr ?_
 refine las rfl rfl rfl rfl rfl ?_
 refine lendF ?_
 refine awp_block ?_
 refine awp_ent (ent_tail 5 500005 2 rfl rfl rfl (by decide)) ?_
 refine awp_loop (fun i => ⟨48, [(5, .tl ((avS (pthT x p i)).map Span.d) (some 500005)), (6, .d (I (i : Nat))), (1, .d (.str p)), (2, .ptr 2 0)], [(500005, .tail 2), (2, .cells [.d (relsD x.rels), .d (.list x.ifs)])]⟩) (fun i => x.rels.length - i) (fun i => i ≤ x.rels.length ∧ (¬ checkI x.rels = 0 → i = 0)) 0 ?_ ?_ ?_
 ·
  exact ent_k [] rfl rfl ((by repeat (first | exact .nil | refine xkc ?_))) (obs_cons rfl (o_eq rfl) (obs_cons rfl (o_eq rfl) obs_nil)) rfl
 ·
  exact ⟨Nat.zero_le _, fun _ => rfl⟩
 ·
  rintro i ⟨hi, hI⟩
  refine awp_seq ?_
  refine xsr ?_
  refine lmv rfl rfl rfl rfl rfl ?_
  refine xlz (op_fieldP rfl rfl rfl fl25_0) ?_
  refine xlz (op_load1 rfl rfl rfl rfl ty22 rfl rfl) ?_
  refine xlz (o_lenE (n := x.rels.length) rfl rfl rfl ty22 (by simp)) ?_
  refine xlz (op_binI rfl rfl rfl rfl rfl (.inl rfl) rfl) ?_
  refine lmv rfl rfl rfl rfl rfl ?_
  refine lsplit rfl (fun hg1 => ?_) (fun hg1 => ?_)
  ·
   obtain ⟨z, hn⟩ := rng_lt (l := x.rels) (by (have h := (g11 hg1)); simpa using h)
   have hlt := rng_le hn
   refine lg (o_ldA rfl rfl rfl rfl ty25 rfl (xlb rfl) rfl) rfl hg1 rfl rfl ?_
   refine lg (o_call (c49 x (by omega) hr) rfl rfl rfl ca49 rfl rfl) rfl hg1 rfl rfl ?_
   refine lg (op_binI rfl rfl rfl rfl rfl (.inl rfl) rfl) rfl hg1 rfl rfl ?_
   refine xlz (o_pT rfl rfl (g11 hg1) rfl rfl) ?_
   refine lendF ?_
   refine awp_cond rfl rfl (fun hc2 => ?_) (fun hc2 => ?_)
   ·
    have h0 : checkI x.rels = 0 := by (have h := hc2); simpa using h
    have hvo := checkI_ver h0 z (List.mem_of_getElem? hn)
    have hpb := place_bounds hvo
    refine awp_skip ?_
    refine awp_seq ?_
    refine awp_block ?_
    refine xsr ?_
    refine xlz (op_fieldP rfl rfl rfl fl25_0) ?_
    refine xlz (op_load1 rfl rfl rfl rfl ty22 rfl rfl) ?_
    refine lmv rfl rfl rfl rfl rfl ?_
    refine xlz (o_ixN (i) rfl rfl rfl rfl ty22 (by first | rfl | omega | (simp; done) | (simp; omega)) hn ty40) ?_
    refine xlz (op_loadCA rfl rfl rfl ty40 rfl (xlb rfl)) ?_
    refine xlz (op_alloc rfl rfl (by decide) ty40 zk40 rfl) ?_
    refine xlz (op_store rfl rfl rfl rfl rfl rfl ty40 rfl (xlb rfl)) ?_
    refine lendF ?_
    refine xsr ?_
    refine xlz (op_fieldP rfl rfl rfl fl40_0) ?_
    refine xlz (op_load1 rfl rfl rfl rfl ty9 rfl rfl) ?_
    refine lmv rfl rfl rfl rfl rfl ?_
    refine xlz (op_binS rfl rfl rfl rfl rfl (fun h => by first | cases h | (simp; omega)) rfl) ?_
    refine lmv rfl rfl rfl rfl rfl ?_
    refine lsplit rfl (fun hg3 => ?_) (fun hg3 => ?_)
    ·
     have hp : z.path = p := by (have h := (g11 hg3)); simpa using h
     refine lg (op_fieldP rfl rfl rfl fl40_6) rfl hg3 rfl rfl ?_
     refine lg (op_load1 rfl rfl rfl rfl ty4 rfl rfl) rfl hg3 rfl rfl ?_
     refine lg (op_not rfl rfl rfl) rfl hg3 rfl rfl ?_
     refine xlz (o_pT rfl rfl (g11 hg3) rfl rfl) ?_
     refine lendF ?_
     refine awp_cond rfl rfl (fun hc4 => ?_) (fun hc4 => ?_)
     ·
      have hy : z.yank = false := by (have h := hc4); simpa using h
      have hadd : avS (pthT x p (i + 1)) = avS (pthT x p i) ++ [⟨(placeOf z.ver).1, (placeOf z.ver).1 + 1⟩] := by rw [pthT_yes hn hp, avS_yes hy]
      refine awp_region mixed ?_
      refine lmv rfl rfl rfl rfl rfl ?_
      refine xlz (op_fieldP rfl rfl rfl fl40_1) ?_
      refine xlz (o_ldA rfl rfl rfl rfl ty38 rfl (xlb rfl) rfl) ?_
      refine xlz (o_call (c87 z.ver hvo) rfl rfl rfl ca87 rfl rfl) ?_
      refine xlz (op_fieldP rfl rfl rfl fl40_1) ?_
      refine xlz (o_ldA rfl rfl rfl rfl ty38 rfl (xlb rfl) rfl) ?_
      refine xlz (o_call (c87 z.ver hvo) rfl rfl rfl ca87 rfl rfl) ?_
      refine xlz (o_add rfl rfl rfl rfl (by first | omega | (simp; omega) | (simp at *; omega))) ?_
      refine xlz (o_bld rfl rfl rfl bl78 ty78 zk78 rfl rfl rfl) ?_
      refine xlz (o_bs rfl rfl rfl rfl rfl ty49 ty78 rfl rfl) ?_
      refine xlz (o_app rfl rfl (by decide) rfl rfl rfl ty49 ty78 rfl (by decide) rfl (by intro d hd; obtain ⟨x, _, rfl⟩ := List.mem_map.1 hd; rfl) (by first | (simp [D.cells]; done) | (intro d hd; obtain ⟨x, _, rfl⟩ := List.mem_map.1 hd; rfl)) (by have := avS_len (pthT x p i); have := pthT_len (x := x) (p := p) (i := i); simp; omega) (by decide) (show _ = (avS (pthT x p (i + 1))).map Span.d from by rw [hadd]; simp)) ?_
      refine las rfl rfl rfl rfl rfl ?_
      refine lend (fun _ => by kernel_rfl) ?_
      refine awp_region mixed ?_
      refine lmv rfl rfl rfl rfl rfl ?_
      refine xlz (o_add rfl rfl rfl rfl (by first | omega | (simp; omega) | (simp at *; omega))) ?_
      refine las rfl rfl rfl rfl rfl ?_
      refine lendF ?_
      refine ⟨i + 1, ?_, ?_, ?_⟩
      ·
       exact ⟨hlt, fun h => absurd h0 h⟩
      ·
       exact ent_k [(500005, 45)] rfl rfl (.cons rfl (k_tl rfl (by simp)) <| .cons rfl (k_i (by simp)) <| by repeat (first | exact .nil | refine .cons rfl (by first | exact k_eq rfl | exact .data rfl) ?_)) (by repeat (first | exact obs_nil | refine obs_cons rfl (o_eq rfl) ?_)) rfl
      ·
       omega
     ·
      have hy : z.yank = true := by (have h := hc4); simpa using h
      have hsame : avS (pthT x p (i + 1)) = avS (pthT x p i) := by rw [pthT_yes hn hp, avS_no hy]
      refine awp_skip ?_
      refine awp_region mixed ?_
      refine lmv rfl rfl rfl rfl rfl ?_
      refine xlz (o_add rfl rfl rfl rfl (by first | omega | (simp; omega) | (simp at *; omega))) ?_
      refine las rfl rfl rfl rfl rfl ?_
      refine lendF ?_
      refine ⟨i + 1, ?_, ?_, ?_⟩
      ·
       exact ⟨hlt, fun h => absurd h0 h⟩
      ·
       exact ent_k [] rfl rfl (.cons rfl (k_tl rfl (by rw [hsame])) <| .cons rfl (k_i (by simp)) <| by repeat (first | exact .nil | refine .cons rfl (by first | exact k_eq rfl | exact .data rfl) ?_)) (by repeat (first | exact obs_nil | refine obs_cons rfl (o_eq rfl) ?_)) rfl
      ·
       omega
    ·
     have hp : ¬ z.path = p := by (have h := (g10 hg3)); simpa using h
     have hsame : avS (pthT x p (i + 1)) = avS (pthT x p i) := by rw [pthT_no hn hp]
     iterate 3 refine lskip rfl hg3 rfl ?_
     refine xlz (o_pF rfl rfl (g10 hg3) rfl rfl) ?_
     refine lendF ?_
     refine awp_condF rfl rfl rfl ?_
     refine awp_skip ?_
     refine awp_region mixed ?_
     refine lmv rfl rfl rfl rfl rfl ?_
     refine xlz (o_add rfl rfl rfl rfl (by first | omega | (simp; omega) | (simp at *; omega))) ?_
     refine las rfl rfl rfl rfl rfl ?_
     refine lendF ?_
     refine ⟨i + 1, ?_, ?_, ?_⟩
     ·
      exact ⟨hlt, fun h => absurd h0 h⟩
     ·
      exact ent_k [] rfl rfl (.cons rfl (k_tl rfl (by rw [hsame])) <| .cons rfl (k_i (by simp)) <| by repeat (first | exact .nil | refine .cons rfl (by first | exact k_eq rfl | exact .data rfl) ?_)) (by repeat (first | exact obs_nil | refine obs_cons rfl (o_eq rfl) ?_)) rfl
     ·
      omega
   ·
    have hend : x.rels.length ≤ i ∧ checkI x.rels = 0 ∨ i = 0 ∧ (x.rels.length ≤ i ∨ ¬ checkI x.rels = 0) := by (have h := hc2); have h2 : ¬ checkI x.rels = 0 := (by simpa using h); exact .inr ⟨hI h2, .inr h2⟩
    refine awp_exit ?_
    refine xsr ?_
    refine xlz (o_mvD rfl rfl rfl rfl) ?_
    refine xlz (o_call (c88 (avS (pthT x p i)) (by have := avS_len (pthT x p i); have := pthT_len (x := x) (p := p) (i := i); omega)) rfl rfl rfl ca88 rfl rfl) ?_
    refine las rfl rfl rfl rfl rfl ?_
    refine lendF ?_
    refine awp_ret ?_
    refine ⟨[_], ⟨rfl, trivial⟩, ?_⟩
    exact ent_d1 rfl (by rw [pthT_end hend])
  ·
   have hge : x.rels.length ≤ i := by (have h := (g10 hg1)); simp at h; omega
   have hend : x.rels.length ≤ i ∧ checkI x.rels = 0 ∨ i = 0 ∧ (x.rels.length ≤ i ∨ ¬ checkI x.rels = 0) := by (rcases Decidable.em (checkI x.rels = 0) with h0 | h0); (exact .inl ⟨hge, h0⟩); (exact .inr ⟨hI h0, .inl hge⟩)
   iterate 3 refine lskip rfl hg1 rfl ?_
   refine xlz (o_pF rfl rfl (g10 hg1) rfl rfl) ?_
   refine lendF ?_
   refine awp_condF rfl rfl rfl ?_
   refine awp_exit ?_
   refine xsr ?_
   refine xlz (o_mvD rfl rfl rfl rfl) ?_
   refine xlz (o_call (c88 (avS (pthT x p i)) (by have := avS_len (pthT x p i); have := pthT_len (x := x) (p := p) (i := i); omega)) rfl rfl rfl ca88 rfl rfl) ?_
   refine las rfl rfl rfl rfl rfl ?_
   refine lendF ?_
   refine awp_ret ?_
   refine ⟨[_], ⟨rfl, trivial⟩, ?_⟩
   exact ent_d1 rfl (by rw [pthT_end hend])

set_option maxRecDepth 10000 in
set_option maxHeartbeats 2000000 in
theorem c41 (x : Idx) (hl : x.rels.length ≤ 1000000) (hr : ∀ r ∈ x.rels, r.Sm) : Fn PR 41 [.d x.d] [] [.d (.list ((pthA x).map .str))] [] := by
 refine fn_of_awp Tryz.func41 rfl (N := 46) rfl ?_
 refine xsr ?_
 refine xlz (op_box rfl rfl (by decide) rfl rfl) ?_
 refine las rfl rfl rfl rfl rfl ?_
 refine lendF ?_
 refine xsr ?_
 refine xlz (o_bs rfl rfl rfl rfl rfl ty71 ty9 rfl rfl) ?_
 refine las rfl rfl rfl rfl rfl ?_
 refine lendF ?_
 refine awp_seq ?_
 refine xsr ?_
 refine las rfl rfl rfl rfl rfl ?_
 refine lendF ?_
 refine awp_block ?_
 refine awp_ent (ent_tail 3 500003 1 rfl rfl rfl (by decide)) ?_
 refine awp_loop (fun i => ⟨46, [(3, .tl ((pthS x i).map .str) (some 500003)), (4, .d (I (i : Nat))), (1, .ptr 1 0)], [(500003, .tail 1), (1, .cells [.d (relsD x.rels), .d (.list x.ifs)])]⟩) (fun i => x.rels.length - i) (fun i => i ≤ x.rels.length ∧ (¬ checkI x.rels = 0 → i = 0)) 0 ?_ ?_ ?_
 ·
  exact ent_k [] rfl rfl ((by repeat (first | exact .nil | refine xkc ?_))) (obs_cons rfl (o_eq rfl) (obs_cons rfl (o_eq rfl) obs_nil)) rfl
 ·
  exact ⟨Nat.zero_le _, fun _ => rfl⟩
 ·
  rintro i ⟨hi, hI⟩
  refine awp_seq ?_
  refine xsr ?_
  refine lmv rfl rfl rfl rfl rfl ?_
  refine xlz (op_fieldP rfl rfl rfl fl25_0) ?_
  refine xlz (op_load1 rfl rfl rfl rfl ty22 rfl rfl) ?_
  refine xlz (o_lenE (n := x.rels.length) rfl rfl rfl ty22 (by simp)) ?_
  refine xlz (op_binI rfl rfl rfl rfl rfl (.inl rfl) rfl) ?_
  refine lmv rfl rfl rfl rfl rfl ?_
  refine lsplit rfl (fun hg1 => ?_) (fun hg1 => ?_)
  ·
   obtain ⟨z, hn⟩ := rng_lt (l := x.rels) (by (have h := (g11 hg1)); simpa using h)
   have hlt := rng_le hn
   refine lg (o_ldA rfl rfl rfl rfl ty25 rfl (xlb rfl) rfl) rfl hg1 rfl rfl ?_
   refine lg (o_call (c49 x (by omega) hr) rfl rfl rfl ca49 rfl rfl) rfl hg1 rfl rfl ?_
   refine lg (op_binI rfl rfl rfl rfl rfl (.inl rfl) rfl) rfl hg1 rfl rfl ?_
   refine xlz (o_pT rfl rfl (g11 hg1) rfl rfl) ?_
   refine lendF ?_
   refine awp_cond rfl rfl (fun hc2 => ?_) (fun hc2 => ?_)
   ·
    have h0 : checkI x.rels = 0 := by (have h := hc2); simpa using h
    refine awp_skip ?_
    refine awp_seq ?_
    refine awp_block ?_
    refine xsr ?_
    refine lmv rfl rfl rfl rfl rfl ?_
    refine xlz (op_binI rfl rfl rfl rfl rfl (.inl rfl) rfl) ?_
    refine lmv rfl rfl rfl rfl rfl ?_
    refine lsplit rfl (fun hg3 => ?_) (fun hg3 => ?_)
    ·
     have hi0 : 0 < i := by (have h := (g01 hg3)); simp at h; omega
     obtain ⟨w, hw⟩ := get_pred hn
     refine lg (op_fieldP rfl rfl rfl fl25_0) rfl hg3 rfl rfl ?_
     refine lg (op_load1 rfl rfl rfl rfl ty22 rfl rfl) rfl hg3 rfl rfl ?_
     refine gmv hg3 rfl rfl rfl rfl rfl ?_
     refine lg (o_ixN (i) rfl rfl rfl rfl ty22 (by first | rfl | omega | (simp; done) | (simp; omega)) hn ty40) rfl hg3 rfl rfl ?_
     refine lg (op_fieldC rfl rfl rfl fl40_0) rfl hg3 rfl rfl ?_
     refine lg (op_loadC1 rfl rfl rfl ty9 rfl rfl) rfl hg3 rfl rfl ?_
     refine lg (op_fieldP rfl rfl rfl fl25_0) rfl hg3 rfl rfl ?_
     refine lg (op_load1 rfl rfl rfl rfl ty22 rfl rfl) rfl hg3 rfl rfl ?_
     refine gmv hg3 rfl rfl rfl rfl rfl ?_
     refine lg (o_sub rfl rfl rfl rfl (by first | omega | (simp; omega) | (simp at *; omega))) rfl hg3 rfl rfl ?_
     refine lg (o_ixN ((i - 1)) rfl rfl rfl rfl ty22 (by first | rfl | omega | (simp; done) | (simp; omega)) hw ty40) rfl hg3 rfl rfl ?_
     refine lg (op_fieldC rfl rfl rfl fl40_0) rfl hg3 rfl rfl ?_
     refine lg (op_loadC1 rfl rfl rfl ty9 rfl rfl) rfl hg3 rfl rfl ?_
     refine lg (op_binS rfl rfl rfl rfl rfl (fun h => by first | cases h | (simp; omega)) rfl) rfl hg3 rfl rfl ?_
     refine xlz (o_pF rfl rfl (g01 hg3) rfl rfl) ?_
     refine lend (fun _ => by kernel_rfl) ?_
     refine awp_cond rfl rfl (fun hc4 => ?_) (fun hc4 => ?_)
     ·
      have hne : ¬ z.path = w.path := by (have h := hc4); simpa using h
      have hnw : i = 0 ∨ ∃ w, 0 < i ∧ x.rels[i - 1]? = some w ∧ ¬ z.path = w.path := .inr ⟨w, hi0, hw, hne⟩
      refine awp_region mixed ?_
      refine lmv rfl rfl rfl rfl rfl ?_
      refine xlz (op_fieldP rfl rfl rfl fl25_0) ?_
      refine xlz (op_load1 rfl rfl rfl rfl ty22 rfl rfl) ?_
      refine lmv rfl rfl rfl rfl rfl ?_
      refine xlz (o_ixN (i) rfl rfl rfl rfl ty22 (by first | rfl | omega | (simp; done) | (simp; omega)) hn ty40) ?_
      refine xlz (op_fieldC rfl rfl rfl fl40_0) ?_
      refine xlz (op_loadC1 rfl rfl rfl ty9 rfl rfl) ?_
      refine xlz (o_bs rfl rfl rfl rfl rfl ty71 ty9 rfl rfl) ?_
      refine xlz (o_app rfl rfl (by decide) rfl rfl rfl ty71 ty9 rfl (by decide) rfl (by intro d hd; obtain ⟨x, _, rfl⟩ := List.mem_map.1 hd; rfl) (by first | (simp [D.cells]; done) | (intro d hd; obtain ⟨x, _, rfl⟩ := List.mem_map.1 hd; rfl)) (by have := pthS_len (x := x) (i := i); simp; omega) (by decide) (show _ = (pthS x (i + 1)).map D.str from by rw [pthS_new hn hnw]; simp)) ?_
      refine las rfl rfl rfl rfl rfl ?_
      refine lendF ?_
      refine awp_region mixed ?_
      refine lmv rfl rfl rfl rfl rfl ?_
      refine xlz (o_add rfl rfl rfl rfl (by first | omega | (simp; omega) | (simp at *; omega))) ?_
      refine las rfl rfl rfl rfl rfl ?_
      refine lendF ?_
      refine ⟨i + 1, ?_, ?_, ?_⟩
      ·
       exact ⟨hlt, fun h => absurd h0 h⟩
      ·
       exact ent_k [(500003, 44)] rfl rfl (.cons rfl (k_tl rfl (by simp)) <| .cons rfl (k_i (by simp)) <| by repeat (first | exact .nil | refine .cons rfl (by first | exact k_eq rfl | exact .data rfl) ?_)) (by repeat (first | exact obs_nil | refine obs_cons rfl (o_eq rfl) ?_)) rfl
      ·
       omega
     ·
      have heq : z.path = w.path := by (have h := hc4); simpa using h
      refine awp_skip ?_
      refine awp_region mixed ?_
      refine lmv rfl rfl rfl rfl rfl ?_
      refine xlz (o_add rfl rfl rfl rfl (by first | omega | (simp; omega) | (simp at *; omega))) ?_
      refine las rfl rfl rfl rfl rfl ?_
      refine lendF ?_
      refine ⟨i + 1, ?_, ?_, ?_⟩
      ·
       exact ⟨hlt, fun h => absurd h0 h⟩
      ·
       exact ent_k [] rfl rfl (.cons rfl (k_tl rfl (by rw [pthS_old hn hi0 hw heq])) <| .cons rfl (k_i (by simp)) <| by repeat (first | exact .nil | refine .cons rfl (by first | exact k_eq rfl | exact .data rfl) ?_)) (by repeat (first | exact obs_nil | refine obs_cons rfl (o_eq rfl) ?_)) rfl
      ·
       omega
    ·
     have hi0 : i = 0 := by (have h := (g00 hg3)); simp at h; omega
     have hnw : i = 0 ∨ ∃ w, 0 < i ∧ x.rels[i - 1]? = some w ∧ ¬ z.path = w.path := .inl hi0
     iterate 14 refine lskip rfl hg3 rfl ?_
     refine xlz (o_pT rfl rfl (g00 hg3) rfl rfl) ?_
     refine lend (fun _ => by kernel_rfl) ?_
     refine awp_condT rfl rfl rfl ?_
     refine awp_region mixed ?_
     refine lmv rfl rfl rfl rfl rfl ?_
     refine xlz (op_fieldP rfl rfl rfl fl25_0) ?_
     refine xlz (op_load1 rfl rfl rfl rfl ty22 rfl rfl) ?_
     refine lmv rfl rfl rfl rfl rfl ?_
     refine xlz (o_ixN (i) rfl rfl rfl rfl ty22 (by first | rfl | omega | (simp; done) | (simp; omega)) hn ty40) ?_
     refine xlz (op_fieldC rfl rfl rfl fl40_0) ?_
     refine xlz (op_loadC1 rfl rfl rfl ty9 rfl rfl) ?_
     refine xlz (o_bs rfl rfl rfl rfl rfl ty71 ty9 rfl rfl) ?_
     refine xlz (o_app rfl rfl (by decide) rfl rfl rfl ty71 ty9 rfl (by decide) rfl (by intro d hd; obtain ⟨x, _, rfl⟩ := List.mem_map.1 hd; rfl) (by first | (simp [D.cells]; done) | (intro d hd; obtain ⟨x, _, rfl⟩ := List.mem_map.1 hd; rfl)) (by have := pthS_len (x := x) (i := i); simp; omega) (by decide) (show _ = (pthS x (i + 1)).map D.str from by rw [pthS_new hn hnw]; simp)) ?_
     refine las rfl rfl rfl rfl rfl ?_
     refine lendF ?_
     refine awp_region mixed ?_
     refine lmv rfl rfl rfl rfl rfl ?_
     refine xlz (o_add rfl rfl rfl rfl (by first | omega | (simp; omega) | (simp at *; omega))) ?_
     refine las rfl rfl rfl rfl rfl ?_
     refine lendF ?_
     refine ⟨i + 1, ?_, ?_, ?_⟩
     ·
      exact ⟨hlt, fun h => absurd h0 h⟩
     ·
      exact ent_k [(500003, 44)] rfl rfl (.cons rfl (k_tl rfl (by simp)) <| .cons rfl (k_i (by simp)) <| by repeat (first | exact .nil | refine .cons rfl (by first | exact k_eq rfl | exact .data rfl) ?_)) (by repeat (first | exact obs_nil | refine obs_cons rfl (o_eq rfl) ?_)) rfl
     ·
      omega
   ·
    have hend : x.rels.length ≤ i ∧ checkI x.rels = 0 ∨ i = 0 ∧ (x.rels.length ≤ i ∨ ¬ checkI x.rels = 0) := by (have h := hc2); have h2 : ¬ checkI x.rels = 0 := (by simpa using h); exact .inr ⟨hI h2, .inr h2⟩
    refine awp_exit ?_
    refine xsr ?_
    refine lmv rfl rfl rfl rfl rfl ?_
    refine las rfl rfl rfl rfl rfl ?_
    refine lendF ?_
    refine awp_ret ?_
    refine ⟨[_], ⟨rfl, trivial⟩, ?_⟩
    exact ent_d1 rfl (by rw [pthS_end hend])
  ·
   have hge : x.rels.length ≤ i := by (have h := (g10 hg1)); simp at h; omega
   have hend : x.rels.length ≤ i ∧ checkI x.rels = 0 ∨ i = 0 ∧ (x.rels.length ≤ i ∨ ¬ checkI x.rels = 0) := by (rcases Decidable.em (checkI x.rels = 0) with h0 | h0); (exact .inl ⟨hge, h0⟩); (exact .inr ⟨hI h0, .inl hge⟩)
   iterate 3 refine lskip rfl hg1 rfl ?_
   refine xlz (o_pF rfl rfl (g10 hg1) rfl rfl) ?_
   refine lendF ?_
   refine awp_condF rfl rfl rfl ?_
   refine awp_exit ?_
   refine xsr ?_
   refine lmv rfl rfl rfl rfl rfl ?_
   refine las rfl rfl rfl rfl rfl ?_
   refine lendF ?_
   refine awp_ret ?_
   refine ⟨[_], ⟨rfl, trivial⟩, ?_⟩
   exact ent_d1 rfl (by rw [pthS_end hend])

end Go.Pm

namespace Go.Proofs
open Go.Shelf Go.RowKit Go.Lib Go.Sort
def Tryz.srtStr_ren : Go.Shelf.Ren := ⟨fun | 190 => 85 | 125 => 117 | 258 => 116 | 128 => 146 | 129 => 147 | 302 => 137 | 303 => 138 | 304 => 139 | 305 => 140 | 306 => 141 | 307 => 142 | 308 => 143 | 309 => 144 | 310 => 145 | 333 => 159 | 329 => 160 | 330 => 161 | 334 => 162 | 335 => 163 | 336 => 135 | 344 => 181 | n => n, fun | 31 => 71 | 9 => 9 | 3 => 3 | 46 => 156 | 0 => 0 | 51 => 180 | 53 => 136 | 4 => 4 | 183 => 173 | 182 => 172 | 131 => 162 | 5 => 5 | 218 => 189 | 222 => 193 | 228 => 201 | 229 => 202 | n => n, fun | n => n⟩
theorem Tryz.srtStr : Go.Proofs.Lays.n190 Tryz.prog Tryz.srtStr_ren := {
  mixed := by kernel_rfl
  f125 := Tryz.func117.trans (congrArg some (by kernel_rfl))
  f128 := Tryz.func146.trans (congrArg some (by kernel_rfl))
  f129 := Tryz.func147.trans (congrArg some (by kernel_rfl))
  f190 := Tryz.func85.trans (congrArg some (by kernel_rfl))
  f258 := Tryz.func116.trans (congrArg some (by kernel_rfl))
  f302 := Tryz.func137.trans (congrArg some (by kernel_rfl))
  f303 := Tryz.func138.trans (congrArg some (by kernel_rfl))
  f304 := Tryz.func139.trans (congrArg some (by kernel_rfl))
  f305 := Tryz.func140.trans (congrArg some (by kernel_rfl))
  f306 := Tryz.func141.trans (congrArg some (by kernel_rfl))
  f307 := Tryz.func142.trans (congrArg some (by kernel_rfl))
  f308 := Tryz.func143.trans (congrArg some (by kernel_rfl))
  f309 := Tryz.func144.trans (congrArg some (by kernel_rfl))
  f310 := Tryz.func145.trans (congrArg some (by kernel_rfl))
  f329 := Tryz.func160.trans (congrArg some (by kernel_rfl))
  f330 := Tryz.func161.trans (congrArg some (by kernel_rfl))
  f333 := Tryz.func159.trans (congrArg some (by kernel_rfl))
  f334 := Tryz.func162.trans (congrArg some (by kernel_rfl))
  f335 := Tryz.func163.trans (congrArg some (by kernel_rfl))
  f336 := Tryz.func135.trans (congrArg some (by kernel_rfl))
  f344 := Tryz.func181.trans (congrArg some (by kernel_rfl))
  t0 := Tryz.underlying0
  a0 := Tryz.isAgg0
  z0 := Tryz.sizeOf0
  v0 := Tryz.zeroValue0
  t3 := Tryz.underlying3
  a3 := Tryz.isAgg3
  z3 := Tryz.sizeOf3
  v3 := Tryz.zeroValue3
  t4 := Tryz.underlying4
  a4 := Tryz.isAgg4
  z4 := Tryz.sizeOf4
  v4 := Tryz.zeroValue4
  t5 := Tryz.underlying5
  a5 := Tryz.isAgg5
  z5 := Tryz.sizeOf5
  v5 := Tryz.zeroValue5
  t9 := Tryz.underlying9
  a9 := Tryz.isAgg9
  z9 := Tryz.sizeOf9
  v9 := Tryz.zeroValue9
  t31 := Tryz.underlying71
  a31 := Tryz.isAgg71
  z31 := Tryz.sizeOf71
  v31 := Tryz.zeroValue71
  t46 := Tryz.underlying156
  a46 := Tryz.isAgg156
  z46 := Tryz.sizeOf156
  v46 := Tryz.zeroValue156
  t51 := Tryz.underlying180
  a51 := Tryz.isAgg180
  z51 := Tryz.sizeOf180
  v51 := Tryz.zeroValue180
  t53 := Tryz.underlying136
  a53 := Tryz.isAgg136
  z53 := Tryz.sizeOf136
  v53 := Tryz.zeroValue136
  t131 := Tryz.underlying162
  a131 := Tryz.isAgg162
  z131 := Tryz.sizeOf162
  v131 := Tryz.zeroValue162
  t182 := Tryz.underlying172
  a182 := Tryz.isAgg172
  z182 := Tryz.sizeOf172
  v182 := Tryz.zeroValue172
  t183 := Tryz.underlying173
  a183 := Tryz.isAgg173
  z183 := Tryz.sizeOf173
  v183 := Tryz.zeroValue173
  t218 := Tryz.underlying189
  a218 := Tryz.isAgg189
  z218 := Tryz.sizeOf189
  v218 := Tryz.zeroValue189
  t222 := Tryz.underlying193
  a222 := Tryz.isAgg193
  z222 := Tryz.sizeOf193
  v222 := Tryz.zeroValue193
  t228 := Tryz.underlying201
  a228 := Tryz.isAgg201
  z228 := Tryz.sizeOf201
  v228 := Tryz.zeroValue201
  t229 := Tryz.underlying202
  a229 := Tryz.isAgg202
  z229 := Tryz.sizeOf202
  v229 := Tryz.zeroValue202
}
end Go.Proofs

namespace Go.Proofs
open Go.Shelf Go.RowKit Go.Lib Go.Sort
/-- In the order of their bytes. -/
def srtB (l : List (List UInt8)) : List (List UInt8) := l.mergeSort fun x y => decide (x ≤ y)
theorem srtB_len (l : List (List UInt8)) : (srtB l).length = l.length := List.length_mergeSort _
theorem srtB_perm (l : List (List UInt8)) : (srtB l).Perm l := List.mergeSort_perm _ _

theorem rel_noargsS {E : Go.Pm.Env} {g : Go.Pm.Gh} {args : List Go.Pm.PV} {cargs : Array Value} {O : List (Nat × Go.Pm.Ob)} {w : World} (hr : Go.Pm.Rel E g (Go.Pm.St.of args O) ⟨cargs, []⟩ w) : Go.Pm.Rel E g (Go.Pm.St.of [] O) ⟨#[], []⟩ w :=
  ⟨rfl, rfl, fun i p hi => by rw [Go.Pm.of_sl] at hi; simp at hi, fun x ob hx => hr.objs x ob hx, fun x y ob ob' b hx hy => hr.inj x y ob ob' b hx hy, fun x ob b hx => hr.own x ob b hx, hr.fr, hr.av, hr.keep⟩

theorem c85 (l : List (List UInt8)) (h : l.length < 4611686018427387904) : Go.Pm.Fn Go.Pm.PR 85 [.arr 1000000 1 0 (l.map Go.Pm.D.str).length] [(1000000, .arr 1 (l.map Go.Pm.D.str))] [] [(1000000, .arr 1 ((srtB l).map Go.Pm.D.str))] := by
  rw [List.length_map]
  intro E g cargs hr
  obtain ⟨v0, a0, b0⟩ := hr.slots 0 _ rfl
  have hs : cargs.size = 1 := hr.size
  have hcv : cargs = #[v0] := by
    match cargs, hs, a0 with
    | ⟨[p0]⟩, _, a0 => simp at a0; rw [a0]
  subst hcv
  have ho := hr.objs 1000000 _ (show (Go.Pm.St.of _ [(1000000, Go.Pm.Ob.arr 1 (l.map Go.Pm.D.str))]).ob 1000000 = some _ from rfl)
  by_cases hl : l.length = 0
  · have hnil : l = [] := List.eq_nil_of_length_eq_zero hl
    subst hnil
    obtain ⟨av, cap, rfl⟩ := Go.Pm.vrel_arrl b0
    have hc := Any.slices_Sort_string_none Tryz.srtStr av cap E.w0
    refine hc.mono ?_
    rintro e w' ⟨rfl, rfl⟩
    have hp : srtB [] = [] := List.eq_nil_of_length_eq_zero (by rw [srtB_len]; rfl)
    rw [hp]
    exact ⟨g, #[], rfl, rel_noargsS hr⟩
  · obtain ⟨b, cap, rfl, hφ, hcp⟩ := Go.Pm.vrel_arr b0 (by omega)
    obtain ⟨b', vs, elem, hφ', hb, hsz, hds, hone, hcell, hτ⟩ := Go.Pm.orel_arr ho (by simp; omega)
    rw [hφ] at hφ'; injection hφ' with hφ'; subst hφ'
    have hbs : b < E.w0.heap.size := (hr.own 1000000 _ b (show (Go.Pm.St.of _ [(1000000, Go.Pm.Ob.arr 1 (l.map Go.Pm.D.str))]).ob 1000000 = some _ from rfl) hφ).2
    have hH : Holds encStr E.w0 b 0 l.toArray := by
      intro t ht
      have hti : t < l.length := by simpa using ht
      have hx := List.getElem?_eq_getElem hti
      obtain ⟨u, e1, e2⟩ := hcell t (.str l[t]) (by rw [List.getElem?_map, hx]; rfl) 0 (.str l[t]) rfl
      have hu : u = encStr l[t] := by cases e2; rfl
      rw [Nat.mul_one, Nat.add_zero] at e1
      refine ⟨?_, ?_⟩
      · simp only [World.cell?, hb, Nat.zero_add]
        rw [e1, hu]; simp [getElem!_def, hx]
      · simp [World.frozen?, hb]
    have hc := Any.slices_Sort_string Tryz.srtStr b 0 cap l E.w0 hH hbs h
    rw [Nat.zero_mul] at *
    refine Calls.mono hc ?_
    rintro e w' ⟨rfl, n, os, rfl⟩
    have hlen := srtB_len l
    have hvs : l.length ≤ vs.size := by simpa using hsz
    change ∃ _, _
    have hheap : (grow (putRow encStr (Sort.ahead E.w0 n) b 0 (srtB l).toArray) os).heap = E.w0.heap.modify b (onCells (putCells encStr 0 (srtB l).toArray)) ++ os := rfl
    refine ⟨g, #[], rfl, Go.Pm.rel_row (sz := 1) (vs := vs) (vs' := putCells encStr 0 (srtB l).toArray vs) (elem := elem) hr hφ hb ?_ ?_ ?_ ?_ rfl rfl rfl (fun k hk hkb => ?_) (fun d hd => ?_) (fun d hd x hx => ?_) (fun i d hi j y hj => ?_)⟩
    · show (grow (putRow encStr (Sort.ahead E.w0 n) b 0 (srtB l).toArray) os).heap[b]? = _
      rw [hheap, Array.getElem?_append_left (by simpa using hbs), Array.getElem?_modify, if_pos rfl, hb]; rfl
    · simp [putCells]
    · simp [putCells, hlen]; exact hvs
    · show _ ≤ (grow (putRow encStr (Sort.ahead E.w0 n) b 0 (srtB l).toArray) os).heap.size
      rw [hheap]; simp
    · show (grow (putRow encStr (Sort.ahead E.w0 n) b 0 (srtB l).toArray) os).heap[k]? = _
      rw [hheap, Array.getElem?_append_left (by simpa using hk), Array.getElem?_modify, if_neg (Ne.symm hkb)]
    · obtain ⟨x, _, rfl⟩ := List.mem_map.1 hd; rfl
    · obtain ⟨z, _, rfl⟩ := List.mem_map.1 hd
      simp [Go.Pm.D.cells] at hx
      rw [hx]; rfl
    · rw [List.getElem?_map] at hi
      obtain ⟨z, hz, rfl⟩ := Option.map_eq_some_iff.1 hi
      obtain ⟨rfl, rfl⟩ : j = 0 ∧ y = .str z := by
        cases j with
        | zero => simp [Go.Pm.D.cells] at hj; exact ⟨rfl, hj.symm⟩
        | succ j => simp [Go.Pm.D.cells] at hj
      have hil := (List.getElem?_eq_some_iff.1 hz).1
      refine ⟨encStr z, ?_, fun M => .str z⟩
      have hlt : i < vs.size := by omega
      simp only [putCells, Nat.mul_one, Nat.add_zero, Array.getElem?_mapIdx, Array.getElem?_eq_getElem hlt, Option.map_some, Nat.zero_le, true_and, Nat.zero_add, Nat.sub_zero]
      rw [if_pos (by simpa using hil)]
      simp [getElem!_def, hz]
end Go.Proofs

namespace Go.Pm
open Go.Proofs
theorem le_bl (x y : Bytes) : decide (x ≤ y) = !Op.bytesLess y x := by
  rw [bytesLess_eq]
  show decide (¬ y < x) = _
  by_cases h : y < x <;> simp [h]
theorem gstep_keys (G : Grp) (c : Option (Bytes × List Rls)) (z : Rls) : ((gstep (G, c) z).1 ++ (gstep (G, c) z).2.toList).map (·.1) = (G ++ c.toList).map (·.1) ++ (if c.map (·.1) = some z.path then [] else [z.path]) ∧ (gstep (G, c) z).2.map (·.1) = some z.path := by
  cases c with
  | none => simp [gstep]
  | some e =>
    by_cases h : e.1 = z.path
    · simp [gstep, h]
    · simp [gstep, h]
theorem gfold_keys : ∀ (l : List Rls), (grpOf l).map (·.1) = dd none l ∧ (gfold l).2.map (·.1) = lastP none l := by
  intro l
  have key : ∀ i, i ≤ l.length → (grpOf (l.take i)).map (·.1) = dd none (l.take i) ∧ (gfold (l.take i)).2.map (·.1) = lastP none (l.take i) := by
    intro i
    induction i with
    | zero => intro _; exact ⟨rfl, rfl⟩
    | succ i ih =>
      intro h
      obtain ⟨h1, h2⟩ := ih (by omega)
      have hn : l[i]? = some l[i] := List.getElem?_eq_getElem (by omega)
      rw [take_succ hn, dd_snoc, lastP_snoc]
      unfold grpOf at h1 ⊢
      rw [gfold_snoc]
      obtain ⟨k1, k2⟩ := gstep_keys (gfold (l.take i)).1 (gfold (l.take i)).2 l[i]
      refine ⟨?_, k2⟩
      rw [← h1, ← h2]
      exact k1
  have := key l.length (Nat.le_refl _)
  rwa [List.take_length] at this
theorem dd_gt : ∀ (l : List Rls) (p : Bytes), l.Pairwise (fun a b => cmpR a b < 0) → (∀ r ∈ l, p = r.path ∨ Op.bytesLess p r.path = true) → ∀ y ∈ dd (some p) l, Op.bytesLess p y = true
  | [], p, _, _, y, hy => by cases hy
  | r :: t, p, hs, hp, y, hy => by
    obtain ⟨h1, h2⟩ := List.pairwise_cons.1 hs
    have ht : ∀ z ∈ t, r.path = z.path ∨ Op.bytesLess r.path z.path = true := fun z hz => by
      rcases cmpR_neg.1 (h1 z hz) with h | h
      · exact .inr h
      · exact .inl h.1
    have ih := dd_gt t r.path h2 ht
    simp only [dd, List.mem_append] at hy
    rcases hp r List.mem_cons_self with e | e
    · rcases hy with hy | hy
      · rw [if_pos (by rw [e])] at hy; cases hy
      · rw [e]; exact ih y hy
    · rcases hy with hy | hy
      · split at hy
        · cases hy
        · simp at hy; rw [hy]; exact e
      · exact bytesLess_trans _ _ _ e (ih y hy)
theorem dd_sorted : ∀ (l : List Rls) (q : Option Bytes), l.Pairwise (fun a b => cmpR a b < 0) → (dd q l).Pairwise fun a b => Op.bytesLess a b = true
  | [], q, _ => List.Pairwise.nil
  | r :: t, q, hs => by
    obtain ⟨h1, h2⟩ := List.pairwise_cons.1 hs
    have ht : ∀ z ∈ t, r.path = z.path ∨ Op.bytesLess r.path z.path = true := fun z hz => by
      rcases cmpR_neg.1 (h1 z hz) with h | h
      · exact .inr h
      · exact .inl h.1
    simp only [dd]
    split
    · exact dd_sorted t _ h2
    · exact List.pairwise_cons.2 ⟨dd_gt t r.path h2 ht, dd_sorted t _ h2⟩
theorem srt_paths {x : Idx} {d : List Bytes} (h : d.Perm ((grpOf (okR x)).map (·.1))) : srtB d = pthA x := by
  have hp : (srtB d).Perm (pthA x) := by
    rw [(gfold_keys (okR x)).1] at h
    exact (srtB_perm d).trans h
  have htot : ∀ a b : Bytes, (decide (a ≤ b) || decide (b ≤ a)) = true := fun a b => by
    rw [le_bl, le_bl]
    cases hb : Op.bytesLess b a
    · rfl
    · rw [bytesLess_asymm _ _ hb]; rfl
  have htr : ∀ a b c : Bytes, decide (a ≤ b) = true → decide (b ≤ c) = true → decide (a ≤ c) = true := fun a b c h1 h2 => by
    rw [le_bl] at *
    simp only [Bool.not_eq_true'] at *
    cases hc : Op.bytesLess c a
    · rfl
    · by_cases e : c = b
      · subst e; rw [h1] at hc; cases hc
      · have h3 := bytesLess_total c b h2 e
        have h4 := bytesLess_trans _ _ _ h3 hc
        rw [h1] at h4; cases h4
  refine List.Perm.eq_of_pairwise (le := fun a b => decide (a ≤ b) = true) (fun a b _ _ h1 h2 => ?_) (List.pairwise_mergeSort htr htot d) ?_ hp
  · rw [le_bl] at h1 h2
    simp only [Bool.not_eq_true'] at h1 h2
    apply Classical.byContradiction
    intro hne
    rw [bytesLess_total a b h2 hne] at h1; cases h1
  · refine (dd_sorted (okR x) none (okR_sorted x)).imp fun {a b} hab => ?_
    rw [le_bl, bytesLess_asymm _ _ hab]; rfl
theorem pthA_len (x : Idx) : (pthA x).length ≤ x.rels.length := Nat.le_trans (dd_len _ _) (by unfold okR; split <;> simp)
end Go.Pm

namespace Go.Pm
open Go.ChangeMaps (setBlock)

/-- A state stands in another frame, another world, under other names, where what it tells of is the same. -/
theorem Rel.shift {E E1 : Env} {g g1 : Gh} {s : St} {a : Act} {w w1 : World} (h : Rel E g s a w) (X : Nat) (hX : Fresh s X) (hav : E1.av = E.av)
    (hg : ∀ y, y ≠ X → g1.φ y = g.φ y ∧ g1.τ y = g.τ y) (hs : Same (MM E g s) w w1)
    (hblk : ∀ x ob b, s.ob x = some ob → g.φ x = some b → w1.heap[b]? = w.heap[b]?) (hsz : w.heap.size ≤ w1.heap.size)
    (hown : ∀ x ob b, s.ob x = some ob → g.φ x = some b → E1.B ≤ b ∨ E1.imp b) (hfr : Frm E1 w1)
    (hav2 : ∀ b o, E1.av b o → b < E1.B ∧ ¬ E1.imp b) (hk : ∀ x, 1000000 ≤ x → g1.φ x = E1.g0.φ x ∧ g1.τ x = E1.g0.τ x) : Rel E1 g1 s a w1 := by
  have hob : ∀ x ob, s.ob x = some ob → x ≠ X := by rintro x ob hx rfl; rw [hX.ob] at hx; cases hx
  have hM : ∀ b o, MM E1 g1 s b o → MM E g s b o := by
    rintro b o (hm | ⟨x, ob, hx, hm⟩)
    · exact .inl (by rw [← hav]; exact hm)
    · refine .inr ⟨x, ob, hx, ?_⟩
      have hq := hg x (hob x ob hx)
      cases ob <;> simp only [mutAt, hq.1, hq.2] at hm ⊢ <;> exact hm
  have hG : ∀ y, y ≠ X → g1.φ y = g.φ y := fun y hy => (hg y hy).1
  refine ⟨h.size, h.defers, fun i p hi => ?_, fun x ob hx => ?_, fun x y ob ob' b hx hy h1 h2 => ?_, fun x ob b hx hb => ?_, hfr, hav2, hk⟩
  · obtain ⟨v, h1, h2⟩ := h.slots i p hi
    exact ⟨v, h1, h2.move hs (fun b o _ hm => hM b o hm) fun y hy => hg y (by rintro rfl; rw [hX.slots i p hi] at hy; cases hy)⟩
  · exact (h.objs x ob hx).move hs (fun b o _ hm => hM b o hm) (fun z hz => hg z (by rintro rfl; rw [hX.objs x ob hx] at hz; cases hz)) (hg x (hob x ob hx)) (fun b hb => hblk x ob b hx hb)
  · rw [hG x (hob x ob hx)] at h1
    rw [hG y (hob y ob' hy)] at h2
    exact h.inj x y ob ob' b hx hy h1 h2
  · rw [hG x (hob x ob hx)] at hb
    exact ⟨hown x ob b hx hb, Nat.lt_of_lt_of_le (h.own x ob b hx hb).2 hsz⟩

/-- Another block, which no object names, turns or is new. -/
theorem Rel.other {E : Env} {g : Gh} {s : St} {a : Act} {w w1 : World} (h : Rel E g s a w) {X : Nat} (hX : Fresh s X) {r : Nat} (hb : ∀ b, b < w.heap.size → b ≠ r → w1.heap[b]? = w.heap[b]?) (hsz : w.heap.size ≤ w1.heap.size)
    (hr : ∀ o, w.cell? ⟨r, o, none⟩ = none) (hE : E.B ≤ r) (hun : ∀ x ob, s.ob x = some ob → g.φ x ≠ some r) (hos : w1.os = w.os) (ht : w1.tape = w.tape) (hp : w1.output = w.output) : Rel E g s a w1 := by
  have hcell : ∀ b o u, w.cell? ⟨b, o, none⟩ = some u → w1.cell? ⟨b, o, none⟩ = some u := by
    intro b o u hu
    have hbr : b ≠ r := by rintro rfl; rw [hr o] at hu; cases hu
    have hbl : b < w.heap.size := by
      apply Classical.byContradiction
      intro hn
      have : w.heap[b]? = none := Array.getElem?_eq_none (by omega)
      simp [World.cell?, this] at hu
    simp only [World.cell?] at hu ⊢
    rw [hb b hbl hbr]; exact hu
  refine h.shift X hX rfl (fun _ _ => ⟨rfl, rfl⟩) (fun b o u hu _ => hcell b o u hu) (fun x ob b hx hbx => hb b (h.own x ob b hx hbx).2 (by rintro rfl; exact hun x ob hx hbx)) hsz (fun x ob b hx hbx => (h.own x ob b hx hbx).1) ?_ h.av h.keep
  refine ⟨Nat.le_trans h.fr.size hsz, hos.trans h.fr.os, ht.trans h.fr.tape, hp.trans h.fr.output, fun k hk hi => ?_, h.fr.gok⟩
  rw [hb k (Nat.lt_of_lt_of_le hk h.fr.size) (by omega)]
  exact h.fr.block k hk hi

/-- The frame that begins here: the objects in hand may turn, all else stays. -/
def reE (E : Env) (g : Gh) (s : St) (w : World) (X r : Nat) : Env := ⟨w, fun b => ∃ x ob, s.ob x = some ob ∧ g.φ x = some b, E.av, g.put X (some r) none⟩

section
variable {E : Env} {g : Gh} {s : St} {a : Act} {w : World} {X r : Nat}
theorem reE_in (h : Rel E g s a w) (hX : Fresh s X) : Rel (reE E g s w X r) (g.put X (some r) none) s a w := by
  refine h.shift X hX rfl (fun y hy => by simp [Gh.put, hy]) (Same.refl _ _) (fun _ _ _ _ _ => rfl) (Nat.le_refl _) (fun x ob b hx hb => .inr ⟨x, ob, hx, hb⟩) ?_ ?_ (fun x hx => ⟨rfl, rfl⟩)
  · refine ⟨Nat.le_refl _, rfl, rfl, rfl, fun _ _ _ => rfl, fun e he => ?_⟩
    obtain ⟨h1, h2, h3, ob, h4, h5⟩ := h.fr.gok e he
    refine ⟨Nat.lt_of_lt_of_le h1 h.fr.size, ?_, h3, ob, (h.fr.block e.1 h1 h2).trans h4, h5⟩
    rintro ⟨x, ob, hx, hb⟩
    rcases (h.own x ob _ hx hb).1 with h6 | h6
    · exact absurd h6 (Nat.not_le.2 h1)
    · exact h2 h6
  · intro b o hb
    obtain ⟨h1, h2⟩ := h.av b o hb
    refine ⟨Nat.lt_of_lt_of_le h1 h.fr.size, ?_⟩
    rintro ⟨x, ob, hx, hφ⟩
    rcases (h.own x ob _ hx hφ).1 with h6 | h6
    · exact absurd h6 (Nat.not_le.2 h1)
    · exact h2 h6

theorem reE_out (h : Rel E g s a w) {g' : Gh} {s' : St} {a' : Act} {w' : World} (h' : Rel (reE E g s w X r) g' s' a' w') (hX6 : 1000000 ≤ X) (hX : Fresh s' X) : Rel E (g'.put X (E.g0.φ X) (E.g0.τ X)) s' a' w' := by
  have hown : ∀ b, (∃ x ob, s.ob x = some ob ∧ g.φ x = some b) → E.B ≤ b ∨ E.imp b := fun b ⟨x, ob, hx, hb⟩ => (h.own x ob b hx hb).1
  refine h'.shift X hX rfl (fun y hy => by simp [Gh.put, hy]) (Same.refl _ _) (fun _ _ _ _ _ => rfl) (Nat.le_refl _) (fun x ob b hx hb => ?_) ?_ h.av (fun x hx => ?_)
  · rcases (h'.own x ob b hx hb).1 with h1 | h1
    · exact .inl (Nat.le_trans h.fr.size h1)
    · exact hown b h1
  · refine ⟨Nat.le_trans h.fr.size h'.fr.size, h'.fr.os.trans h.fr.os, h'.fr.tape.trans h.fr.tape, h'.fr.output.trans h.fr.output, fun k hk hi => ?_, h.fr.gok⟩
    rw [h'.fr.block k (Nat.lt_of_lt_of_le hk h.fr.size) (fun hh => by
      rcases hown k hh with h1 | h1
      · exact absurd h1 (Nat.not_le.2 hk)
      · exact hi h1)]
    exact h.fr.block k hk hi
  · by_cases hxX : x = X
    · subst hxX; simp [Gh.put]
    · simp only [Gh.put, if_neg hxX]
      have h1 := h'.keep x hx
      have h2 := h.keep x hx
      simp only [reE, Gh.put, if_neg hxX] at h1
      exact ⟨h1.1.trans h2.1, h1.2.trans h2.2⟩
end

theorem lex_pre {P : Program} {ops : Array Oper} {draw : Bool} {s0 : St} {E : Env} {Q : Exit → Act → World → Prop} {K : St → Prop} {rest : List Oper} (hK : ∀ s a w g, K s → Rel E g s a w → wpList P ops Q rest a w) :
    ∀ (l : List Oper) (s : St) (es : List Eff) (a : Act) (w : World) (g : Gh), Lex P ops draw s0 l s es K → Rel E g s a w → wpList P ops Q (l ++ rest) a w
  | [], s, es, a, w, g, h, hr => hK s a w g h.2 hr
  | o :: l, s, es, a, w, g, h, hr => by
    obtain ⟨e, hst, hf, hl⟩ := h
    refine wpList_step fun K' hK' => ?_
    exact hst.2 s ⟨rfl, fun _ _ => rfl⟩ (fun _ _ => rfl) (fun x hx => fresh_of (List.all_eq_true.1 hf x hx)) E g a w hr K' Q (fun a' w' g' hr' => hK' _ _ (lex_pre hK l _ _ a' w' g' hl hr'))

def strV (s : Bytes) : Value := .string ⟨s.toArray⟩
def unV : Value → Bytes
  | .string s => s.data.toList
  | _ => []
theorem unV_str (s : Bytes) : unV (strV s) = s := by simp [unV, strV]

/-- An iterator under way. -/
structure MIt (E : Env) (g : Gh) (s : St) (a : Act) (w : World) (ti r b : Nat) (ents : Array MapEntry) (clock : Nat) (fs : List MapEntry) : Prop where
  tmp : a.tmps[ti]? = some (.pointer (some ⟨r, 0, none⟩))
  it : w.heap[r]? = some (.mapIter (some b) clock (fs.map (·.born)).toArray clock)
  mp : w.heap[b]? = some (.map ents clock)
  un : ∀ x ob, s.ob x = some ob → g.φ x ≠ some r ∧ g.φ x ≠ some b
  hr : E.B ≤ r
  ne : r ≠ b
  nd : (fs.map (·.born)).Nodup
  sub : ∀ f ∈ fs, f ∈ ents.toList

theorem born_inj' {l : List MapEntry} (h : (l.map (·.born)).Nodup) {x y : MapEntry} (hx : x ∈ l) (hy : y ∈ l) (e : x.born = y.born) : x = y := by
  induction l with
  | nil => cases hx
  | cons z t ih =>
    rw [List.map_cons, List.nodup_cons] at h
    rcases List.mem_cons.1 hx with e1 | h1
    · rcases List.mem_cons.1 hy with e2 | h2
      · rw [e1, e2]
      · exact (h.1 (List.mem_map.2 ⟨y, h2, by rw [← e, e1]⟩)).elim
    · rcases List.mem_cons.1 hy with e2 | h2
      · exact (h.1 (List.mem_map.2 ⟨x, h1, by rw [e, e2]⟩)).elim
      · exact ih h.2 h1 h2

theorem nodup_of_born {l : List MapEntry} (h : (l.map (·.born)).Nodup) : l.Nodup := by
  induction l with
  | nil => exact List.nodup_nil
  | cons z t ih =>
    rw [List.map_cons, List.nodup_cons] at h
    exact List.nodup_cons.2 ⟨fun hz => h.1 (List.mem_map.2 ⟨z, hz, rfl⟩), ih h.2⟩

theorem len_of_sub {α : Type} [DecidableEq α] : ∀ {l m : List α}, l.Nodup → (∀ x ∈ l, x ∈ m) → l.length ≤ m.length
  | [], m, _, _ => Nat.zero_le _
  | a :: t, m, h, hs => by
    obtain ⟨h1, h2⟩ := List.nodup_cons.1 h
    have ha := hs a List.mem_cons_self
    have := len_of_sub (l := t) (m := m.erase a) h2 fun x hx => (List.mem_erase_of_ne (by rintro rfl; exact h1 hx)).2 (hs x (List.mem_cons_of_mem _ hx))
    have hl := List.length_erase_of_mem ha
    have hp := List.length_pos_of_mem ha
    simp only [List.length_cons]; omega
theorem visited_all {ents : Array MapEntry} {clock : Nat} {fs : List MapEntry} (hst : Stmp ents clock) (nd : (fs.map (·.born)).Nodup) (sub : ∀ f ∈ fs, f ∈ ents.toList) (h : (leftOf ents (fs.map (·.born)).toArray).size = 0) : fs.Perm ents.toList := by
  refine (List.perm_ext_iff_of_nodup (nodup_of_born nd) (nodup_of_born hst.1)).2 fun e => ⟨sub e, fun he => ?_⟩
  have h1 := all_seen ents _ h e he
  have h2 : e.born ∈ fs.map (·.born) := by simpa using h1
  obtain ⟨f, hf, hb⟩ := List.mem_map.1 h2
  rw [← born_inj' hst.1 (sub f hf) he hb]; exact hf

/-- What the loop is to be shown to do: begun at a fresh iterator. -/
def MLoop (P : Program) (c : Code) (Q : Exit → St → Prop) (ti N : Nat) (ks : List Bytes) (s : St) : Prop :=
  ∀ E g a w r b ents clock, Rel E g s a w → Stmp ents clock → ents.toList.map (·.key) = ks.map strV → MIt E g s a w ti r b ents clock [] → c.wp P (fun x a' w' => ∃ s' g', Q x s' ∧ Rel E g' s' a' w') a w

theorem keys_of {E : Env} {g : Gh} {M : Nat → Nat → Prop} {w : World} {ents : Array MapEntry} {dm : List (D × D)} {ks : List Bytes} (hk : dm.map (·.1) = ks.map D.str) (hl : ents.size = (ments dm []).length)
    (h : ∀ (j : Nat) (k : D) (p : PV), (ments dm [])[j]? = some (k, p) → ∃ e, ents[j]? = some e ∧ Den M w k e.key ∧ VRel g M w p e.val) : ents.toList.map (·.key) = ks.map strV := by
  have hm : ments dm [] = dm.map (fun e => (e.1, PV.d e.2)) := by simp [ments]
  rw [hm] at hl h
  have hlen : dm.length = ks.length := by have := congrArg List.length hk; simpa using this
  apply List.ext_getElem?
  intro i
  by_cases hi : i < dm.length
  · have hdi := List.getElem?_eq_getElem hi
    obtain ⟨e, h1, h2, _⟩ := h i dm[i].1 _ (by rw [List.getElem?_map, hdi]; rfl)
    have hki : (ks.map D.str)[i]? = some dm[i].1 := by rw [← hk, List.getElem?_map, hdi]; rfl
    rw [List.getElem?_map] at hki
    obtain ⟨z, hz, hzd⟩ := Option.map_eq_some_iff.1 hki
    rw [← hzd] at h2
    rw [List.getElem?_map, List.getElem?_map, hz, Array.getElem?_toList, h1]
    have hv : e.key = strV z := by generalize e.key = v at h2; cases h2; rfl
    simp [hv]
  · rw [List.getElem?_eq_none (by simp at hl ⊢; omega), List.getElem?_eq_none (by simp; omega)]

theorem cell_none {w : World} {r : Nat} {o : Obj} (h : w.heap[r]? = none ∨ w.heap[r]? = some o ∧ (∀ c e q, o ≠ .cells c e q)) (k : Nat) : w.cell? ⟨r, k, none⟩ = none := by
  rcases h with h | ⟨h, ho⟩
  · simp [World.cell?, h]
  · simp only [World.cell?, h]
    cases o <;> first | rfl | exact absurd rfl (ho _ _ _)

theorem Rel.slotsLe {E : Env} {g : Gh} {n : Nat} {l l' : List (Nat × PV)} {O : List (Nat × Ob)} {a : Act} {w : World} (h : Rel E g ⟨n, l, O⟩ a w) (hl : ∀ i p, lookS l' i = some p → p = .undef ∧ i < n ∨ lookS l i = some p) : Rel E g ⟨n, l', O⟩ a w := by
  refine ⟨h.size, h.defers, fun i p hi => ?_, h.objs, h.inj, h.own, h.fr, h.av, h.keep⟩
  rcases hl i p hi with ⟨rfl, hin⟩ | h1
  · exact ⟨a.tmps[i]'(by rw [h.size]; exact hin), by rw [Array.getElem?_eq_getElem], .undef _⟩
  · exact h.slots i p h1


theorem val_put (s : St) (t : Nat) (p : PV) : (s.put (some t) p).val (.tmp t) = p := by
  show (lookS ((t, p) :: s.slots) t).getD _ = p
  simp [lookS]
theorem Fresh.put {s : St} {X : Nat} (h : Fresh s X) (t : Nat) {p : PV} (hp : p.has X = false) : Fresh (s.put (some t) p) X := by
  refine ⟨fun i q hi => ?_, h.ob, h.objs⟩
  have hi' : lookS ((t, p) :: s.slots) i = some q := hi
  simp only [lookS] at hi'
  split at hi'
  · injection hi' with hi'; subst hi'; exact hp
  · exact h.slots i q hi'
theorem eval_put {a : Act} {t : Nat} {v : Value} (h : t < a.tmps.size) : (a.put (some t) v).eval (.tmp t) = v := by
  rw [Act.eval_tmp]
  show ((a.tmps.setIfInBounds t v)[t]?).getD undef = v
  rw [Array.getElem?_setIfInBounds_self_of_lt h]; rfl
theorem tmps_put_ne {a : Act} {t i : Nat} {v : Value} (h : i ≠ t) : (a.put (some t) v).tmps[i]? = a.tmps[i]? := by
  show (a.tmps.setIfInBounds t v)[i]? = _
  rw [Array.getElem?_setIfInBounds_ne (Ne.symm h)]
theorem Rel.tell {E : Env} {g : Gh} {s : St} {a : Act} {w : World} (h : Rel E g s a w) {i : Nat} {p : PV} {v : Value} (hv : a.tmps[i]? = some v) (hp : VRel g (MM E g s) w p v) : Rel E g ⟨s.n, (i, p) :: s.slots, s.objs⟩ a w := by
  refine ⟨h.size, h.defers, fun j q hj => ?_, h.objs, h.inj, h.own, h.fr, h.av, h.keep⟩
  have hj' : lookS ((i, p) :: s.slots) j = some q := hj
  simp only [lookS] at hj'
  by_cases hij : i = j
  · subst hij
    rw [if_pos rfl] at hj'; injection hj' with hj'; subst hj'
    exact ⟨v, hv, hp⟩
  · rw [if_neg hij] at hj'; exact h.slots j q hj'

/-- What lies aside of the objects stays through code that knows nothing of it. -/
theorem reE_keep {E : Env} {g : Gh} {s : St} {a : Act} {w : World} {X r : Nat} (h : Rel E g s a w) {g' : Gh} {s' : St} {a' : Act} {w' : World} (h' : Rel (reE E g s w X r) g' s' a' w') (hX : Fresh s' X) {k : Nat} (hk : k < w.heap.size) (hun : ∀ x ob, s.ob x = some ob → g.φ x ≠ some k) :
    w'.heap[k]? = w.heap[k]? ∧ ∀ x ob, s'.ob x = some ob → (g'.put X (E.g0.φ X) (E.g0.τ X)).φ x ≠ some k := by
  refine ⟨h'.fr.block k hk (fun ⟨x, ob, hx, hb⟩ => hun x ob hx hb), fun x ob hx hb => ?_⟩
  have hxX : x ≠ X := by rintro rfl; rw [hX.ob] at hx; cases hx
  simp only [Gh.put, if_neg hxX] at hb
  rcases (h'.own x ob k hx hb).1 with h1 | ⟨y, ob', hy, hb'⟩
  · exact absurd hk (Nat.not_lt.2 h1)
  · exact hun y ob' hy hb'

section
variable {P : Program} {Q : Exit → St → Prop} {s : St}
theorem awp_rangeM {id : Nat} {pre : List Oper} {oR : Oper} {ops : Array Oper} {t kt et : TypeId} {tm : Operand} {ti M X : Nat} {rest : Code} {dm : List (D × D)} {ks : List Bytes} {rr : Option (Nat × Nat × Option Value)}
    (hops : ops = (pre ++ [oR]).toArray) (hR : oR.op = .range t tm) (hd : oR.dst = some ti) (hg : oR.guard = none) (ht : tyF P t = (some (.map kt et), rr)) (hX : 1000000 ≤ X) (hk : dm.map (·.1) = ks.map D.str) (hko : okOp tm = true)
    (hpre : Lex P ops false s pre s [] (fun s1 => s1.val tm = .map M ∧ s1.ob M = some (.map dm []) ∧ ti < s1.n ∧ s1.fresh X = true ∧ MLoop P rest Q ti s1.n ks ⟨s1.n, (ti, .undef) :: s1.slots, setOb s1.objs M none⟩)) :
    awp P (.seq (.region id ops false) rest) Q s := by
  intro E g a w hr
  refine wp_seq (wp_region_list ?_)
  have ho : ops.toList = pre ++ [oR] := by rw [hops]
  rw [ho]
  refine lex_pre (fun s1 a1 w1 g1 hK hr1 => ?_) pre s [] a w g hpre hr
  obtain ⟨hv, hob, htn, hf, hL⟩ := hK
  have hf' := fresh_of hf
  refine wpList_step fun K hK => ?_
  rw [if_pos (by unfold Region.wanted; rw [hg])]
  have hrel := val_rel hr1 tm hko
  rw [hv] at hrel
  obtain ⟨b, hb, hφ⟩ := vrel_map hrel
  obtain ⟨b', ents, clock, hφ', hbe, hl, hst, hd'⟩ := orel_mapS (hr1.objs M _ hob)
  rw [hφ] at hφ'; injection hφ' with hφ'; subst hφ'
  have hown := hr1.own M _ b hob hφ
  unfold Oper.wp
  have hrun : (execOp a1.eval oR).run P w1 = .ok (.value (.pointer (some ⟨w1.heap.size, 0, none⟩))) (w1.alloc (.mapIter (some b) clock #[] clock)) := by
    unfold execOp; rw [hR]
    simp only [Sem.run_bind, hb, run_range_map w1 t kt et b ents clock (tyF_und ht rfl) hbe, Result.andThen_ok]
    rfl
  rw [hrun]
  refine hK _ _ (wpList_nil ?_)
  have h1 := (hr1.dropO M).1
  have hfd : Fresh (⟨s1.n, s1.slots, setOb s1.objs M none⟩ : St) X := by
    refine ⟨hf'.slots, ?_, fun y ob hy => ?_⟩
    · show look (setOb s1.objs M none) X = none
      rw [look_setOb]; split
      · rfl
      · exact hf'.ob
    · have hy' : look (setOb s1.objs M none) y = some ob := hy
      rw [look_setOb] at hy'
      split at hy'
      · cases hy'
      · exact hf'.objs y ob hy'
  have hnew : ∀ x ob, (⟨s1.n, s1.slots, setOb s1.objs M none⟩ : St).ob x = some ob → x ≠ M ∧ s1.ob x = some ob := fun x ob hx => by
    have hx' : look (setOb s1.objs M none) x = some ob := hx
    rw [look_setOb] at hx'
    split at hx'
    · cases hx'
    · rename_i hne; exact ⟨hne, hx'⟩
  have h2 : Rel E g1 ⟨s1.n, s1.slots, setOb s1.objs M none⟩ a1 (w1.alloc (.mapIter (some b) clock #[] clock)) := by
    refine h1.other hfd (r := w1.heap.size) (fun k hk _ => ?_) (by simp) (fun o => cell_none (o := .mapIter none 0 #[] 0) (.inl (Array.getElem?_eq_none (Nat.le_refl _))) o) h1.fr.size (fun x ob hx hb2 => ?_) rfl rfl rfl
    · exact (MapKept.heap_alloc w1 _).2 k hk
    · exact absurd (h1.own x ob _ hx hb2).2 (Nat.lt_irrefl _)
  have h3 := h2.put (dst := some ti) (fun d hd => by injection hd with hd; subst hd; exact htn) (p := .undef) (v := .pointer (some ⟨w1.heap.size, 0, none⟩)) (.undef _)
  rw [hd]
  refine hL E g1 _ _ w1.heap.size b ents clock h3 hst (keys_of (E := E) hk hl hd') ⟨?_, (MapKept.heap_alloc w1 _).1, ((MapKept.heap_alloc w1 _).2 b hown.2).trans hbe, fun x ob hx => ?_, h1.fr.size, ?_, List.nodup_nil, fun f hf => by cases hf⟩
  · show (a1.tmps.setIfInBounds ti _)[ti]? = _
    rw [Array.getElem?_setIfInBounds_self_of_lt (by rw [hr1.size]; exact htn)]
  · obtain ⟨hne, hx1⟩ := hnew x ob hx
    exact ⟨fun hb2 => absurd (hr1.own x ob _ hx1 hb2).2 (Nat.lt_irrefl _), fun hb2 => hne (hr1.inj x M _ _ b hx1 hob hb2 hφ)⟩
  · intro e; rw [← e] at hown; exact absurd hown.2 (Nat.lt_irrefl _)

theorem awp_rangeM3 {id : Nat} {o1 o2 oR : Oper} {t kt et : TypeId} {tm : Operand} {ti M X : Nat} {rest : Code} {dm : List (D × D)} {ks : List Bytes} {rr : Option (Nat × Nat × Option Value)}
    (hR : oR.op = .range t tm) (hd : oR.dst = some ti) (hg : oR.guard = none) (ht : tyF P t = (some (.map kt et), rr)) (hX : 1000000 ≤ X) (hk : dm.map (·.1) = ks.map D.str) (hko : okOp tm = true)
    (hpre : Lex P #[o1, o2, oR] false s [o1, o2] s [] (fun s1 => s1.val tm = .map M ∧ s1.ob M = some (.map dm []) ∧ ti < s1.n ∧ s1.fresh X = true ∧ MLoop P rest Q ti s1.n ks ⟨s1.n, (ti, .undef) :: s1.slots, setOb s1.objs M none⟩)) :
    awp P (.seq (.region id #[o1, o2, oR] false) rest) Q s := awp_rangeM (pre := [o1, o2]) (oR := oR) rfl hR hd hg ht hX hk hko hpre
/-- The loop: keys come in some order, each once. -/
theorem mloop_loop {id4 b0 b1 id5 ti tn tx te N X : Nat} {ops4 ops5 : Array Oper} {oN oX oE : Oper} {rest5 : List Oper} {c6 : Code} {ks : List Bytes} {st : List Bytes → St} (hX : 1000000 ≤ X)
    (h4 : ops4.toList = [oN, oX]) (hN : oN.op = .next (.tmp ti) false) (hNd : oN.dst = some tn) (hNg : oN.guard = none) (hXo : oX.op = .extract (.tmp tn) 0) (hXd : oX.dst = some tx) (hXg : oX.guard = none)
    (h5 : ops5.toList = oE :: rest5) (hE : oE.op = .entry (.tmp ti)) (hEd : oE.dst = some te) (hEg : oE.guard = none)
    (hti : ti < N) (htn : tn < N) (htx : tx < N) (hte : te < N) (hin : ti ≠ tn) (hix : ti ≠ tx) (hie : ti ≠ te) (hnx : tn ≠ tx)
    (hfs : s.fresh X = true) (h0 : Ent s (st [])) (hn : ∀ d, (st d).n = N) (hf : ∀ d, (st d).fresh X = true) (hno : ∀ d, (st d).sl ti = none)
    (hq : ∀ d : List Bytes, d.Perm ks → Q .normal ⟨N, (tx, .d (.bool false)) :: (tn, .tup [.d (.bool false)]) :: (st d).slots, (st d).objs⟩)
    (hb : ∀ (d : List Bytes) (k : Bytes), (d ++ [k]).length ≤ ks.length → (∀ x ∈ d ++ [k], x ∈ ks) →
      Lex P ops5 false ⟨N, (te, .tup [.d (.str k), .undef]) :: (ti, .iter X) :: (tx, .d (.bool true)) :: (tn, .tup [.d (.bool true), .d (.str k), .undef]) :: (st d).slots, (st d).objs⟩ rest5 ⟨N, (te, .tup [.d (.str k), .undef]) :: (ti, .iter X) :: (tx, .d (.bool true)) :: (tn, .tup [.d (.bool true), .d (.str k), .undef]) :: (st d).slots, (st d).objs⟩ []
        (fun s' => awp P c6 (fun x s2 => x = .normal ∧ Ent s2 ⟨N, (ti, .iter X) :: (st (d ++ [k])).slots, (st (d ++ [k])).objs⟩) s')) :
    MLoop P (.block b0 (.loop (.seq (.region id4 ops4 false) (.seq (.cond (.tmp tx) .skip (.exit b0)) (.block b1 (.seq (.region id5 ops5 false) c6)))))) Q ti N ks s := by
  intro E g a w r b ents clock hr hst hks hit
  have hst' : ∀ d, (⟨N, (st d).slots, (st d).objs⟩ : St) = st d := fun d => by rw [← hn d]
  have hF : ∀ d, Fresh (st d) X := fun d => fresh_of (hf d)
  have hrl : r < w.heap.size := (Array.getElem?_eq_some_iff.1 hit.it).1
  have hbl : b < w.heap.size := (Array.getElem?_eq_some_iff.1 hit.mp).1
  -- the beginning
  have start : ∃ g, Rel E g (st []) a w ∧ MIt E g (st []) a w ti r b ents clock [] := by
    obtain ⟨g0, hr0⟩ := h0 _ _ _ _ (reE_in (r := r) hr (fresh_of hfs))
    refine ⟨_, reE_out hr hr0 hX (hF []), hit.tmp, hit.it, hit.mp, fun x ob hx => ⟨?_, ?_⟩, hit.hr, hit.ne, hit.nd, hit.sub⟩
    · exact (reE_keep hr hr0 (hF []) hrl (fun y ob' hy => (hit.un y ob' hy).1)).2 x ob hx
    · exact (reE_keep hr hr0 (hF []) hbl (fun y ob' hy => (hit.un y ob' hy).2)).2 x ob hx
  obtain ⟨g1, hr1, hit1⟩ := start
  refine wp_block (wp_loop_ghost (fun n a w => ∃ d fs g, Rel E g (st d) a w ∧ MIt E g (st d) a w ti r b ents clock fs ∧ d.map strV = fs.map (·.key) ∧ n = (leftOf ents (fs.map (·.born)).toArray).size) _ ⟨[], [], g1, hr1, hit1, rfl, rfl⟩ ?_)
  rintro n a w ⟨d, fs, g, hr, hit, hds, rfl⟩
  have hti' : a.eval (.tmp ti) = .pointer (some ⟨r, 0, none⟩) := by rw [Act.eval_tmp, hit.tmp]; rfl
  refine wp_seq (wp_region_list ?_)
  rw [h4]
  refine wpList_step fun K hK => ?_
  rw [if_pos (by unfold Region.wanted; rw [hNg])]
  have hexe : ∀ v w1, (Instr.next (.pointer (some ⟨r, 0, none⟩)) false oN.type).run P w = .ok v w1 → (execOp a.eval oN).run P w = .ok (.value v) w1 := fun v w1 hv => by
    unfold execOp; rw [hN]
    simp only [Sem.run_bind, hti', hv, Result.andThen_ok]
    rfl
  rcases run_next_at (P := P) w oN.type r b clock clock (fs.map (·.born)).toArray ents clock hit.it hit.mp hst.2 (Nat.le_refl _) with ⟨hz, hrun⟩ | ⟨e, he, w1, hw1, hrun⟩
  · -- nothing is left
    unfold Oper.wp
    rw [hexe _ _ hrun]
    refine hK _ _ ?_
    have hp : d.Perm ks := by
      have h1 := (visited_all hst hit.nd hit.sub hz).map (·.key)
      rw [← hds, hks] at h1
      have h2 := h1.map unV
      rwa [List.map_map, List.map_map, show (unV ∘ strV) = id from funext unV_str, List.map_id, List.map_id] at h2
    have r1 := hr.put (dst := some tn) (fun x hx => by injection hx with hx; subst hx; rw [hn]; exact htn) (p := .tup [.d (.bool false)]) (v := .tuple #[.bool false]) (.tup (vs := [.bool false]) rfl fun j p hj v hv => by
      match j, hj, hv with
      | 0, hj, hv => simp at hj hv; subst hj; subst hv; exact .d (.bool _))
    rw [hNd]
    refine wpList_step fun K2 hK2 => ?_
    rw [if_pos (by unfold Region.wanted; rw [hXg])]
    refine (op_extract (ops := ops4) (s := (st d).put (some tn) (.tup [.d (.bool false)])) (p := .d (.bool false)) hXo (val_put _ _ _) rfl rfl) _ ⟨rfl, fun _ _ => rfl⟩ (fun _ _ => rfl) (fun x hx => by cases hx) ?_ E g _ _ r1 K2 _ ?_
    · show dB oX (st d).n = true
      unfold dB; rw [hXd, hn]; exact decide_eq_true htx
    intro a2 w2 g2 r2
    refine hK2 _ _ (wpList_nil ?_)
    rw [hXd] at r2
    have r3 : Rel E g2 ⟨N, (tx, .d (.bool false)) :: (tn, .tup [.d (.bool false)]) :: (st d).slots, (st d).objs⟩ a2 w2 := by rw [← hn d]; exact r2
    have hc : a2.eval (.tmp tx) = .bool false := by
      have h1 := val_rel r3 (.tmp tx) rfl
      have h2 : (⟨N, (tx, .d (.bool false)) :: (tn, .tup [.d (.bool false)]) :: (st d).slots, (st d).objs⟩ : St).val (.tmp tx) = .d (.bool false) := val_put ⟨N, (tn, .tup [.d (.bool false)]) :: (st d).slots, (st d).objs⟩ tx _
      rw [h2] at h1
      generalize a2.eval (.tmp tx) = v at h1
      cases h1 with | d h1 => cases h1; rfl
    refine wp_seq (wp_cond_false hc (wp_exit ?_))
    simp only [Exit.then, Exit.inBlock, if_true]
    exact ⟨_, g2, hq d hp, r3⟩
  · -- one more
    unfold Oper.wp
    rw [hexe _ _ hrun]
    refine hK _ _ ?_
    obtain ⟨hem, hes⟩ := mem_left he
    obtain ⟨k, hkm, hke⟩ : ∃ k, k ∈ ks ∧ strV k = e.key := by
      have h1 : e.key ∈ ents.toList.map (·.key) := List.mem_map.2 ⟨e, hem, rfl⟩
      rw [hks] at h1
      obtain ⟨k, h2, h3⟩ := List.mem_map.1 h1
      exact ⟨k, h2, h3⟩
    have hseen : (fs.map (·.born)).toArray.push e.born = ((fs ++ [e]).map (·.born)).toArray := by simp
    rw [hseen]
    have hrl : r < w.heap.size := (Array.getElem?_eq_some_iff.1 hit.it).1
    have hbl : b < w.heap.size := (Array.getElem?_eq_some_iff.1 hit.mp).1
    have hwh : w1.heap = w.heap := by rcases hw1 with rfl | rfl <;> rfl
    have hws : w1.os = w.os ∧ w1.tape = w.tape ∧ w1.output = w.output := by rcases hw1 with rfl | rfl <;> exact ⟨rfl, rfl, rfl⟩
    obtain ⟨w2, hw2⟩ : ∃ w2, w2 = setBlock w1 r (.mapIter (some b) clock ((fs ++ [e]).map (·.born)).toArray clock) := ⟨_, rfl⟩
    rw [← hw2]
    have h2h : w2.heap = w.heap.setIfInBounds r (.mapIter (some b) clock ((fs ++ [e]).map (·.born)).toArray clock) := by rw [hw2]; show w1.heap.setIfInBounds _ _ = _; rw [hwh]
    have h2r : w2.heap[r]? = some (.mapIter (some b) clock ((fs ++ [e]).map (·.born)).toArray clock) := by rw [h2h, Array.getElem?_setIfInBounds_self_of_lt hrl]
    have h2n : ∀ i, i ≠ r → w2.heap[i]? = w.heap[i]? := fun i hi => by rw [h2h, Array.getElem?_setIfInBounds_ne (Ne.symm hi)]
    have h2b : w2.heap[b]? = some (.map ents clock) := by rw [h2n b (Ne.symm hit.ne)]; exact hit.mp
    have h2s : w2.heap.size = w.heap.size := by rw [h2h]; simp
    have r0 : Rel E g (st d) a w2 := by
      refine hr.other (hF d) (r := r) (fun i _ hi => h2n i hi) (by omega) (cell_none (.inr ⟨hit.it, fun _ _ _ h => by cases h⟩)) hit.hr (fun x ob hx => (hit.un x ob hx).1) ?_ ?_ ?_
      · rw [hw2]; exact hws.1
      · rw [hw2]; exact hws.2.1
      · rw [hw2]; exact hws.2.2
    have r1 := r0.put (dst := some tn) (fun x hx => by injection hx with hx; subst hx; rw [hn]; exact htn) (p := .tup [.d (.bool true), .d (.str k), .undef]) (v := .tuple #[.bool true, e.key, e.val]) (.tup (vs := [.bool true, e.key, e.val]) rfl fun j p hj v hv => by
      match j, hj, hv with
      | 0, hj, hv => simp at hj hv; subst hj; subst hv; exact .d (.bool _)
      | 1, hj, hv => simp at hj hv; subst hj; subst hv; rw [← hke]; exact .d (.str k)
      | 2, hj, hv => simp at hj hv; subst hj; exact .undef _)
    rw [hNd]
    have has : a.tmps.size = N := by rw [r0.size]; exact hn d
    obtain ⟨a1, ha1⟩ : ∃ a1, a1 = a.put (some tn) (.tuple #[.bool true, e.key, e.val]) := ⟨_, rfl⟩
    rw [← ha1] at r1 ⊢
    have hs1 : a1.tmps.size = N := by rw [r1.size]; exact hn d
    have he1 : a1.eval (.tmp tn) = .tuple #[.bool true, e.key, e.val] := by rw [ha1]; exact eval_put (by omega)
    have hi1 : a1.tmps[ti]? = some (.pointer (some ⟨r, 0, none⟩)) := by rw [ha1, tmps_put_ne hin]; exact hit.tmp
    refine wpList_step fun K2 hK2 => ?_
    rw [if_pos (by unfold Region.wanted; rw [hXg])]
    unfold Oper.wp
    have hexe2 : (execOp a1.eval oX).run P w2 = .ok (.value (.bool true)) w2 := by
      unfold execOp; rw [hXo]
      simp [he1, Instr.extract]
    rw [hexe2]
    refine hK2 _ _ (wpList_nil ?_)
    rw [hXd]
    have r2 := r1.put (dst := some tx) (fun x hx => by injection hx with hx; subst hx; show tx < (st d).n; rw [hn]; exact htx) (p := .d (.bool true)) (v := .bool true) (.d (.bool _))
    obtain ⟨a2, ha2⟩ : ∃ a2, a2 = a1.put (some tx) (.bool true) := ⟨_, rfl⟩
    rw [← ha2] at r2 ⊢
    have he2 : a2.eval (.tmp tx) = .bool true := by rw [ha2]; exact eval_put (by omega)
    have hi2 : a2.tmps[ti]? = some (.pointer (some ⟨r, 0, none⟩)) := by rw [ha2, tmps_put_ne hix]; exact hi1
    refine wp_seq (wp_cond_true he2 (wp_skip ?_))
    refine wp_block (wp_seq (wp_region_list ?_))
    rw [h5]
    refine wpList_step fun K3 hK3 => ?_
    rw [if_pos (by unfold Region.wanted; rw [hEg])]
    unfold Oper.wp
    have hexe3 : (execOp a2.eval oE).run P w2 = .ok (.value (.tuple #[e.key, e.val])) w2 := by
      have hi3 : a2.eval (.tmp ti) = .pointer (some ⟨r, 0, none⟩) := by rw [Act.eval_tmp, hi2]; rfl
      have hre := run_entry_at (P := P) w2 r b clock (fs.map (·.born)).toArray ents clock e (by rw [hseen]; exact h2r) h2b hem hst.1
      unfold execOp; rw [hE]
      simp only [Sem.run_bind, hi3, hre, Result.andThen_ok]
      rfl
    rw [hexe3]
    refine hK3 _ _ ?_
    rw [hEd]
    have hf2 : Fresh (((st d).put (some tn) (.tup [.d (.bool true), .d (.str k), .undef])).put (some tx) (.d (.bool true))) X := ((hF d).put tn rfl).put tx rfl
    have r3 := (reE_in (r := r) r2 hf2).tell (i := ti) (p := .iter X) hi2 (.iter (by simp [Gh.put]))
    have r4 := r3.put (dst := some te) (fun x hx => by injection hx with hx; subst hx; show te < (st d).n; rw [hn]; exact hte) (p := .tup [.d (.str k), .undef]) (v := .tuple #[e.key, e.val]) (.tup (vs := [e.key, e.val]) rfl fun j p hj v hv => by
      match j, hj, hv with
      | 0, hj, hv => simp at hj hv; subst hj; subst hv; rw [← hke]; exact .d (.str k)
      | 1, hj, hv => simp at hj hv; subst hj; exact .undef _)
    have hlen : (d ++ [k]).length ≤ ks.length := by
      have h1 : fs.length < ents.toList.length := by
        have h1 := len_of_sub (l := (fs ++ [e]).map (·.born)) (m := ents.toList.map (·.born)) (by
          rw [List.map_append, List.nodup_append]
          refine ⟨hit.nd, by simp, fun x hx y hy hxy => ?_⟩
          simp at hy; subst hy; subst hxy
          have : ((fs.map (·.born)).toArray).contains e.born = true := by simpa using hx
          rw [this] at hes; cases hes) (fun x hx => by
          obtain ⟨f, hf, rfl⟩ := List.mem_map.1 hx
          rcases List.mem_append.1 hf with hf | hf
          · exact List.mem_map.2 ⟨f, hit.sub f hf, rfl⟩
          · simp at hf; rw [hf]; exact List.mem_map.2 ⟨e, hem, rfl⟩)
        simp at h1 ⊢; omega
      have h2 := congrArg List.length hds
      have h3 := congrArg List.length hks
      simp at h1 h2 h3 ⊢; omega
    have hall : ∀ x ∈ d ++ [k], x ∈ ks := fun x hx => by
      rcases List.mem_append.1 hx with hx | hx
      · have h1 : strV x ∈ d.map strV := List.mem_map.2 ⟨x, hx, rfl⟩
        rw [hds] at h1
        obtain ⟨f, hf1, hf2⟩ := List.mem_map.1 h1
        have h2 : f.key ∈ ents.toList.map (·.key) := List.mem_map.2 ⟨f, hit.sub f hf1, rfl⟩
        rw [hks] at h2
        obtain ⟨y, hy1, hy2⟩ := List.mem_map.1 h2
        have : y = x := by rw [← unV_str y, ← unV_str x, hy2, hf2]
        rw [← this]; exact hy1
      · simp at hx; rw [hx]; exact hkm
    refine lex_list (E := reE E g (((st d).put (some tn) (.tup [.d (.bool true), .d (.str k), .undef])).put (some tx) (.d (.bool true))) w2 X r) (fun s' a' w' g' hawp hr' => ?_) rest5 _ [] _ _ _ (hb d k hlen hall) (by rw [← hn d]; exact r4)
    refine wp_mono (hawp _ g' a' w' hr') fun x a3 w3 ⟨s3, g3, ⟨hx, hent⟩, hr3⟩ => ?_
    subst hx
    obtain ⟨g4, r5⟩ := hent _ _ _ _ hr3
    have r6 := r5.slotsLe (l' := (st (d ++ [k])).slots) (fun i p hi => by
      refine .inr ?_
      simp only [lookS]
      by_cases hii : ti = i
      · subst hii; have := hno (d ++ [k]); rw [show lookS (st (d ++ [k])).slots ti = none from this] at hi; cases hi
      · rw [if_neg hii]; exact hi)
    rw [hst'] at r6
    have r7 := reE_out r2 r6 hX (hF (d ++ [k]))
    have hk1 := reE_keep r2 r6 (hF (d ++ [k])) (k := r) (by omega) (fun x ob hx => (hit.un x ob hx).1)
    have hk2 := reE_keep r2 r6 (hF (d ++ [k])) (k := b) (by omega) (fun x ob hx => (hit.un x ob hx).2)
    have htm : a3.tmps[ti]? = some (.pointer (some ⟨r, 0, none⟩)) := by
      obtain ⟨v, h1, h2⟩ := r5.slots ti (.iter X) (by show lookS _ _ = _; simp [lookS])
      have h3 := (r5.keep X hX).1
      rw [h1]
      cases h2 with
      | iter h2 =>
        rw [h2] at h3
        simp [reE, Gh.put] at h3
        rw [h3]
    refine ⟨_, left_shrinks ents _ e he, d ++ [k], fs ++ [e], _, r7, ⟨htm, hk1.1.trans h2r, hk2.1.trans h2b, fun x ob hx => ⟨hk1.2 x ob hx, hk2.2 x ob hx⟩, hit.hr, hit.ne, ?_, fun f hf => ?_⟩, ?_, by rw [hseen]⟩
    · rw [List.map_append, List.nodup_append]
      refine ⟨hit.nd, by simp, fun x hx y hy hxy => ?_⟩
      simp at hy; subst hy; subst hxy
      have : ((fs.map (·.born)).toArray).contains e.born = true := by simpa using hx
      rw [this] at hes; cases hes
    · rcases List.mem_append.1 hf with hf | hf
      · exact hit.sub f hf
      · simp at hf; rw [hf]; exact hem
    · rw [List.map_append, List.map_append, hds]; simp [hke]
end
end Go.Pm

namespace Go.Pm
open Go.Proofs
set_option maxRecDepth 100000 in
theorem c40 (x : Idx) (hl : x.rels.length ≤ 1000000) (hr : ∀ r ∈ x.rels, r.Sm) : Fn PR 40 [.d x.d] [] [.d (.list ((pthA x).map .str))] [] := by
 refine fn_of_awp Tryz.func40 rfl (N := 26) rfl ?_
 have hkl : ((grpOf (okR x)).map (·.1)).length ≤ 1000000 := by
  rw [(gfold_keys (okR x)).1]
  exact Nat.le_trans (pthA_len x) hl
 refine xsr ?_
 refine xlz (op_box rfl rfl (by decide) rfl rfl) ?_
 refine las rfl rfl rfl rfl rfl ?_
 refine lendF ?_
 refine xsr ?_
 refine xlz (o_ldA rfl rfl rfl rfl ty25 rfl (xlb rfl) rfl) ?_
 refine xlz (o_callX (p := .tup [.agg [.map 1009, .map 2009], .d (I (checkI x.rels))]) (news := [1009, 2009]) (upd := [(1009, some (.map (relM (okR x)) [])), (2009, some (.map (grpD (grpOf (okR x))) []))]) [] 9 (c46 x (by omega) hr) rfl rfl rfl ca46 rfl (by decide) handOK_nil rfl rfl rfl rfl (by kernel_rfl) (by kernel_rfl) (by kernel_rfl)) ?_
 refine lmv rfl rfl rfl rfl rfl ?_
 refine xlz (op_extract rfl rfl rfl rfl) ?_
 refine xlz (op_extract rfl rfl rfl rfl) ?_
 refine xlz (op_alloc rfl rfl (by decide) ty82 zk82 rfl) ?_
 refine xlz (op_store rfl rfl rfl rfl rfl rfl ty82 rfl (xlb rfl)) ?_
 refine las rfl rfl rfl rfl rfl ?_
 refine lendF ?_
 refine xsr ?_
 refine las rfl rfl rfl rfl rfl ?_
 refine lendF ?_
 refine awp_seq ?_
 refine awp_rangeM3 (M := 2009) (X := 1999999) (ks := (grpOf (okR x)).map (·.1)) (dm := grpD (grpOf (okR x))) (by rfl) (by rfl) (by rfl) ty80 (by decide) (by simp [grpD]) (by rfl) ?_
 refine xlz (op_fieldP rfl rfl rfl fl82_1) ?_
 refine xlz (op_load1 rfl rfl rfl rfl ty80 rfl rfl) ?_
 refine lendF ?_
 refine ⟨rfl, rfl, Nat.le_of_ble_eq_true rfl, rfl, ?_⟩
 refine mloop_loop (N := 26) (te := 17) (tx := 16) (tn := 15) (X := 1999999) (st := fun d => ⟨26, [(5, .arr 500005 1 0 (d.map D.str).length)], [(500005, .arr 1 (d.map .str))]⟩) (by decide) rfl rfl rfl rfl rfl rfl rfl rfl rfl rfl rfl (by decide) (by decide) (by decide) (by decide) (by decide) (by decide) (by decide) (by decide) rfl ?_ (fun _ => rfl) (fun _ => rfl) (fun _ => rfl) ?_ ?_
 ·
  exact Ent.trans (ent_arr0 5 500005 1 rfl rfl (by decide)) (ent_k [] rfl rfl (.cons rfl (k_eq rfl) .nil) (obs_cons rfl (o_eq rfl) obs_nil) rfl)
 ·
  intro d hd
  refine xsr ?_
  refine lmv rfl rfl rfl rfl rfl ?_
  refine xlz (o_callW [500005] 24 (c85 d (by have := hd.length_eq; omega)) rfl rfl rfl ca85 rfl (by decide) (handOK_cons (by decide) (by decide) rfl rfl handOK_nil) rfl rfl rfl rfl) ?_
  refine lendF ?_
  refine xsr ?_
  refine lmv rfl rfl rfl rfl rfl ?_
  refine las rfl rfl rfl rfl rfl ?_
  refine lendF ?_
  refine awp_ret ?_
  refine ⟨[_], ⟨rfl, trivial⟩, ?_⟩
  have hdl : d.length = (pthA x).length := by rw [← srt_paths hd, srtB_len]
  exact ent_fz1 (ds := (srtB d).map .str) rfl (by simp [srtB_len]) (by rw [srt_paths hd]; simp only [List.drop_zero, Nat.zero_add, Nat.sub_zero]; exact List.take_of_length_le (by simp [hdl]))
 ·
  intro d k hlen hall
  refine xlz (op_extract rfl rfl rfl rfl) ?_
  refine las rfl rfl rfl rfl rfl ?_
  refine lendF ?_
  refine awp_region mixed ?_
  refine lmv rfl rfl rfl rfl rfl ?_
  refine lmv rfl rfl rfl rfl rfl ?_
  refine xlz (o_bs rfl rfl rfl rfl rfl ty71 ty9 rfl rfl) ?_
  refine xlz (op_appendR rfl rfl (by decide) (.inr ⟨_, rfl, rfl, rfl⟩) rfl rfl rfl ty71 ty9 rfl (by decide) (by simp [D.cells]) (by simp) (by have h9 := Nat.le_trans hlen hkl; simp at h9 ⊢; omega) (by have h9 := Nat.le_trans hlen hkl; simp at h9 ⊢; omega)) ?_
  refine las rfl rfl rfl rfl rfl ?_
  refine lendF ?_
  refine ⟨rfl, ?_⟩
  exact ent_k [(500005, 22)] rfl rfl (.cons rfl (k_eq rfl) <| .cons rfl (k_arr rfl (by simp)) .nil) (obs_cons rfl (ko_arr (by simp)) obs_nil) rfl
end Go.Pm

namespace Go.Pm
structure SolOK (x : Idx) (needs : List Req) (ss : List Sel) : Prop where
  ck : checkI x.rels = 0
  inc : incr ss = true
  has : ss.all (hasK x.rels) = true
  sat : ∀ q ∈ allQ x.rels needs ss, ss.any (satBy q) = true
  rch : ∀ y ∈ ss, Rch (ss.map (getK x.rels)) needs (getK x.rels y)
section
variable {x : Idx} {needs : List Req} {ss : List Sel}
end
end Go.Pm

namespace Go.Pm
open Go.Proofs

set_option maxRecDepth 10000 in
set_option maxHeartbeats 8000000 in
theorem c8 (x : Idx) (hl : x.rels.length < 4611686018427387904) (hrl : ∀ r ∈ x.rels, r.reqs.length < 4611686018427387904) (s : Bytes) (hsl : s.length < 4611686018427387904) (v : Ver) : Fn PR 8 [.d x.d, .d (.str s), .d v.d] [] [.d (.bool true)] [] := by
 refine fn_of_awp Tryz.func8 rfl (N := 69) rfl ?_
 refine xsr ?_
 refine xlz (op_box rfl rfl (by decide) rfl rfl) ?_
 refine xlz (op_box rfl rfl (by decide) rfl rfl) ?_
 refine las rfl rfl rfl rfl rfl ?_
 refine lendF ?_
 refine awp_seq ?_
 refine xsr ?_
 refine xlz (o_call (c9) rfl rfl rfl ca9 rfl rfl) ?_
 refine xlz (op_not rfl rfl rfl) ?_
 refine lendF ?_
 refine awp_cond rfl rfl (fun hc1 => ?_) (fun hc1 => ?_)
 ·
  exact absurd hc1 (by decide)
 ·
  refine awp_skip ?_
  refine awp_seq ?_
  refine xsr ?_
  refine xlz (op_fieldP rfl rfl rfl fl25_0) ?_
  refine xlz (op_load1 rfl rfl rfl rfl ty22 rfl rfl) ?_
  refine xlz (o_call (c10 x.rels 30 hl hrl) rfl rfl rfl ca10 rfl rfl) ?_
  refine xlz (op_not rfl rfl rfl) ?_
  refine lmv rfl rfl rfl rfl rfl ?_
  refine lsplit rfl (fun hg2 => ?_) (fun hg2 => ?_)
  ·
   have hf : fewRlss x.rels 30 = true := by (have h := (g01 hg2)); simpa using h
   obtain ⟨hr, h30⟩ := fewRlss_ok hf
   refine gmv hg2 rfl rfl rfl rfl rfl ?_
   refine lg (op_lenS rfl rfl rfl ty9) rfl hg2 rfl rfl ?_
   refine lg (op_binI rfl rfl rfl rfl rfl (.inl rfl) rfl) rfl hg2 rfl rfl ?_
   refine xlz (o_pF rfl rfl (g01 hg2) rfl rfl) ?_
   refine lendF ?_
   refine awp_cond rfl rfl (fun hc3 => ?_) (fun hc3 => ?_)
   ·
    refine xsr ?_
    refine las rfl rfl rfl rfl rfl ?_
    refine lendF ?_
    refine awp_ret ?_
    refine ⟨[_], ⟨rfl, trivial⟩, ?_⟩
    first | exact ent_d1 rfl rfl | exact ent_d1 rfl (by simp)
   ·
    refine awp_skip ?_
    refine xsr ?_
    refine xlz (o_ldA rfl rfl rfl rfl ty25 rfl (xlb rfl) rfl) ?_
    refine lmv rfl rfl rfl rfl rfl ?_
    refine xlz (o_ldA rfl rfl rfl rfl ty38 rfl (xlb rfl) rfl) ?_
    refine xlz (o_call (c24 x (by omega) hr s v) rfl rfl rfl ca24 rfl rfl) ?_
    refine lmv rfl rfl rfl rfl rfl ?_
    refine xlz (op_extract rfl rfl rfl rfl) ?_
    refine xlz (op_extract rfl rfl rfl rfl) ?_
    refine xlz (op_alloc rfl rfl (by decide) ty40 zk40 rfl) ?_
    refine xlz (op_store rfl rfl rfl rfl rfl rfl ty40 rfl (xlb rfl)) ?_
    refine las rfl rfl rfl rfl rfl ?_
    refine lendF ?_
    refine xsr ?_
    refine xlz (o_ldA rfl rfl rfl rfl ty25 rfl (xlb rfl) rfl) ?_
    refine lmv rfl rfl rfl rfl rfl ?_
    refine xlz (o_ldA rfl rfl rfl rfl ty38 rfl (xlb rfl) rfl) ?_
    refine xlz (o_call (c35 x (by omega) hr s v) rfl rfl rfl ca35 rfl rfl) ?_
    refine lmv rfl rfl rfl rfl rfl ?_
    refine xlz (op_extract rfl rfl rfl rfl) ?_
    refine xlz (op_extract rfl rfl rfl rfl) ?_
    refine xlz (op_alloc rfl rfl (by decide) ty40 zk40 rfl) ?_
    refine xlz (op_store rfl rfl rfl rfl rfl rfl ty40 rfl (xlb rfl)) ?_
    refine las rfl rfl rfl rfl rfl ?_
    refine lendF ?_
    refine xsr ?_
    iterate 2 refine lmv rfl rfl rfl rfl rfl ?_
    refine xlz (op_eqlB rfl (.inl rfl) rfl rfl rfl rfl ty4) ?_
    refine lmv rfl rfl rfl rfl rfl ?_
    refine lsplit rfl (fun hg4 => ?_) (fun hg4 => ?_)
    ·
     refine lg (o_ldA rfl rfl rfl rfl ty40 rfl (xlb rfl) rfl) rfl hg4 rfl rfl ?_
     refine lg (o_ldA rfl rfl rfl rfl ty40 rfl (xlb rfl) rfl) rfl hg4 rfl rfl ?_
     refine lg (o_call (c21 (getR x ⟨s, v⟩) (getR x ⟨s, v⟩) (by have := (getR_sm hr ⟨s, v⟩).2; omega) (fun q hq => by have := ((getR_sm hr ⟨s, v⟩).1.reqs q hq).set; omega)) rfl rfl rfl ca21 rfl rfl) rfl hg4 rfl rfl ?_
     refine xlz (o_pT rfl rfl (g11 hg4) rfl rfl) ?_
     refine lmv rfl rfl rfl rfl rfl ?_
     refine lsplit rfl (fun hg5 => ?_) (fun hg5 => ?_)
     ·
      refine lg (o_ldA rfl rfl rfl rfl ty25 rfl (xlb rfl) rfl) rfl hg5 rfl rfl ?_
      refine gmv hg5 rfl rfl rfl rfl rfl ?_
      refine lg (o_v (o_call (c37 x (by omega) hr s) rfl rfl rfl ca37 rfl rfl) (show _ = PV.d (.list (((pathR x s).map Rls.ver).map Ver.d)) from by rw [List.map_map]; rfl)) rfl hg5 rfl rfl ?_
      refine lg (o_ldA rfl rfl rfl rfl ty25 rfl (xlb rfl) rfl) rfl hg5 rfl rfl ?_
      refine gmv hg5 rfl rfl rfl rfl rfl ?_
      refine lg (o_v (o_call (c38 x (by omega) hr s) rfl rfl rfl ca38 rfl rfl) (show _ = PV.d (.list (((pathR x s).map Rls.ver).map Ver.d)) from by rw [List.map_map]; rfl)) rfl hg5 rfl rfl ?_
      refine lg (o_call (c36 ((pathR x s).map Rls.ver) ((pathR x s).map Rls.ver) (by have := pathR_len x s; simp; omega) (by have := pathR_len x s; simp; omega)) rfl rfl rfl ca36 rfl rfl) rfl hg5 rfl rfl ?_
      refine xlz (o_pT rfl rfl (g11 hg5) rfl rfl) ?_
      refine lmv rfl rfl rfl rfl rfl ?_
      refine lsplit rfl (fun hg6 => ?_) (fun hg6 => ?_)
      ·
       refine lg (o_ldA rfl rfl rfl rfl ty25 rfl (xlb rfl) rfl) rfl hg6 rfl rfl ?_
       refine lg (o_call (c40 x (by omega) hr) rfl rfl rfl ca40 rfl rfl) rfl hg6 rfl rfl ?_
       refine lg (o_ldA rfl rfl rfl rfl ty25 rfl (xlb rfl) rfl) rfl hg6 rfl rfl ?_
       refine lg (o_call (c41 x (by omega) hr) rfl rfl rfl ca41 rfl rfl) rfl hg6 rfl rfl ?_
       refine lg (o_call (c39 (pthA x) (pthA x) (by have := pthA_len x; omega) (by have := pthA_len x; omega)) rfl rfl rfl ca39 rfl rfl) rfl hg6 rfl rfl ?_
       refine xlz (o_pT rfl rfl (g11 hg6) rfl rfl) ?_
       refine lmv rfl rfl rfl rfl rfl ?_
       refine lsplit rfl (fun hg7 => ?_) (fun hg7 => ?_)
       ·
        refine lg (o_ldA rfl rfl rfl rfl ty25 rfl (xlb rfl) rfl) rfl hg7 rfl rfl ?_
        refine gmv hg7 rfl rfl rfl rfl rfl ?_
        refine lg (o_call (c43 x (by omega) hr s) rfl rfl rfl ca43 rfl rfl) rfl hg7 rfl rfl ?_
        refine lg (o_ldA rfl rfl rfl rfl ty25 rfl (xlb rfl) rfl) rfl hg7 rfl rfl ?_
        refine gmv hg7 rfl rfl rfl rfl rfl ?_
        refine lg (o_call (c44 x (by omega) hr s) rfl rfl rfl ca44 rfl rfl) rfl hg7 rfl rfl ?_
        refine lg (o_call (c42 (canonS (avS (pathR x s))) (canonS (avS (pathR x s))) (by have := canonS_len (avS (pathR x s)); have := avS_len (pathR x s); have := pathR_len x s; omega)) rfl rfl rfl ca42 rfl rfl) rfl hg7 rfl rfl ?_
        refine xlz (o_pT rfl rfl (g11 hg7) rfl rfl) ?_
        refine las rfl rfl rfl rfl rfl ?_
        refine lend (fun _ => by kernel_rfl) ?_
        refine awp_ret ?_
        refine ⟨[_], ⟨rfl, trivial⟩, ?_⟩
        first | exact ent_d1 rfl rfl | exact ent_d1 rfl (by simp)
       ·
        exact absurd (g10 hg7) (by simp)
      ·
       exact absurd (g10 hg6) (by simp)
     ·
      exact absurd (g10 hg5) (by simp)
    ·
     exact absurd (g10 hg4) (by simp)
  ·
   iterate 3 refine lskip rfl hg2 rfl ?_
   refine xlz (o_pT rfl rfl (g00 hg2) rfl rfl) ?_
   refine lendF ?_
   refine awp_condT rfl rfl rfl ?_
   refine xsr ?_
   refine las rfl rfl rfl rfl rfl ?_
   refine lendF ?_
   refine awp_ret ?_
   refine ⟨[_], ⟨rfl, trivial⟩, ?_⟩
   first | exact ent_d1 rfl rfl | exact ent_d1 rfl (by simp)

end Go.Pm
