/- Part 4 of a proof about the index of a registry: plain functions, and walks through the program that show that it computes them (W7 .. W18). Own work. -/
import Derived.Test.YtffkffapcffhcaaGreatDoorKc
set_option autoImplicit false
set_option linter.unusedVariables false
set_option linter.unusedSimpArgs false
namespace Go.Pm
open Go.Proofs

set_option maxRecDepth 10000 in
theorem c96 (s : Bytes) : Fn PR 96 [.d (.str s)] [] [.d (.bool (decide (s.length = 0) || decide (s.length = 32)))] [] := by
 refine fn_of_awp Tryz.func96 rfl (N := 11) rfl ?_
 refine xsr ?_
 refine xlz (o_as rfl rfl rfl) ?_
 refine lendF ?_
 refine xsr ?_
 refine xlz (o_mv rfl rfl rfl) ?_
 refine xlz (op_lenS rfl rfl rfl ty9) ?_
 refine xlz (op_binI rfl rfl rfl rfl rfl (.inl rfl) rfl) ?_
 refine xlz (o_mv rfl rfl rfl) ?_
 refine lsplit rfl (fun hg1 => ?_) (fun hg1 => ?_)
 ·
  refine lg (o_mv rfl rfl rfl) rfl hg1 rfl rfl ?_
  refine lg (op_lenS rfl rfl rfl ty9) rfl hg1 rfl rfl ?_
  refine lg (op_binI rfl rfl rfl rfl rfl (.inl rfl) rfl) rfl hg1 rfl rfl ?_
  refine xlz (o_pF rfl rfl (g01 hg1) rfl rfl) ?_
  refine xlz (o_as rfl rfl rfl) ?_
  refine lendF ?_
  refine awp_ret ?_
  refine ⟨[_], ⟨rfl, trivial⟩, ?_⟩
  exact ent_b rfl (by rw [Bool.eq_iff_iff]; simp_all <;> omega)
 ·
  refine lskip rfl hg1 rfl ?_
  refine lskip rfl hg1 rfl ?_
  refine lskip rfl hg1 rfl ?_
  refine xlz (o_pT rfl rfl (g00 hg1) rfl rfl) ?_
  refine xlz (o_as rfl rfl rfl) ?_
  refine lendF ?_
  refine awp_ret ?_
  refine ⟨[_], ⟨rfl, trivial⟩, ?_⟩
  exact ent_b rfl (by rw [Bool.eq_iff_iff]; simp_all <;> omega)

set_option maxRecDepth 10000 in
theorem c87 (v : Ver) (hv : v.ok = true) : Fn PR 87 [.d v.d] [] [.d (I (placeOf v).1)] [] := by
 have hb := ok_bounds hv
 refine fn_of_awp Tryz.func87 rfl (N := 9) rfl ?_
 refine xsr ?_
 refine xlz (op_box rfl rfl (by decide) rfl rfl) ?_
 refine xlz (o_as rfl rfl rfl) ?_
 refine lendF ?_
 refine xsr ?_
 refine xlz (op_fieldP rfl rfl rfl fl38_1) ?_
 refine xlz (op_load1 rfl rfl rfl rfl ty3 rfl rfl) ?_
 refine xlz (o_mul rfl rfl rfl rfl (by first | omega | (simp; omega) | (simp at *; omega))) ?_
 refine xlz (op_fieldP rfl rfl rfl fl38_2) ?_
 refine xlz (op_load1 rfl rfl rfl rfl ty3 rfl rfl) ?_
 refine xlz (o_add rfl rfl rfl rfl (by first | omega | (simp; omega) | (simp at *; omega))) ?_
 refine xlz (o_as rfl rfl rfl) ?_
 refine lendF ?_
 refine awp_ret ?_
 refine ⟨[_], ⟨rfl, trivial⟩, ?_⟩
 exact ent_d1 rfl (by simp [placeOf, hv])

set_option maxRecDepth 10000 in
theorem c91 (q : Req) (r : Rls) (hv : r.ver.ok = true) (hq : q.set.length < 4611686018427387904) : Fn PR 91 [.d q.d, .d r.d] [] [.d (.bool (reaches q r))] [] := by
 refine fn_of_awp Tryz.func91 rfl (N := 18) rfl ?_
 refine xsr ?_
 refine xlz (op_box rfl rfl (by decide) rfl rfl) ?_
 refine xlz (op_box rfl rfl (by decide) rfl rfl) ?_
 refine xlz (o_as rfl rfl rfl) ?_
 refine lendF ?_
 refine xsr ?_
 refine xlz (op_fieldP rfl rfl rfl fl51_0) ?_
 refine xlz (op_load1 rfl rfl rfl rfl ty9 rfl rfl) ?_
 refine xlz (op_fieldP rfl rfl rfl fl40_0) ?_
 refine xlz (op_load1 rfl rfl rfl rfl ty9 rfl rfl) ?_
 refine xlz (op_binS rfl rfl rfl rfl rfl (fun h => by first | cases h | (simp; omega)) rfl) ?_
 refine xlz (o_mv rfl rfl rfl) ?_
 refine lsplit rfl (fun hg1 => ?_) (fun hg1 => ?_)
 ·
  refine lg (op_fieldP rfl rfl rfl fl51_1) rfl hg1 rfl rfl ?_
  refine lg (op_load1 rfl rfl rfl rfl ty49 rfl rfl) rfl hg1 rfl rfl ?_
  refine lg (op_fieldP rfl rfl rfl fl40_1) rfl hg1 rfl rfl ?_
  refine lg (o_ldA rfl rfl rfl rfl ty38 rfl (xlb rfl) rfl) rfl hg1 rfl rfl ?_
  refine lg (o_call (c87 r.ver hv) rfl rfl rfl ca87 rfl rfl) rfl hg1 rfl rfl ?_
  refine lg (o_call (c92 q.set (placeOf r.ver).1 hq) rfl rfl rfl ca92 rfl rfl) rfl hg1 rfl rfl ?_
  refine xlz (o_pT rfl rfl (g11 hg1) rfl rfl) ?_
  refine xlz (o_as rfl rfl rfl) ?_
  refine lend (fun _ => by kernel_rfl) ?_
  refine awp_ret ?_
  refine ⟨[_], ⟨rfl, trivial⟩, ?_⟩
  exact ent_d1 rfl (by simp_all [reaches])
 ·
  refine lskip rfl hg1 rfl ?_
  refine lskip rfl hg1 rfl ?_
  refine lskip rfl hg1 rfl ?_
  refine lskip rfl hg1 rfl ?_
  refine lskip rfl hg1 rfl ?_
  refine lskip rfl hg1 rfl ?_
  refine xlz (o_pF rfl rfl (g10 hg1) rfl rfl) ?_
  refine xlz (o_as rfl rfl rfl) ?_
  refine lend (fun _ => by kernel_rfl) ?_
  refine awp_ret ?_
  refine ⟨[_], ⟨rfl, trivial⟩, ?_⟩
  exact ent_d1 rfl (by simp_all [reaches])

set_option maxRecDepth 10000 in
theorem c50 (l : List Req) (r : Rls) (hv : r.ver.ok = true) (hl : l.length < 4611686018427387904) (hq : ∀ q ∈ l, q.set.length < 4611686018427387904) : Fn PR 50 [.d (reqsD l), .d r.d] [] [.d (.bool (anyReaches l r))] [] := by
 refine fn_of_awp Tryz.func50 rfl (N := 18) rfl ?_
 refine xsr ?_
 refine xlz (op_box rfl rfl (by decide) rfl rfl) ?_
 refine xlz (o_as rfl rfl rfl) ?_
 refine lendF ?_
 refine awp_seq ?_
 refine xsr ?_
 refine xlz (o_as rfl rfl rfl) ?_
 refine lendF ?_
 refine awp_block ?_
 refine awp_loop (fun i => ⟨18, [(5, .d (I (i : Nat))), (0, .d (reqsD l)), (3, .ptr 3 0)], [(3, .cells [.d (.str r.path), .d (I r.ver.maj), .d (I r.ver.min), .d (I r.ver.pat), .d (reqsD r.reqs), .d (.str r.arch), .d (.str r.iface), .d (.str r.cert), .d (.bool r.yank)])]⟩) (fun i => l.length - i) (fun i => i ≤ l.length ∧ anyReaches (l.drop i) r = anyReaches l r) 0 ?_ ?_ ?_
 ·
  exact ent_k [] rfl rfl (xkc <| xkc <| xkc <| .nil) (obs_cons rfl (o_eq rfl) obs_nil) rfl
 ·
  exact ⟨Nat.zero_le _, rfl⟩
 ·
  rintro i ⟨hi, hI⟩
  refine awp_seq ?_
  refine xsr ?_
  refine xlz (o_mv rfl rfl rfl) ?_
  refine xlz (o_mv rfl rfl rfl) ?_
  refine xlz (o_lenE (n := l.length) rfl rfl rfl ty26 (by simp)) ?_
  refine xlz (op_binI rfl rfl rfl rfl rfl (.inl rfl) rfl) ?_
  refine lendF ?_
  refine awp_cond rfl rfl (fun hc1 => ?_) (fun hc1 => ?_)
  ·
   obtain ⟨x, hn⟩ := rng_lt (l := l) (by simpa using hc1)
   have hlt := rng_le hn
   have hmem := List.mem_of_getElem? hn
   refine awp_skip ?_
   refine awp_seq ?_
   refine awp_block ?_
   refine xsr ?_
   refine xlz (o_mv rfl rfl rfl) ?_
   refine xlz (o_mv rfl rfl rfl) ?_
   refine xlz (o_ixN (i) rfl rfl rfl rfl ty26 (by first | rfl | simp | omega | (simp; omega)) hn ty51) ?_
   refine xlz (op_loadCA rfl rfl rfl ty51 rfl (xlb rfl)) ?_
   refine xlz (o_ldA rfl rfl rfl rfl ty40 rfl (xlb rfl) rfl) ?_
   refine xlz (o_call (c91 x r hv (hq x hmem)) rfl rfl rfl ca91 rfl rfl) ?_
   refine lend (fun _ => by kernel_rfl) ?_
   refine awp_cond rfl rfl (fun hc2 => ?_) (fun hc2 => ?_)
   ·
    refine xsr ?_
    refine xlz (o_as rfl rfl rfl) ?_
    refine lendF ?_
    refine awp_ret ?_
    refine ⟨[_], ⟨rfl, trivial⟩, ?_⟩
    exact ent_d1 rfl (by rw [← hI]; first | (simp [anyReaches]; done) | (rw [drop_cons hn]; simp_all [anyReaches]; done) | (rw [drop_cons hn]; simp_all [anyReaches] <;> omega))
   ·
    refine awp_skip ?_
    refine awp_region mixed ?_
    refine xlz (o_mv rfl rfl rfl) ?_
    refine xlz (o_add rfl rfl rfl rfl (by first | omega | (simp; omega) | (simp at *; omega))) ?_
    refine xlz (o_as rfl rfl rfl) ?_
    refine lendF ?_
    refine ⟨i + 1, ?_, ?_, ?_⟩
    ·
     exact ⟨rng_le hn, by rw [← hI, drop_cons hn]; simp_all [anyReaches]⟩
    ·
     exact ent_k [] rfl rfl (xkc <| xkc <| xkc <| .nil) (obs_cons rfl (o_eq rfl) obs_nil) rfl
    ·
     omega
  ·
   obtain rfl := rng_ge (l := l) (by simpa using hc1) hi
   refine awp_exit ?_
   refine xsr ?_
   refine xlz (o_as rfl rfl rfl) ?_
   refine lendF ?_
   refine awp_ret ?_
   refine ⟨[_], ⟨rfl, trivial⟩, ?_⟩
   exact ent_d1 rfl (by rw [← hI]; first | (simp [anyReaches]; done) | (rw [drop_cons hn]; simp_all [anyReaches]; done) | (rw [drop_cons hn]; simp_all [anyReaches] <;> omega))

set_option maxRecDepth 10000 in
theorem c54 (q : Req) (l : List Sel) (hq : q.set.length < 4611686018427387904) (hl : l.length < 4611686018427387904) (hv : ∀ y ∈ l, y.ver.ok = true) : Fn PR 54 [.d q.d, .d (selsD l)] [] [.d (.bool (l.any (satBy q)))] [] := by
 refine fn_of_awp Tryz.func54 rfl (N := 31) rfl ?_
 refine xsr ?_
 refine xlz (op_box rfl rfl (by decide) rfl rfl) ?_
 refine xlz (o_as rfl rfl rfl) ?_
 refine lendF ?_
 refine awp_seq ?_
 refine xsr ?_
 refine xlz (o_as rfl rfl rfl) ?_
 refine lendF ?_
 refine awp_block ?_
 refine awp_loop (fun i => ⟨31, [(5, .d (I (i : Nat))), (1, .d (selsD l)), (2, .ptr 2 0)], [(2, .cells [.d (.str q.path), .d (setD q.set)])]⟩) (fun i => l.length - i) (fun i => i ≤ l.length ∧ (l.drop i).any (satBy q) = l.any (satBy q)) 0 ?_ ?_ ?_
 ·
  exact ent_k [] rfl rfl (xkc <| xkc <| xkc <| .nil) (obs_cons rfl (o_eq rfl) obs_nil) rfl
 ·
  exact ⟨Nat.zero_le _, rfl⟩
 ·
  rintro i ⟨hi, hI⟩
  refine awp_seq ?_
  refine xsr ?_
  refine xlz (o_mv rfl rfl rfl) ?_
  refine xlz (o_mv rfl rfl rfl) ?_
  refine xlz (o_lenE (n := l.length) rfl rfl rfl ty27 (by simp)) ?_
  refine xlz (op_binI rfl rfl rfl rfl rfl (.inl rfl) rfl) ?_
  refine lendF ?_
  refine awp_cond rfl rfl (fun hc1 => ?_) (fun hc1 => ?_)
  ·
   obtain ⟨x, hn⟩ := rng_lt (l := l) (by simpa using hc1)
   have hlt := rng_le hn
   have hmem := List.mem_of_getElem? hn
   refine awp_skip ?_
   refine awp_seq ?_
   refine awp_block ?_
   refine xsr ?_
   refine xlz (o_mv rfl rfl rfl) ?_
   refine xlz (o_mv rfl rfl rfl) ?_
   refine xlz (o_ixN (i) rfl rfl rfl rfl ty27 (by first | rfl | simp | omega | (simp; omega)) hn ty54) ?_
   refine xlz (op_fieldC rfl rfl rfl fl54_0) ?_
   refine xlz (op_loadC1 rfl rfl rfl ty9 rfl rfl) ?_
   refine xlz (op_fieldP rfl rfl rfl fl51_0) ?_
   refine xlz (op_load1 rfl rfl rfl rfl ty9 rfl rfl) ?_
   refine xlz (op_binS rfl rfl rfl rfl rfl (fun h => by first | cases h | (simp; omega)) rfl) ?_
   refine xlz (o_mv rfl rfl rfl) ?_
   refine lsplit rfl (fun hg2 => ?_) (fun hg2 => ?_)
   ·
    refine lg (op_fieldP rfl rfl rfl fl51_1) rfl hg2 rfl rfl ?_
    refine lg (op_load1 rfl rfl rfl rfl ty49 rfl rfl) rfl hg2 rfl rfl ?_
    refine lg (o_mv rfl rfl rfl) rfl hg2 rfl rfl ?_
    refine lg (o_mv rfl rfl rfl) rfl hg2 rfl rfl ?_
    refine lg (o_ixN (i) rfl rfl rfl rfl ty27 (by first | rfl | simp | omega | (simp; omega)) hn ty54) rfl hg2 rfl rfl ?_
    refine lg (op_fieldC rfl rfl rfl fl54_1) rfl hg2 rfl rfl ?_
    refine lg (op_loadCA rfl rfl rfl ty38 rfl (xlb rfl)) rfl hg2 rfl rfl ?_
    refine lg (o_call (c87 x.ver (hv x hmem)) rfl rfl rfl ca87 rfl rfl) rfl hg2 rfl rfl ?_
    refine lg (o_call (c92 q.set (placeOf x.ver).1 hq) rfl rfl rfl ca92 rfl rfl) rfl hg2 rfl rfl ?_
    refine xlz (o_pT rfl rfl (g11 hg2) rfl rfl) ?_
    refine lend (fun _ => by kernel_rfl) ?_
    refine awp_cond rfl rfl (fun hc3 => ?_) (fun hc3 => ?_)
    ·
     refine xsr ?_
     refine xlz (o_as rfl rfl rfl) ?_
     refine lendF ?_
     refine awp_ret ?_
     refine ⟨[_], ⟨rfl, trivial⟩, ?_⟩
     exact ent_d1 rfl (by rw [← hI]; first | (simp [satBy]; done) | (rw [drop_cons hn]; simp_all [satBy]; done) | (rw [drop_cons hn]; simp_all [satBy] <;> omega))
    ·
     refine awp_skip ?_
     refine awp_region mixed ?_
     refine xlz (o_mv rfl rfl rfl) ?_
     refine xlz (o_add rfl rfl rfl rfl (by first | omega | (simp; omega) | (simp at *; omega))) ?_
     refine xlz (o_as rfl rfl rfl) ?_
     refine lendF ?_
     refine ⟨i + 1, ?_, ?_, ?_⟩
     ·
      exact ⟨rng_le hn, by rw [← hI, drop_cons hn]; simp_all [satBy]⟩
     ·
      exact ent_k [] rfl rfl (xkc <| xkc <| xkc <| .nil) (obs_cons rfl (o_eq rfl) obs_nil) rfl
     ·
      omega
   ·
    refine lskip rfl hg2 rfl ?_
    refine lskip rfl hg2 rfl ?_
    refine lskip rfl hg2 rfl ?_
    refine lskip rfl hg2 rfl ?_
    refine lskip rfl hg2 rfl ?_
    refine lskip rfl hg2 rfl ?_
    refine lskip rfl hg2 rfl ?_
    refine lskip rfl hg2 rfl ?_
    refine lskip rfl hg2 rfl ?_
    refine xlz (o_pF rfl rfl (g10 hg2) rfl rfl) ?_
    refine lend (fun _ => by kernel_rfl) ?_
    refine awp_condF rfl rfl rfl ?_
    refine awp_skip ?_
    refine awp_region mixed ?_
    refine xlz (o_mv rfl rfl rfl) ?_
    refine xlz (o_add rfl rfl rfl rfl (by first | omega | (simp; omega) | (simp at *; omega))) ?_
    refine xlz (o_as rfl rfl rfl) ?_
    refine lendF ?_
    refine ⟨i + 1, ?_, ?_, ?_⟩
    ·
     exact ⟨rng_le hn, by rw [← hI, drop_cons hn]; simp_all [satBy]⟩
    ·
     exact ent_k [] rfl rfl (xkc <| xkc <| xkc <| .nil) (obs_cons rfl (o_eq rfl) obs_nil) rfl
    ·
     omega
  ·
   obtain rfl := rng_ge (l := l) (by simpa using hc1) hi
   refine awp_exit ?_
   refine xsr ?_
   refine xlz (o_as rfl rfl rfl) ?_
   refine lendF ?_
   refine awp_ret ?_
   refine ⟨[_], ⟨rfl, trivial⟩, ?_⟩
   exact ent_d1 rfl (by rw [← hI]; first | (simp [satBy]; done) | (rw [drop_cons hn]; simp_all [satBy]; done) | (rw [drop_cons hn]; simp_all [satBy] <;> omega))

set_option maxRecDepth 10000 in
theorem c53 (l : List Sel) (hl : l.length < 4611686018427387904) : Fn PR 53 [.d (selsD l)] [] [.d (.bool (incr l))] [] := by
 refine fn_of_awp Tryz.func53 rfl (N := 22) rfl ?_
 refine xsr ?_
 refine xlz (o_as rfl rfl rfl) ?_
 refine lendF ?_
 refine awp_seq ?_
 refine xsr ?_
 refine xlz (o_as rfl rfl rfl) ?_
 refine lendF ?_
 refine awp_block ?_
 refine awp_loop (fun i => ⟨22, [(3, .d (I (i : Nat))), (0, .d (selsD l))], []⟩) (fun i => l.length - i) (fun i => 1 ≤ i ∧ incr (l.drop (i - 1)) = incr l) 1 ?_ ?_ ?_
 ·
  exact ent_k [] rfl rfl (xkc <| xkc <| .nil) obs_nil rfl
 ·
  exact ⟨Nat.le_refl _, rfl⟩
 ·
  rintro i ⟨hi, hI⟩
  refine awp_seq ?_
  refine xsr ?_
  refine xlz (o_mv rfl rfl rfl) ?_
  refine xlz (o_mv rfl rfl rfl) ?_
  refine xlz (o_lenE (n := l.length) rfl rfl rfl ty27 (by simp)) ?_
  refine xlz (op_binI rfl rfl rfl rfl rfl (.inl rfl) rfl) ?_
  refine lendF ?_
  refine awp_cond rfl rfl (fun hc1 => ?_) (fun hc1 => ?_)
  ·
   obtain ⟨x, hn⟩ := rng_lt (l := l) (by simpa using hc1)
   have hlt := rng_le hn
   obtain ⟨y, hm⟩ := get_pred hn
   refine awp_skip ?_
   refine awp_seq ?_
   refine awp_block ?_
   refine xsr ?_
   refine xlz (o_mv rfl rfl rfl) ?_
   refine xlz (o_mv rfl rfl rfl) ?_
   refine xlz (o_ixN (i) rfl rfl rfl rfl ty27 (by first | rfl | simp | omega | (simp; omega)) hn ty54) ?_
   refine xlz (op_fieldC rfl rfl rfl fl54_0) ?_
   refine xlz (op_loadC1 rfl rfl rfl ty9 rfl rfl) ?_
   refine xlz (o_mv rfl rfl rfl) ?_
   refine xlz (o_mv rfl rfl rfl) ?_
   refine xlz (o_sub rfl rfl rfl rfl (by first | omega | (simp; omega) | (simp at *; omega))) ?_
   refine xlz (o_ixN (i - 1) rfl rfl rfl rfl ty27 (by first | rfl | simp | omega | (simp; omega)) hm ty54) ?_
   refine xlz (op_fieldC rfl rfl rfl fl54_0) ?_
   refine xlz (op_loadC1 rfl rfl rfl ty9 rfl rfl) ?_
   refine xlz (op_binS rfl rfl rfl rfl rfl (fun h => by first | cases h | (simp; omega)) rfl) ?_
   refine lend (fun _ => by kernel_rfl) ?_
   refine awp_cond rfl rfl (fun hc2 => ?_) (fun hc2 => ?_)
   ·
    refine xsr ?_
    refine xlz (o_as rfl rfl rfl) ?_
    refine lendF ?_
    refine awp_ret ?_
    refine ⟨[_], ⟨rfl, trivial⟩, ?_⟩
    exact ent_d1 rfl (by rw [← hI, incr_step hn hm hi]; rw [bytesLe_not] at hc2; simp_all)
   ·
    refine awp_skip ?_
    refine awp_region mixed ?_
    refine xlz (o_mv rfl rfl rfl) ?_
    refine xlz (o_add rfl rfl rfl rfl (by first | omega | (simp; omega) | (simp at *; omega))) ?_
    refine xlz (o_as rfl rfl rfl) ?_
    refine lendF ?_
    refine ⟨i + 1, ?_, ?_, ?_⟩
    ·
     exact ⟨by omega, by rw [← hI, incr_step hn hm hi, Nat.add_sub_cancel]; rw [bytesLe_not] at hc2; simp_all⟩
    ·
     exact ent_k [] rfl rfl (xkc <| xkc <| .nil) obs_nil rfl
    ·
     omega
  ·
   have hge : l.length ≤ i := by simpa using hc1
   refine awp_exit ?_
   refine xsr ?_
   refine xlz (o_as rfl rfl rfl) ?_
   refine lendF ?_
   refine awp_ret ?_
   refine ⟨[_], ⟨rfl, trivial⟩, ?_⟩
   exact ent_d1 rfl (by rw [← hI, incr_end hge hi])

set_option maxRecDepth 10000 in
theorem c42 (a b : List Span) (ha : a.length < 4611686018427387904) : Fn PR 42 [.d (setD a), .d (setD b)] [] [.d (.bool (decide (a = b)))] [] := by
 refine fn_of_awp Tryz.func42 rfl (N := 26) rfl ?_
 refine xsr ?_
 refine xlz (o_as rfl rfl rfl) ?_
 refine lendF ?_
 refine awp_seq ?_
 refine xsr ?_
 refine xlz (o_mv rfl rfl rfl) ?_
 refine xlz (o_lenE (n := a.length) rfl rfl rfl ty49 (by simp)) ?_
 refine xlz (o_mv rfl rfl rfl) ?_
 refine xlz (o_lenE (n := b.length) rfl rfl rfl ty49 (by simp)) ?_
 refine xlz (op_binI rfl rfl rfl rfl rfl (.inl rfl) rfl) ?_
 refine lendF ?_
 refine awp_cond rfl rfl (fun hc1 => ?_) (fun hc1 => ?_)
 ·
  have hne : a.length ≠ b.length := by intro h; simp [h] at hc1
  refine xsr ?_
  refine xlz (o_as rfl rfl rfl) ?_
  refine lendF ?_
  refine awp_ret ?_
  refine ⟨[_], ⟨rfl, trivial⟩, ?_⟩
  exact ent_d1 rfl (by have : a ≠ b := (fun h => hne (by rw [h])); simp [this])
 ·
  have hlen : a.length = b.length := by have := hc1; simp at this; omega
  refine awp_skip ?_
  refine awp_seq ?_
  refine xsr ?_
  refine xlz (o_as rfl rfl rfl) ?_
  refine lendF ?_
  refine awp_block ?_
  refine awp_loop (fun i => ⟨26, [(5, .d (I (i : Nat))), (0, .d (setD a)), (1, .d (setD b))], []⟩) (fun i => a.length - i) (fun i => i ≤ a.length ∧ decide (a.drop i = b.drop i) = decide (a = b)) 0 ?_ ?_ ?_
  ·
   exact ent_k [] rfl rfl (xkc <| xkc <| xkc <| .nil) obs_nil rfl
  ·
   exact ⟨Nat.zero_le _, rfl⟩
  ·
   rintro i ⟨hi, hI⟩
   refine awp_seq ?_
   refine xsr ?_
   refine xlz (o_mv rfl rfl rfl) ?_
   refine xlz (o_mv rfl rfl rfl) ?_
   refine xlz (o_lenE (n := a.length) rfl rfl rfl ty49 (by simp)) ?_
   refine xlz (op_binI rfl rfl rfl rfl rfl (.inl rfl) rfl) ?_
   refine lendF ?_
   refine awp_cond rfl rfl (fun hc2 => ?_) (fun hc2 => ?_)
   ·
    obtain ⟨x, hn⟩ := rng_lt (l := a) (by simpa using hc2)
    have hlt := rng_le hn
    obtain ⟨y, hm⟩ : ∃ y, b[i]? = some y := ⟨_, List.getElem?_eq_getElem (show i < b.length by omega)⟩
    have hmem := List.mem_of_getElem? hn
    have hmem2 := List.mem_of_getElem? hm
    refine awp_skip ?_
    refine awp_seq ?_
    refine awp_block ?_
    refine xsr ?_
    refine xlz (o_mv rfl rfl rfl) ?_
    refine xlz (o_mv rfl rfl rfl) ?_
    refine xlz (o_ixN (i) rfl rfl rfl rfl ty49 (by first | rfl | simp | omega | (simp; omega)) hn ty78) ?_
    refine xlz (op_loadCA rfl rfl rfl ty78 rfl (xlb rfl)) ?_
    refine xlz (o_mv rfl rfl rfl) ?_
    refine xlz (o_mv rfl rfl rfl) ?_
    refine xlz (o_ixN (i) rfl rfl rfl rfl ty49 (by first | rfl | simp | omega | (simp; omega)) hm ty78) ?_
    refine xlz (op_loadCA rfl rfl rfl ty78 rfl (xlb rfl)) ?_
    refine xlz (op_eqlA rfl (.inr rfl) rfl rfl rfl rfl ty78 es78 rfl rfl eg78) ?_
    refine lend (fun _ => by kernel_rfl) ?_
    refine awp_cond rfl rfl (fun hc3 => ?_) (fun hc3 => ?_)
    ·
     refine xsr ?_
     refine xlz (o_as rfl rfl rfl) ?_
     refine lendF ?_
     refine awp_ret ?_
     refine ⟨[_], ⟨rfl, trivial⟩, ?_⟩
     exact ent_d1 rfl (by rw [← hI, drop_cons hn, drop_cons hm, cons_eq_iff]; simp_all [eqT_span])
    ·
     refine awp_skip ?_
     refine awp_region mixed ?_
     refine xlz (o_mv rfl rfl rfl) ?_
     refine xlz (o_add rfl rfl rfl rfl (by first | omega | (simp; omega) | (simp at *; omega))) ?_
     refine xlz (o_as rfl rfl rfl) ?_
     refine lendF ?_
     refine ⟨i + 1, ?_, ?_, ?_⟩
     ·
      exact ⟨rng_le hn, by rw [← hI, drop_cons hn, drop_cons hm, cons_eq_iff]; simp_all [eqT_span]⟩
     ·
      exact ent_k [] rfl rfl (xkc <| xkc <| xkc <| .nil) obs_nil rfl
     ·
      omega
   ·
    obtain rfl := rng_ge (l := a) (by simpa using hc2) hi
    refine awp_exit ?_
    refine xsr ?_
    refine xlz (o_as rfl rfl rfl) ?_
    refine lendF ?_
    refine awp_ret ?_
    refine ⟨[_], ⟨rfl, trivial⟩, ?_⟩
    exact ent_d1 rfl (by rw [← hI, List.drop_length, hlen, List.drop_length]; simp)

set_option maxRecDepth 10000 in
theorem c12 (a b : List Sel) (ha : a.length < 4611686018427387904) : Fn PR 12 [.d (selsD a), .d (selsD b)] [] [.d (.bool (decide (a = b)))] [] := by
 refine fn_of_awp Tryz.func12 rfl (N := 26) rfl ?_
 refine xsr ?_
 refine xlz (o_as rfl rfl rfl) ?_
 refine lendF ?_
 refine awp_seq ?_
 refine xsr ?_
 refine xlz (o_mv rfl rfl rfl) ?_
 refine xlz (o_lenE (n := a.length) rfl rfl rfl ty27 (by simp)) ?_
 refine xlz (o_mv rfl rfl rfl) ?_
 refine xlz (o_lenE (n := b.length) rfl rfl rfl ty27 (by simp)) ?_
 refine xlz (op_binI rfl rfl rfl rfl rfl (.inl rfl) rfl) ?_
 refine lendF ?_
 refine awp_cond rfl rfl (fun hc1 => ?_) (fun hc1 => ?_)
 ·
  have hne : a.length ≠ b.length := by intro h; simp [h] at hc1
  refine xsr ?_
  refine xlz (o_as rfl rfl rfl) ?_
  refine lendF ?_
  refine awp_ret ?_
  refine ⟨[_], ⟨rfl, trivial⟩, ?_⟩
  exact ent_d1 rfl (by have : a ≠ b := (fun h => hne (by rw [h])); simp [this])
 ·
  have hlen : a.length = b.length := by have := hc1; simp at this; omega
  refine awp_skip ?_
  refine awp_seq ?_
  refine xsr ?_
  refine xlz (o_as rfl rfl rfl) ?_
  refine lendF ?_
  refine awp_block ?_
  refine awp_loop (fun i => ⟨26, [(5, .d (I (i : Nat))), (0, .d (selsD a)), (1, .d (selsD b))], []⟩) (fun i => a.length - i) (fun i => i ≤ a.length ∧ decide (a.drop i = b.drop i) = decide (a = b)) 0 ?_ ?_ ?_
  ·
   exact ent_k [] rfl rfl (xkc <| xkc <| xkc <| .nil) obs_nil rfl
  ·
   exact ⟨Nat.zero_le _, rfl⟩
  ·
   rintro i ⟨hi, hI⟩
   refine awp_seq ?_
   refine xsr ?_
   refine xlz (o_mv rfl rfl rfl) ?_
   refine xlz (o_mv rfl rfl rfl) ?_
   refine xlz (o_lenE (n := a.length) rfl rfl rfl ty27 (by simp)) ?_
   refine xlz (op_binI rfl rfl rfl rfl rfl (.inl rfl) rfl) ?_
   refine lendF ?_
   refine awp_cond rfl rfl (fun hc2 => ?_) (fun hc2 => ?_)
   ·
    obtain ⟨x, hn⟩ := rng_lt (l := a) (by simpa using hc2)
    have hlt := rng_le hn
    obtain ⟨y, hm⟩ : ∃ y, b[i]? = some y := ⟨_, List.getElem?_eq_getElem (show i < b.length by omega)⟩
    have hmem := List.mem_of_getElem? hn
    have hmem2 := List.mem_of_getElem? hm
    refine awp_skip ?_
    refine awp_seq ?_
    refine awp_block ?_
    refine xsr ?_
    refine xlz (o_mv rfl rfl rfl) ?_
    refine xlz (o_mv rfl rfl rfl) ?_
    refine xlz (o_ixN (i) rfl rfl rfl rfl ty27 (by first | rfl | simp | omega | (simp; omega)) hn ty54) ?_
    refine xlz (op_loadCA rfl rfl rfl ty54 rfl (xlb rfl)) ?_
    refine xlz (o_mv rfl rfl rfl) ?_
    refine xlz (o_mv rfl rfl rfl) ?_
    refine xlz (o_ixN (i) rfl rfl rfl rfl ty27 (by first | rfl | simp | omega | (simp; omega)) hm ty54) ?_
    refine xlz (op_loadCA rfl rfl rfl ty54 rfl (xlb rfl)) ?_
    refine xlz (op_eqlA rfl (.inr rfl) rfl rfl rfl rfl ty54 es54 rfl rfl eg54) ?_
    refine lend (fun _ => by kernel_rfl) ?_
    refine awp_cond rfl rfl (fun hc3 => ?_) (fun hc3 => ?_)
    ·
     refine xsr ?_
     refine xlz (o_as rfl rfl rfl) ?_
     refine lendF ?_
     refine awp_ret ?_
     refine ⟨[_], ⟨rfl, trivial⟩, ?_⟩
     exact ent_d1 rfl (by rw [← hI, drop_cons hn, drop_cons hm, cons_eq_iff]; simp_all [eqT_sel])
    ·
     refine awp_skip ?_
     refine awp_region mixed ?_
     refine xlz (o_mv rfl rfl rfl) ?_
     refine xlz (o_add rfl rfl rfl rfl (by first | omega | (simp; omega) | (simp at *; omega))) ?_
     refine xlz (o_as rfl rfl rfl) ?_
     refine lendF ?_
     refine ⟨i + 1, ?_, ?_, ?_⟩
     ·
      exact ⟨rng_le hn, by rw [← hI, drop_cons hn, drop_cons hm, cons_eq_iff]; simp_all [eqT_sel]⟩
     ·
      exact ent_k [] rfl rfl (xkc <| xkc <| xkc <| .nil) obs_nil rfl
     ·
      omega
   ·
    obtain rfl := rng_ge (l := a) (by simpa using hc2) hi
    refine awp_exit ?_
    refine xsr ?_
    refine xlz (o_as rfl rfl rfl) ?_
    refine lendF ?_
    refine awp_ret ?_
    refine ⟨[_], ⟨rfl, trivial⟩, ?_⟩
    exact ent_d1 rfl (by rw [← hI, List.drop_length, hlen, List.drop_length]; simp)

set_option maxRecDepth 10000 in
theorem c74 (a b : List Req) (ha : a.length < 4611686018427387904) (hs : ∀ q ∈ a, q.set.length < 4611686018427387904) : Fn PR 74 [.d (reqsD a), .d (reqsD b)] [] [.d (.bool (decide (a = b)))] [] := by
 refine fn_of_awp Tryz.func74 rfl (N := 42) rfl ?_
 refine xsr ?_
 refine xlz (o_as rfl rfl rfl) ?_
 refine lendF ?_
 refine awp_seq ?_
 refine xsr ?_
 refine xlz (o_mv rfl rfl rfl) ?_
 refine xlz (o_lenE (n := a.length) rfl rfl rfl ty26 (by simp)) ?_
 refine xlz (o_mv rfl rfl rfl) ?_
 refine xlz (o_lenE (n := b.length) rfl rfl rfl ty26 (by simp)) ?_
 refine xlz (op_binI rfl rfl rfl rfl rfl (.inl rfl) rfl) ?_
 refine lendF ?_
 refine awp_cond rfl rfl (fun hc1 => ?_) (fun hc1 => ?_)
 ·
  have hne : a.length ≠ b.length := by intro h; simp [h] at hc1
  refine xsr ?_
  refine xlz (o_as rfl rfl rfl) ?_
  refine lendF ?_
  refine awp_ret ?_
  refine ⟨[_], ⟨rfl, trivial⟩, ?_⟩
  exact ent_d1 rfl (by have : a ≠ b := (fun h => hne (by rw [h])); simp [this])
 ·
  have hlen : a.length = b.length := by have := hc1; simp at this; omega
  refine awp_skip ?_
  refine awp_seq ?_
  refine xsr ?_
  refine xlz (o_as rfl rfl rfl) ?_
  refine lendF ?_
  refine awp_block ?_
  refine awp_loop (fun i => ⟨42, [(5, .d (I (i : Nat))), (0, .d (reqsD a)), (1, .d (reqsD b))], []⟩) (fun i => a.length - i) (fun i => i ≤ a.length ∧ decide (a.drop i = b.drop i) = decide (a = b)) 0 ?_ ?_ ?_
  ·
   exact ent_k [] rfl rfl (xkc <| xkc <| xkc <| .nil) obs_nil rfl
  ·
   exact ⟨Nat.zero_le _, rfl⟩
  ·
   rintro i ⟨hi, hI⟩
   refine awp_seq ?_
   refine xsr ?_
   refine xlz (o_mv rfl rfl rfl) ?_
   refine xlz (o_mv rfl rfl rfl) ?_
   refine xlz (o_lenE (n := a.length) rfl rfl rfl ty26 (by simp)) ?_
   refine xlz (op_binI rfl rfl rfl rfl rfl (.inl rfl) rfl) ?_
   refine lendF ?_
   refine awp_cond rfl rfl (fun hc2 => ?_) (fun hc2 => ?_)
   ·
    obtain ⟨x, hn⟩ := rng_lt (l := a) (by simpa using hc2)
    have hlt := rng_le hn
    obtain ⟨y, hm⟩ : ∃ y, b[i]? = some y := ⟨_, List.getElem?_eq_getElem (show i < b.length by omega)⟩
    have hmem := List.mem_of_getElem? hn
    have hmem2 := List.mem_of_getElem? hm
    refine awp_skip ?_
    refine awp_seq ?_
    refine awp_block ?_
    refine xsr ?_
    refine xlz (o_mv rfl rfl rfl) ?_
    refine xlz (o_mv rfl rfl rfl) ?_
    refine xlz (o_ixN (i) rfl rfl rfl rfl ty26 (by first | rfl | simp | omega | (simp; omega)) hn ty51) ?_
    refine xlz (op_fieldC rfl rfl rfl fl51_0) ?_
    refine xlz (op_loadC1 rfl rfl rfl ty9 rfl rfl) ?_
    refine xlz (o_mv rfl rfl rfl) ?_
    refine xlz (o_mv rfl rfl rfl) ?_
    refine xlz (o_ixN (i) rfl rfl rfl rfl ty26 (by first | rfl | simp | omega | (simp; omega)) hm ty51) ?_
    refine xlz (op_fieldC rfl rfl rfl fl51_0) ?_
    refine xlz (op_loadC1 rfl rfl rfl ty9 rfl rfl) ?_
    refine xlz (op_binS rfl rfl rfl rfl rfl (fun h => by first | cases h | (simp; omega)) rfl) ?_
    refine xlz (o_mv rfl rfl rfl) ?_
    refine lsplit rfl (fun hg3 => ?_) (fun hg3 => ?_)
    ·
     refine lg (o_mv rfl rfl rfl) rfl hg3 rfl rfl ?_
     refine lg (o_mv rfl rfl rfl) rfl hg3 rfl rfl ?_
     refine lg (o_ixN (i) rfl rfl rfl rfl ty26 (by first | rfl | simp | omega | (simp; omega)) hn ty51) rfl hg3 rfl rfl ?_
     refine lg (op_fieldC rfl rfl rfl fl51_1) rfl hg3 rfl rfl ?_
     refine lg (op_loadC1 rfl rfl rfl ty49 rfl rfl) rfl hg3 rfl rfl ?_
     refine lg (o_mv rfl rfl rfl) rfl hg3 rfl rfl ?_
     refine lg (o_mv rfl rfl rfl) rfl hg3 rfl rfl ?_
     refine lg (o_ixN (i) rfl rfl rfl rfl ty26 (by first | rfl | simp | omega | (simp; omega)) hm ty51) rfl hg3 rfl rfl ?_
     refine lg (op_fieldC rfl rfl rfl fl51_1) rfl hg3 rfl rfl ?_
     refine lg (op_loadC1 rfl rfl rfl ty49 rfl rfl) rfl hg3 rfl rfl ?_
     refine lg (o_call (c42 x.set y.set (hs x hmem)) rfl rfl rfl ca42 rfl rfl) rfl hg3 rfl rfl ?_
     refine lg (op_not rfl rfl rfl) rfl hg3 rfl rfl ?_
     refine xlz (o_pF rfl rfl (g01 hg3) rfl rfl) ?_
     refine lend (fun _ => by kernel_rfl) ?_
     refine awp_cond rfl rfl (fun hc4 => ?_) (fun hc4 => ?_)
     ·
      refine xsr ?_
      refine xlz (o_as rfl rfl rfl) ?_
      refine lendF ?_
      refine awp_ret ?_
      refine ⟨[_], ⟨rfl, trivial⟩, ?_⟩
      first | exact ent_d1 rfl (by rw [← hI, drop_cons hn, drop_cons hm, cons_eq_iff]; simp_all [req_eq]) | exact ent_d1 rfl (by rw [← hI, List.drop_length, hlen, List.drop_length]; simp)
     ·
      refine awp_skip ?_
      refine awp_region mixed ?_
      refine xlz (o_mv rfl rfl rfl) ?_
      refine xlz (o_add rfl rfl rfl rfl (by first | omega | (simp; omega) | (simp at *; omega))) ?_
      refine xlz (o_as rfl rfl rfl) ?_
      refine lendF ?_
      refine ⟨i + 1, ?_, ?_, ?_⟩
      ·
       exact ⟨rng_le hn, by rw [← hI, drop_cons hn, drop_cons hm, cons_eq_iff]; simp_all [req_eq]⟩
      ·
       exact ent_k [] rfl rfl (xkc <| xkc <| xkc <| .nil) obs_nil rfl
      ·
       omega
    ·
     refine lskip rfl hg3 rfl ?_
     refine lskip rfl hg3 rfl ?_
     refine lskip rfl hg3 rfl ?_
     refine lskip rfl hg3 rfl ?_
     refine lskip rfl hg3 rfl ?_
     refine lskip rfl hg3 rfl ?_
     refine lskip rfl hg3 rfl ?_
     refine lskip rfl hg3 rfl ?_
     refine lskip rfl hg3 rfl ?_
     refine lskip rfl hg3 rfl ?_
     refine lskip rfl hg3 rfl ?_
     refine lskip rfl hg3 rfl ?_
     refine xlz (o_pT rfl rfl (g00 hg3) rfl rfl) ?_
     refine lend (fun _ => by kernel_rfl) ?_
     refine awp_condT rfl rfl rfl ?_
     refine xsr ?_
     refine xlz (o_as rfl rfl rfl) ?_
     refine lendF ?_
     refine awp_ret ?_
     refine ⟨[_], ⟨rfl, trivial⟩, ?_⟩
     first | exact ent_d1 rfl (by rw [← hI, drop_cons hn, drop_cons hm, cons_eq_iff]; simp_all [req_eq]) | exact ent_d1 rfl (by rw [← hI, List.drop_length, hlen, List.drop_length]; simp)
   ·
    obtain rfl := rng_ge (l := a) (by simpa using hc2) hi
    refine awp_exit ?_
    refine xsr ?_
    refine xlz (o_as rfl rfl rfl) ?_
    refine lendF ?_
    refine awp_ret ?_
    refine ⟨[_], ⟨rfl, trivial⟩, ?_⟩
    first | exact ent_d1 rfl (by rw [← hI, drop_cons hn, drop_cons hm, cons_eq_iff]; simp_all [req_eq]) | exact ent_d1 rfl (by rw [← hI, List.drop_length, hlen, List.drop_length]; simp)

set_option maxRecDepth 10000 in
theorem c21 (a b : Rls) (ha : a.reqs.length < 4611686018427387904) (hs : ∀ q ∈ a.reqs, q.set.length < 4611686018427387904) : Fn PR 21 [.d a.d, .d b.d] [] [.d (.bool (decide (a = b)))] [] := by
 refine fn_of_awp Tryz.func21 rfl (N := 52) rfl ?_
 refine xsr ?_
 refine xlz (op_box rfl rfl (by decide) rfl rfl) ?_
 refine xlz (op_box rfl rfl (by decide) rfl rfl) ?_
 refine xlz (o_as rfl rfl rfl) ?_
 refine lendF ?_
 refine xsr ?_
 refine xlz (op_fieldP rfl rfl rfl fl40_0) ?_
 refine xlz (op_load1 rfl rfl rfl rfl ty9 rfl rfl) ?_
 refine xlz (op_fieldP rfl rfl rfl fl40_0) ?_
 refine xlz (op_load1 rfl rfl rfl rfl ty9 rfl rfl) ?_
 refine xlz (op_binS rfl rfl rfl rfl rfl (fun h => by first | cases h | (simp; omega)) rfl) ?_
 refine xlz (o_mv rfl rfl rfl) ?_
 refine lsplit rfl (fun hg1 => ?_) (fun hg1 => ?_)
 ·
  refine lg (op_fieldP rfl rfl rfl fl40_1) rfl hg1 rfl rfl ?_
  refine lg (o_ldA rfl rfl rfl rfl ty38 rfl (xlb rfl) rfl) rfl hg1 rfl rfl ?_
  refine lg (op_fieldP rfl rfl rfl fl40_1) rfl hg1 rfl rfl ?_
  refine lg (o_ldA rfl rfl rfl rfl ty38 rfl (xlb rfl) rfl) rfl hg1 rfl rfl ?_
  refine lg (op_eqlA rfl (.inl rfl) rfl rfl rfl rfl ty38 es38 rfl rfl eg38) rfl hg1 rfl rfl ?_
  refine xlz (o_pT rfl rfl (g11 hg1) rfl rfl) ?_
  refine xlz (o_mv rfl rfl rfl) ?_
  refine lsplit rfl (fun hg2 => ?_) (fun hg2 => ?_)
  ·
   refine lg (op_fieldP rfl rfl rfl fl40_3) rfl hg2 rfl rfl ?_
   refine lg (op_load1 rfl rfl rfl rfl ty9 rfl rfl) rfl hg2 rfl rfl ?_
   refine lg (op_fieldP rfl rfl rfl fl40_3) rfl hg2 rfl rfl ?_
   refine lg (op_load1 rfl rfl rfl rfl ty9 rfl rfl) rfl hg2 rfl rfl ?_
   refine lg (op_binS rfl rfl rfl rfl rfl (fun h => by first | cases h | (simp; omega)) rfl) rfl hg2 rfl rfl ?_
   refine xlz (o_pT rfl rfl (g11 hg2) rfl rfl) ?_
   refine xlz (o_mv rfl rfl rfl) ?_
   refine lsplit rfl (fun hg3 => ?_) (fun hg3 => ?_)
   ·
    refine lg (op_fieldP rfl rfl rfl fl40_4) rfl hg3 rfl rfl ?_
    refine lg (op_load1 rfl rfl rfl rfl ty9 rfl rfl) rfl hg3 rfl rfl ?_
    refine lg (op_fieldP rfl rfl rfl fl40_4) rfl hg3 rfl rfl ?_
    refine lg (op_load1 rfl rfl rfl rfl ty9 rfl rfl) rfl hg3 rfl rfl ?_
    refine lg (op_binS rfl rfl rfl rfl rfl (fun h => by first | cases h | (simp; omega)) rfl) rfl hg3 rfl rfl ?_
    refine xlz (o_pT rfl rfl (g11 hg3) rfl rfl) ?_
    refine xlz (o_mv rfl rfl rfl) ?_
    refine lsplit rfl (fun hg4 => ?_) (fun hg4 => ?_)
    ·
     refine lg (op_fieldP rfl rfl rfl fl40_5) rfl hg4 rfl rfl ?_
     refine lg (op_load1 rfl rfl rfl rfl ty9 rfl rfl) rfl hg4 rfl rfl ?_
     refine lg (op_fieldP rfl rfl rfl fl40_5) rfl hg4 rfl rfl ?_
     refine lg (op_load1 rfl rfl rfl rfl ty9 rfl rfl) rfl hg4 rfl rfl ?_
     refine lg (op_binS rfl rfl rfl rfl rfl (fun h => by first | cases h | (simp; omega)) rfl) rfl hg4 rfl rfl ?_
     refine xlz (o_pT rfl rfl (g11 hg4) rfl rfl) ?_
     refine xlz (o_mv rfl rfl rfl) ?_
     refine lsplit rfl (fun hg5 => ?_) (fun hg5 => ?_)
     ·
      refine lg (op_fieldP rfl rfl rfl fl40_6) rfl hg5 rfl rfl ?_
      refine lg (op_load1 rfl rfl rfl rfl ty4 rfl rfl) rfl hg5 rfl rfl ?_
      refine lg (op_fieldP rfl rfl rfl fl40_6) rfl hg5 rfl rfl ?_
      refine lg (op_load1 rfl rfl rfl rfl ty4 rfl rfl) rfl hg5 rfl rfl ?_
      refine lg (op_eqlB rfl (.inl rfl) rfl rfl rfl rfl ty4) rfl hg5 rfl rfl ?_
      refine xlz (o_pT rfl rfl (g11 hg5) rfl rfl) ?_
      refine xlz (o_mv rfl rfl rfl) ?_
      refine lsplit rfl (fun hg6 => ?_) (fun hg6 => ?_)
      ·
       refine lg (op_fieldP rfl rfl rfl fl40_2) rfl hg6 rfl rfl ?_
       refine lg (op_load1 rfl rfl rfl rfl ty26 rfl rfl) rfl hg6 rfl rfl ?_
       refine lg (op_fieldP rfl rfl rfl fl40_2) rfl hg6 rfl rfl ?_
       refine lg (op_load1 rfl rfl rfl rfl ty26 rfl rfl) rfl hg6 rfl rfl ?_
       refine lg (o_call (c74 a.reqs b.reqs ha hs) rfl rfl rfl ca74 rfl rfl) rfl hg6 rfl rfl ?_
       refine xlz (o_pT rfl rfl (g11 hg6) rfl rfl) ?_
       refine xlz (o_as rfl rfl rfl) ?_
       refine lendF ?_
       refine awp_ret ?_
       refine ⟨[_], ⟨rfl, trivial⟩, ?_⟩
       exact ent_d1 rfl (by rw [rls_eq]; simp_all [eqDs_ver])
      ·
       refine lskip rfl hg6 rfl ?_
       refine lskip rfl hg6 rfl ?_
       refine lskip rfl hg6 rfl ?_
       refine lskip rfl hg6 rfl ?_
       refine lskip rfl hg6 rfl ?_
       refine xlz (o_pF rfl rfl (g10 hg6) rfl rfl) ?_
       refine xlz (o_as rfl rfl rfl) ?_
       refine lendF ?_
       refine awp_ret ?_
       refine ⟨[_], ⟨rfl, trivial⟩, ?_⟩
       exact ent_d1 rfl (by rw [rls_eq]; simp_all [eqDs_ver])
     ·
      refine lskip rfl hg5 rfl ?_
      refine lskip rfl hg5 rfl ?_
      refine lskip rfl hg5 rfl ?_
      refine lskip rfl hg5 rfl ?_
      refine lskip rfl hg5 rfl ?_
      refine xlz (o_pF rfl rfl (g10 hg5) rfl rfl) ?_
      refine xlz (o_mv rfl rfl rfl) ?_
      refine lskip rfl rfl rfl ?_
      refine lskip rfl rfl rfl ?_
      refine lskip rfl rfl rfl ?_
      refine lskip rfl rfl rfl ?_
      refine lskip rfl rfl rfl ?_
      refine xlz (o_pF rfl rfl rfl rfl rfl) ?_
      refine xlz (o_as rfl rfl rfl) ?_
      refine lendF ?_
      refine awp_ret ?_
      refine ⟨[_], ⟨rfl, trivial⟩, ?_⟩
      exact ent_d1 rfl (by rw [rls_eq]; simp_all [eqDs_ver])
    ·
     refine lskip rfl hg4 rfl ?_
     refine lskip rfl hg4 rfl ?_
     refine lskip rfl hg4 rfl ?_
     refine lskip rfl hg4 rfl ?_
     refine lskip rfl hg4 rfl ?_
     refine xlz (o_pF rfl rfl (g10 hg4) rfl rfl) ?_
     refine xlz (o_mv rfl rfl rfl) ?_
     refine lskip rfl rfl rfl ?_
     refine lskip rfl rfl rfl ?_
     refine lskip rfl rfl rfl ?_
     refine lskip rfl rfl rfl ?_
     refine lskip rfl rfl rfl ?_
     refine xlz (o_pF rfl rfl rfl rfl rfl) ?_
     refine xlz (o_mv rfl rfl rfl) ?_
     refine lskip rfl rfl rfl ?_
     refine lskip rfl rfl rfl ?_
     refine lskip rfl rfl rfl ?_
     refine lskip rfl rfl rfl ?_
     refine lskip rfl rfl rfl ?_
     refine xlz (o_pF rfl rfl rfl rfl rfl) ?_
     refine xlz (o_as rfl rfl rfl) ?_
     refine lendF ?_
     refine awp_ret ?_
     refine ⟨[_], ⟨rfl, trivial⟩, ?_⟩
     exact ent_d1 rfl (by rw [rls_eq]; simp_all [eqDs_ver])
   ·
    refine lskip rfl hg3 rfl ?_
    refine lskip rfl hg3 rfl ?_
    refine lskip rfl hg3 rfl ?_
    refine lskip rfl hg3 rfl ?_
    refine lskip rfl hg3 rfl ?_
    refine xlz (o_pF rfl rfl (g10 hg3) rfl rfl) ?_
    refine xlz (o_mv rfl rfl rfl) ?_
    refine lskip rfl rfl rfl ?_
    refine lskip rfl rfl rfl ?_
    refine lskip rfl rfl rfl ?_
    refine lskip rfl rfl rfl ?_
    refine lskip rfl rfl rfl ?_
    refine xlz (o_pF rfl rfl rfl rfl rfl) ?_
    refine xlz (o_mv rfl rfl rfl) ?_
    refine lskip rfl rfl rfl ?_
    refine lskip rfl rfl rfl ?_
    refine lskip rfl rfl rfl ?_
    refine lskip rfl rfl rfl ?_
    refine lskip rfl rfl rfl ?_
    refine xlz (o_pF rfl rfl rfl rfl rfl) ?_
    refine xlz (o_mv rfl rfl rfl) ?_
    refine lskip rfl rfl rfl ?_
    refine lskip rfl rfl rfl ?_
    refine lskip rfl rfl rfl ?_
    refine lskip rfl rfl rfl ?_
    refine lskip rfl rfl rfl ?_
    refine xlz (o_pF rfl rfl rfl rfl rfl) ?_
    refine xlz (o_as rfl rfl rfl) ?_
    refine lendF ?_
    refine awp_ret ?_
    refine ⟨[_], ⟨rfl, trivial⟩, ?_⟩
    exact ent_d1 rfl (by rw [rls_eq]; simp_all [eqDs_ver])
  ·
   refine lskip rfl hg2 rfl ?_
   refine lskip rfl hg2 rfl ?_
   refine lskip rfl hg2 rfl ?_
   refine lskip rfl hg2 rfl ?_
   refine lskip rfl hg2 rfl ?_
   refine xlz (o_pF rfl rfl (g10 hg2) rfl rfl) ?_
   refine xlz (o_mv rfl rfl rfl) ?_
   refine lskip rfl rfl rfl ?_
   refine lskip rfl rfl rfl ?_
   refine lskip rfl rfl rfl ?_
   refine lskip rfl rfl rfl ?_
   refine lskip rfl rfl rfl ?_
   refine xlz (o_pF rfl rfl rfl rfl rfl) ?_
   refine xlz (o_mv rfl rfl rfl) ?_
   refine lskip rfl rfl rfl ?_
   refine lskip rfl rfl rfl ?_
   refine lskip rfl rfl rfl ?_
   refine lskip rfl rfl rfl ?_
   refine lskip rfl rfl rfl ?_
   refine xlz (o_pF rfl rfl rfl rfl rfl) ?_
   refine xlz (o_mv rfl rfl rfl) ?_
   refine lskip rfl rfl rfl ?_
   refine lskip rfl rfl rfl ?_
   refine lskip rfl rfl rfl ?_
   refine lskip rfl rfl rfl ?_
   refine lskip rfl rfl rfl ?_
   refine xlz (o_pF rfl rfl rfl rfl rfl) ?_
   refine xlz (o_mv rfl rfl rfl) ?_
   refine lskip rfl rfl rfl ?_
   refine lskip rfl rfl rfl ?_
   refine lskip rfl rfl rfl ?_
   refine lskip rfl rfl rfl ?_
   refine lskip rfl rfl rfl ?_
   refine xlz (o_pF rfl rfl rfl rfl rfl) ?_
   refine xlz (o_as rfl rfl rfl) ?_
   refine lendF ?_
   refine awp_ret ?_
   refine ⟨[_], ⟨rfl, trivial⟩, ?_⟩
   exact ent_d1 rfl (by rw [rls_eq]; simp_all [eqDs_ver])
 ·
  refine lskip rfl hg1 rfl ?_
  refine lskip rfl hg1 rfl ?_
  refine lskip rfl hg1 rfl ?_
  refine lskip rfl hg1 rfl ?_
  refine lskip rfl hg1 rfl ?_
  refine xlz (o_pF rfl rfl (g10 hg1) rfl rfl) ?_
  refine xlz (o_mv rfl rfl rfl) ?_
  refine lskip rfl rfl rfl ?_
  refine lskip rfl rfl rfl ?_
  refine lskip rfl rfl rfl ?_
  refine lskip rfl rfl rfl ?_
  refine lskip rfl rfl rfl ?_
  refine xlz (o_pF rfl rfl rfl rfl rfl) ?_
  refine xlz (o_mv rfl rfl rfl) ?_
  refine lskip rfl rfl rfl ?_
  refine lskip rfl rfl rfl ?_
  refine lskip rfl rfl rfl ?_
  refine lskip rfl rfl rfl ?_
  refine lskip rfl rfl rfl ?_
  refine xlz (o_pF rfl rfl rfl rfl rfl) ?_
  refine xlz (o_mv rfl rfl rfl) ?_
  refine lskip rfl rfl rfl ?_
  refine lskip rfl rfl rfl ?_
  refine lskip rfl rfl rfl ?_
  refine lskip rfl rfl rfl ?_
  refine lskip rfl rfl rfl ?_
  refine xlz (o_pF rfl rfl rfl rfl rfl) ?_
  refine xlz (o_mv rfl rfl rfl) ?_
  refine lskip rfl rfl rfl ?_
  refine lskip rfl rfl rfl ?_
  refine lskip rfl rfl rfl ?_
  refine lskip rfl rfl rfl ?_
  refine lskip rfl rfl rfl ?_
  refine xlz (o_pF rfl rfl rfl rfl rfl) ?_
  refine xlz (o_mv rfl rfl rfl) ?_
  refine lskip rfl rfl rfl ?_
  refine lskip rfl rfl rfl ?_
  refine lskip rfl rfl rfl ?_
  refine lskip rfl rfl rfl ?_
  refine lskip rfl rfl rfl ?_
  refine xlz (o_pF rfl rfl rfl rfl rfl) ?_
  refine xlz (o_as rfl rfl rfl) ?_
  refine lendF ?_
  refine awp_ret ?_
  refine ⟨[_], ⟨rfl, trivial⟩, ?_⟩
  exact ent_d1 rfl (by rw [rls_eq]; simp_all [eqDs_ver])

set_option maxRecDepth 10000 in
theorem c11 (l : List Req) (hl : l.length < 4611686018427387904) : Fn PR 11 [.d (reqsD l)] [] [.d (.bool (fewReqs l))] [] := by
 refine fn_of_awp Tryz.func11 rfl (N := 29) rfl ?_
 refine xsr ?_
 refine xlz (o_as rfl rfl rfl) ?_
 refine lendF ?_
 refine awp_seq ?_
 refine xsr ?_
 refine xlz (o_as rfl rfl rfl) ?_
 refine lendF ?_
 refine awp_block ?_
 refine awp_loop (fun i => ⟨29, [(3, .d (I (i : Nat))), (0, .d (reqsD l))], []⟩) (fun i => l.length - i) (fun i => i ≤ l.length ∧ (l.drop i).all fewReq = l.all fewReq) 0 ?_ ?_ ?_
 ·
  exact ent_k [] rfl rfl (xkc <| xkc <| .nil) obs_nil rfl
 ·
  exact ⟨Nat.zero_le _, rfl⟩
 ·
  rintro i ⟨hi, hI⟩
  refine awp_seq ?_
  refine xsr ?_
  refine xlz (o_mv rfl rfl rfl) ?_
  refine xlz (o_mv rfl rfl rfl) ?_
  refine xlz (o_lenE (n := l.length) rfl rfl rfl ty26 (by simp)) ?_
  refine xlz (op_binI rfl rfl rfl rfl rfl (.inl rfl) rfl) ?_
  refine lendF ?_
  refine awp_cond rfl rfl (fun hc1 => ?_) (fun hc1 => ?_)
  ·
   obtain ⟨x, hn⟩ := rng_lt (l := l) (by simpa using hc1)
   have hlt := rng_le hn
   have hmem := List.mem_of_getElem? hn
   refine awp_skip ?_
   refine awp_seq ?_
   refine awp_block ?_
   refine xsr ?_
   refine xlz (o_mv rfl rfl rfl) ?_
   refine xlz (o_mv rfl rfl rfl) ?_
   refine xlz (o_ixN (i) rfl rfl rfl rfl ty26 (by first | rfl | simp | omega | (simp; omega)) hn ty51) ?_
   refine xlz (op_fieldC rfl rfl rfl fl51_0) ?_
   refine xlz (op_loadC1 rfl rfl rfl ty9 rfl rfl) ?_
   refine xlz (op_lenS rfl rfl rfl ty9) ?_
   refine xlz (op_binI rfl rfl rfl rfl rfl (.inl rfl) rfl) ?_
   refine xlz (o_mv rfl rfl rfl) ?_
   refine lsplit rfl (fun hg2 => ?_) (fun hg2 => ?_)
   ·
    refine lg (o_mv rfl rfl rfl) rfl hg2 rfl rfl ?_
    refine lg (o_mv rfl rfl rfl) rfl hg2 rfl rfl ?_
    refine lg (o_ixN (i) rfl rfl rfl rfl ty26 (by first | rfl | simp | omega | (simp; omega)) hn ty51) rfl hg2 rfl rfl ?_
    refine lg (op_fieldC rfl rfl rfl fl51_1) rfl hg2 rfl rfl ?_
    refine lg (op_loadC1 rfl rfl rfl ty49 rfl rfl) rfl hg2 rfl rfl ?_
    refine lg (o_lenE (n := x.set.length) rfl rfl rfl ty49 (by simp)) rfl hg2 rfl rfl ?_
    refine lg (op_binI rfl rfl rfl rfl rfl (.inl rfl) rfl) rfl hg2 rfl rfl ?_
    refine xlz (o_pF rfl rfl (g01 hg2) rfl rfl) ?_
    refine lendF ?_
    refine awp_cond rfl rfl (fun hc3 => ?_) (fun hc3 => ?_)
    ·
     refine xsr ?_
     refine xlz (o_as rfl rfl rfl) ?_
     refine lendF ?_
     refine awp_ret ?_
     refine ⟨[_], ⟨rfl, trivial⟩, ?_⟩
     first | exact ent_d1 rfl (by unfold fewReqs; rw [← hI, drop_cons hn]; simp_all [fewReq] <;> (intros; omega)) | exact ent_d1 rfl (by unfold fewReqs; rw [← hI]; simp)
    ·
     refine awp_skip ?_
     refine awp_region mixed ?_
     refine xlz (o_mv rfl rfl rfl) ?_
     refine xlz (o_add rfl rfl rfl rfl (by first | omega | (simp; omega) | (simp at *; omega))) ?_
     refine xlz (o_as rfl rfl rfl) ?_
     refine lendF ?_
     refine ⟨i + 1, ?_, ?_, ?_⟩
     ·
      exact ⟨rng_le hn, by rw [← hI, drop_cons hn]; simp_all [fewReq]⟩
     ·
      exact ent_k [] rfl rfl (xkc <| xkc <| .nil) obs_nil rfl
     ·
      omega
   ·
    refine lskip rfl hg2 rfl ?_
    refine lskip rfl hg2 rfl ?_
    refine lskip rfl hg2 rfl ?_
    refine lskip rfl hg2 rfl ?_
    refine lskip rfl hg2 rfl ?_
    refine lskip rfl hg2 rfl ?_
    refine lskip rfl hg2 rfl ?_
    refine xlz (o_pT rfl rfl (g00 hg2) rfl rfl) ?_
    refine lendF ?_
    refine awp_condT rfl rfl rfl ?_
    refine xsr ?_
    refine xlz (o_as rfl rfl rfl) ?_
    refine lendF ?_
    refine awp_ret ?_
    refine ⟨[_], ⟨rfl, trivial⟩, ?_⟩
    first | exact ent_d1 rfl (by unfold fewReqs; rw [← hI, drop_cons hn]; simp_all [fewReq] <;> (intros; omega)) | exact ent_d1 rfl (by unfold fewReqs; rw [← hI]; simp)
  ·
   obtain rfl := rng_ge (l := l) (by simpa using hc1) hi
   refine awp_exit ?_
   refine xsr ?_
   refine xlz (o_mv rfl rfl rfl) ?_
   refine xlz (o_lenE (n := l.length) rfl rfl rfl ty26 (by simp)) ?_
   refine xlz (op_binI rfl rfl rfl rfl rfl (.inl rfl) rfl) ?_
   refine xlz (o_as rfl rfl rfl) ?_
   refine lendF ?_
   refine awp_ret ?_
   refine ⟨[_], ⟨rfl, trivial⟩, ?_⟩
   first | exact ent_d1 rfl (by unfold fewReqs; rw [← hI, drop_cons hn]; simp_all [fewReq] <;> (intros; omega)) | exact ent_d1 rfl (by unfold fewReqs; rw [← hI]; simp)

set_option maxRecDepth 10000 in
theorem c10 (l : List Rls) (most : Int) (hl : l.length < 4611686018427387904) (hq : ∀ r ∈ l, r.reqs.length < 4611686018427387904) : Fn PR 10 [.d (relsD l), .d (I most)] [] [.d (.bool (fewRlss l most))] [] := by
 refine fn_of_awp Tryz.func10 rfl (N := 59) rfl ?_
 refine xsr ?_
 refine xlz (o_as rfl rfl rfl) ?_
 refine lendF ?_
 refine awp_seq ?_
 refine xsr ?_
 refine xlz (o_as rfl rfl rfl) ?_
 refine lendF ?_
 refine awp_block ?_
 refine awp_loop (fun i => ⟨59, [(5, .d (I (i : Nat))), (0, .d (relsD l)), (1, .d (I most))], []⟩) (fun i => l.length - i) (fun i => i ≤ l.length ∧ (l.drop i).all fewRls = l.all fewRls) 0 ?_ ?_ ?_
 ·
  exact ent_k [] rfl rfl (xkc <| xkc <| xkc <| .nil) obs_nil rfl
 ·
  exact ⟨Nat.zero_le _, rfl⟩
 ·
  rintro i ⟨hi, hI⟩
  refine awp_seq ?_
  refine xsr ?_
  refine xlz (o_mv rfl rfl rfl) ?_
  refine xlz (o_mv rfl rfl rfl) ?_
  refine xlz (o_lenE (n := l.length) rfl rfl rfl ty22 (by simp)) ?_
  refine xlz (op_binI rfl rfl rfl rfl rfl (.inl rfl) rfl) ?_
  refine lendF ?_
  refine awp_cond rfl rfl (fun hc1 => ?_) (fun hc1 => ?_)
  ·
   obtain ⟨x, hn⟩ := rng_lt (l := l) (by simpa using hc1)
   have hlt := rng_le hn
   have hmem := List.mem_of_getElem? hn
   refine awp_skip ?_
   refine awp_seq ?_
   refine awp_block ?_
   refine xsr ?_
   refine xlz (o_mv rfl rfl rfl) ?_
   refine xlz (o_mv rfl rfl rfl) ?_
   refine xlz (o_ixN (i) rfl rfl rfl rfl ty22 (by first | rfl | simp | omega | (simp; omega)) hn ty40) ?_
   refine xlz (op_fieldC rfl rfl rfl fl40_0) ?_
   refine xlz (op_loadC1 rfl rfl rfl ty9 rfl rfl) ?_
   refine xlz (op_lenS rfl rfl rfl ty9) ?_
   refine xlz (op_binI rfl rfl rfl rfl rfl (.inl rfl) rfl) ?_
   refine xlz (o_mv rfl rfl rfl) ?_
   refine lsplit rfl (fun hg2 => ?_) (fun hg2 => ?_)
   ·
    refine lg (o_mv rfl rfl rfl) rfl hg2 rfl rfl ?_
    refine lg (o_mv rfl rfl rfl) rfl hg2 rfl rfl ?_
    refine lg (o_ixN (i) rfl rfl rfl rfl ty22 (by first | rfl | simp | omega | (simp; omega)) hn ty40) rfl hg2 rfl rfl ?_
    refine lg (op_fieldC rfl rfl rfl fl40_3) rfl hg2 rfl rfl ?_
    refine lg (op_loadC1 rfl rfl rfl ty9 rfl rfl) rfl hg2 rfl rfl ?_
    refine lg (op_lenS rfl rfl rfl ty9) rfl hg2 rfl rfl ?_
    refine lg (op_binI rfl rfl rfl rfl rfl (.inl rfl) rfl) rfl hg2 rfl rfl ?_
    refine xlz (o_pF rfl rfl (g01 hg2) rfl rfl) ?_
    refine xlz (o_mv rfl rfl rfl) ?_
    refine lsplit rfl (fun hg3 => ?_) (fun hg3 => ?_)
    ·
     refine lg (o_mv rfl rfl rfl) rfl hg3 rfl rfl ?_
     refine lg (o_mv rfl rfl rfl) rfl hg3 rfl rfl ?_
     refine lg (o_ixN (i) rfl rfl rfl rfl ty22 (by first | rfl | simp | omega | (simp; omega)) hn ty40) rfl hg3 rfl rfl ?_
     refine lg (op_fieldC rfl rfl rfl fl40_4) rfl hg3 rfl rfl ?_
     refine lg (op_loadC1 rfl rfl rfl ty9 rfl rfl) rfl hg3 rfl rfl ?_
     refine lg (op_lenS rfl rfl rfl ty9) rfl hg3 rfl rfl ?_
     refine lg (op_binI rfl rfl rfl rfl rfl (.inl rfl) rfl) rfl hg3 rfl rfl ?_
     refine xlz (o_pF rfl rfl (g01 hg3) rfl rfl) ?_
     refine xlz (o_mv rfl rfl rfl) ?_
     refine lsplit rfl (fun hg4 => ?_) (fun hg4 => ?_)
     ·
      refine lg (o_mv rfl rfl rfl) rfl hg4 rfl rfl ?_
      refine lg (o_mv rfl rfl rfl) rfl hg4 rfl rfl ?_
      refine lg (o_ixN (i) rfl rfl rfl rfl ty22 (by first | rfl | simp | omega | (simp; omega)) hn ty40) rfl hg4 rfl rfl ?_
      refine lg (op_fieldC rfl rfl rfl fl40_5) rfl hg4 rfl rfl ?_
      refine lg (op_loadC1 rfl rfl rfl ty9 rfl rfl) rfl hg4 rfl rfl ?_
      refine lg (op_lenS rfl rfl rfl ty9) rfl hg4 rfl rfl ?_
      refine lg (op_binI rfl rfl rfl rfl rfl (.inl rfl) rfl) rfl hg4 rfl rfl ?_
      refine xlz (o_pF rfl rfl (g01 hg4) rfl rfl) ?_
      refine xlz (o_mv rfl rfl rfl) ?_
      refine lsplit rfl (fun hg5 => ?_) (fun hg5 => ?_)
      ·
       refine lg (o_mv rfl rfl rfl) rfl hg5 rfl rfl ?_
       refine lg (o_mv rfl rfl rfl) rfl hg5 rfl rfl ?_
       refine lg (o_ixN (i) rfl rfl rfl rfl ty22 (by first | rfl | simp | omega | (simp; omega)) hn ty40) rfl hg5 rfl rfl ?_
       refine lg (op_fieldC rfl rfl rfl fl40_2) rfl hg5 rfl rfl ?_
       refine lg (op_loadC1 rfl rfl rfl ty26 rfl rfl) rfl hg5 rfl rfl ?_
       refine lg (o_call (c11 x.reqs (hq x hmem)) rfl rfl rfl ca11 rfl rfl) rfl hg5 rfl rfl ?_
       refine lg (op_not rfl rfl rfl) rfl hg5 rfl rfl ?_
       refine xlz (o_pF rfl rfl (g01 hg5) rfl rfl) ?_
       refine lendF ?_
       refine awp_cond rfl rfl (fun hc6 => ?_) (fun hc6 => ?_)
       ·
        refine xsr ?_
        refine xlz (o_as rfl rfl rfl) ?_
        refine lendF ?_
        refine awp_ret ?_
        refine ⟨[_], ⟨rfl, trivial⟩, ?_⟩
        first | exact ent_d1 rfl (by unfold fewRlss; rw [← hI, drop_cons hn]; simp_all [fewRls] <;> (intros; omega)) | exact ent_d1 rfl (by unfold fewRlss; rw [← hI]; simp)
       ·
        refine awp_skip ?_
        refine awp_region mixed ?_
        refine xlz (o_mv rfl rfl rfl) ?_
        refine xlz (o_add rfl rfl rfl rfl (by first | omega | (simp; omega) | (simp at *; omega))) ?_
        refine xlz (o_as rfl rfl rfl) ?_
        refine lendF ?_
        refine ⟨i + 1, ?_, ?_, ?_⟩
        ·
         exact ⟨rng_le hn, by rw [← hI, drop_cons hn]; simp_all [fewRls]⟩
        ·
         exact ent_k [] rfl rfl (xkc <| xkc <| xkc <| .nil) obs_nil rfl
        ·
         omega
      ·
       refine lskip rfl hg5 rfl ?_
       refine lskip rfl hg5 rfl ?_
       refine lskip rfl hg5 rfl ?_
       refine lskip rfl hg5 rfl ?_
       refine lskip rfl hg5 rfl ?_
       refine lskip rfl hg5 rfl ?_
       refine lskip rfl hg5 rfl ?_
       refine xlz (o_pT rfl rfl (g00 hg5) rfl rfl) ?_
       refine lendF ?_
       refine awp_condT rfl rfl rfl ?_
       refine xsr ?_
       refine xlz (o_as rfl rfl rfl) ?_
       refine lendF ?_
       refine awp_ret ?_
       refine ⟨[_], ⟨rfl, trivial⟩, ?_⟩
       first | exact ent_d1 rfl (by unfold fewRlss; rw [← hI, drop_cons hn]; simp_all [fewRls] <;> (intros; omega)) | exact ent_d1 rfl (by unfold fewRlss; rw [← hI]; simp)
     ·
      refine lskip rfl hg4 rfl ?_
      refine lskip rfl hg4 rfl ?_
      refine lskip rfl hg4 rfl ?_
      refine lskip rfl hg4 rfl ?_
      refine lskip rfl hg4 rfl ?_
      refine lskip rfl hg4 rfl ?_
      refine lskip rfl hg4 rfl ?_
      refine xlz (o_pT rfl rfl (g00 hg4) rfl rfl) ?_
      refine xlz (o_mv rfl rfl rfl) ?_
      refine lskip rfl rfl rfl ?_
      refine lskip rfl rfl rfl ?_
      refine lskip rfl rfl rfl ?_
      refine lskip rfl rfl rfl ?_
      refine lskip rfl rfl rfl ?_
      refine lskip rfl rfl rfl ?_
      refine lskip rfl rfl rfl ?_
      refine xlz (o_pT rfl rfl rfl rfl rfl) ?_
      refine lendF ?_
      refine awp_condT rfl rfl rfl ?_
      refine xsr ?_
      refine xlz (o_as rfl rfl rfl) ?_
      refine lendF ?_
      refine awp_ret ?_
      refine ⟨[_], ⟨rfl, trivial⟩, ?_⟩
      first | exact ent_d1 rfl (by unfold fewRlss; rw [← hI, drop_cons hn]; simp_all [fewRls] <;> (intros; omega)) | exact ent_d1 rfl (by unfold fewRlss; rw [← hI]; simp)
    ·
     refine lskip rfl hg3 rfl ?_
     refine lskip rfl hg3 rfl ?_
     refine lskip rfl hg3 rfl ?_
     refine lskip rfl hg3 rfl ?_
     refine lskip rfl hg3 rfl ?_
     refine lskip rfl hg3 rfl ?_
     refine lskip rfl hg3 rfl ?_
     refine xlz (o_pT rfl rfl (g00 hg3) rfl rfl) ?_
     refine xlz (o_mv rfl rfl rfl) ?_
     refine lskip rfl rfl rfl ?_
     refine lskip rfl rfl rfl ?_
     refine lskip rfl rfl rfl ?_
     refine lskip rfl rfl rfl ?_
     refine lskip rfl rfl rfl ?_
     refine lskip rfl rfl rfl ?_
     refine lskip rfl rfl rfl ?_
     refine xlz (o_pT rfl rfl rfl rfl rfl) ?_
     refine xlz (o_mv rfl rfl rfl) ?_
     refine lskip rfl rfl rfl ?_
     refine lskip rfl rfl rfl ?_
     refine lskip rfl rfl rfl ?_
     refine lskip rfl rfl rfl ?_
     refine lskip rfl rfl rfl ?_
     refine lskip rfl rfl rfl ?_
     refine lskip rfl rfl rfl ?_
     refine xlz (o_pT rfl rfl rfl rfl rfl) ?_
     refine lendF ?_
     refine awp_condT rfl rfl rfl ?_
     refine xsr ?_
     refine xlz (o_as rfl rfl rfl) ?_
     refine lendF ?_
     refine awp_ret ?_
     refine ⟨[_], ⟨rfl, trivial⟩, ?_⟩
     first | exact ent_d1 rfl (by unfold fewRlss; rw [← hI, drop_cons hn]; simp_all [fewRls] <;> (intros; omega)) | exact ent_d1 rfl (by unfold fewRlss; rw [← hI]; simp)
   ·
    refine lskip rfl hg2 rfl ?_
    refine lskip rfl hg2 rfl ?_
    refine lskip rfl hg2 rfl ?_
    refine lskip rfl hg2 rfl ?_
    refine lskip rfl hg2 rfl ?_
    refine lskip rfl hg2 rfl ?_
    refine lskip rfl hg2 rfl ?_
    refine xlz (o_pT rfl rfl (g00 hg2) rfl rfl) ?_
    refine xlz (o_mv rfl rfl rfl) ?_
    refine lskip rfl rfl rfl ?_
    refine lskip rfl rfl rfl ?_
    refine lskip rfl rfl rfl ?_
    refine lskip rfl rfl rfl ?_
    refine lskip rfl rfl rfl ?_
    refine lskip rfl rfl rfl ?_
    refine lskip rfl rfl rfl ?_
    refine xlz (o_pT rfl rfl rfl rfl rfl) ?_
    refine xlz (o_mv rfl rfl rfl) ?_
    refine lskip rfl rfl rfl ?_
    refine lskip rfl rfl rfl ?_
    refine lskip rfl rfl rfl ?_
    refine lskip rfl rfl rfl ?_
    refine lskip rfl rfl rfl ?_
    refine lskip rfl rfl rfl ?_
    refine lskip rfl rfl rfl ?_
    refine xlz (o_pT rfl rfl rfl rfl rfl) ?_
    refine xlz (o_mv rfl rfl rfl) ?_
    refine lskip rfl rfl rfl ?_
    refine lskip rfl rfl rfl ?_
    refine lskip rfl rfl rfl ?_
    refine lskip rfl rfl rfl ?_
    refine lskip rfl rfl rfl ?_
    refine lskip rfl rfl rfl ?_
    refine lskip rfl rfl rfl ?_
    refine xlz (o_pT rfl rfl rfl rfl rfl) ?_
    refine lendF ?_
    refine awp_condT rfl rfl rfl ?_
    refine xsr ?_
    refine xlz (o_as rfl rfl rfl) ?_
    refine lendF ?_
    refine awp_ret ?_
    refine ⟨[_], ⟨rfl, trivial⟩, ?_⟩
    first | exact ent_d1 rfl (by unfold fewRlss; rw [← hI, drop_cons hn]; simp_all [fewRls] <;> (intros; omega)) | exact ent_d1 rfl (by unfold fewRlss; rw [← hI]; simp)
  ·
   obtain rfl := rng_ge (l := l) (by simpa using hc1) hi
   refine awp_exit ?_
   refine xsr ?_
   refine xlz (o_mv rfl rfl rfl) ?_
   refine xlz (o_lenE (n := l.length) rfl rfl rfl ty22 (by simp)) ?_
   refine xlz (o_mv rfl rfl rfl) ?_
   refine xlz (op_binI rfl rfl rfl rfl rfl (.inl rfl) rfl) ?_
   refine xlz (o_as rfl rfl rfl) ?_
   refine lendF ?_
   refine awp_ret ?_
   refine ⟨[_], ⟨rfl, trivial⟩, ?_⟩
   first | exact ent_d1 rfl (by unfold fewRlss; rw [← hI, drop_cons hn]; simp_all [fewRls] <;> (intros; omega)) | exact ent_d1 rfl (by unfold fewRlss; rw [← hI]; simp)

end Go.Pm

namespace Go.Pm
open Go.Proofs

set_option maxRecDepth 10000 in
theorem c93 (n : Nat) (h64 : n < 18446744073709551616) : Fn PR 93 [.d (.int .u64 (n : Nat))] [] [.d (.str (uvar n))] [] := by
 refine fn_of_awp Tryz.func93 rfl (N := 20) rfl ?_
 refine xsr ?_
 refine xlz (o_as rfl rfl rfl) ?_
 refine lendF ?_
 refine xsr ?_
 refine xlz (o_as rfl rfl rfl) ?_
 refine lendF ?_
 refine awp_seq ?_
 refine awp_block ?_
 refine awp_ent (ent_tail 3 500003 1 rfl rfl rfl (by decide)) ?_
 refine awp_loop (fun x => ⟨20, [(0, .d (.int .u64 (x.2.1 : Nat))), (3, .tl (bytD x.2.2) (some 500003))], [(500003, .tail 1)]⟩) (fun x => x.1) (fun x => x.2.1 < 128 ^ (x.1 + 1) ∧ x.2.1 < 18446744073709551616 ∧ x.2.2.length + x.1 = 9 ∧ x.2.2 ++ uvarF x.1 x.2.1 = uvar n) (9, n, []) ?_ ?_ ?_
 ·
  exact ent_k [] rfl rfl (xkc <| xkc <| .nil) (obs_cons rfl (o_eq rfl) obs_nil) rfl
 ·
  exact ⟨Nat.lt_of_lt_of_le h64 (by show 18446744073709551616 ≤ 128 ^ (9 + 1); decide), h64, rfl, rfl⟩
 ·
  rintro ⟨f, m, bs⟩ ⟨h1, h2, h3, hI⟩
  dsimp only at h1 h2 h3 hI ⊢
  refine awp_seq ?_
  refine xsr ?_
  refine xlz (o_mv rfl rfl rfl) ?_
  refine xlz (op_binI rfl rfl rfl rfl rfl (.inl rfl) rfl) ?_
  refine lendF ?_
  refine awp_cond rfl rfl (fun hc1 => ?_) (fun hc1 => ?_)
  ·
   have hm : 127 < m := by have := hc1; simp at this; omega
   obtain ⟨f, rfl⟩ : ∃ g, f = g + 1 := by cases f with | zero => simp at h1; omega | succ g => exact ⟨g, rfl⟩
   refine awp_skip ?_
   refine awp_block ?_
   refine xsr ?_
   refine xlz (o_mv rfl rfl rfl) ?_
   refine xlz (o_mv rfl rfl rfl) ?_
   refine xlz (o_eqI (op_convI rfl rfl rfl ty136 ty5) (conv8 m)) ?_
   refine xlz (o_eqI (op_binI rfl rfl rfl rfl rfl (.inl rfl) rfl) (or128 m)) ?_
   refine xlz (o_bs rfl rfl rfl rfl rfl ty159 ty5 rfl rfl) ?_
   refine xlz (o_app rfl rfl (by decide) rfl rfl rfl ty159 ty5 rfl (by decide) rfl (by first | exact cl_map fun _ => rfl | exact cl_nil | exact cl_one rfl | exact cl_app (cl_map fun _ => rfl) (cl_one rfl) | exact cl_app (cl_map fun _ => rfl) (cl_map fun _ => rfl)) (by first | exact cl_map fun _ => rfl | exact cl_nil | exact cl_one rfl | exact cl_app (cl_map fun _ => rfl) (cl_one rfl) | exact cl_app (cl_map fun _ => rfl) (cl_map fun _ => rfl)) (by simp; omega) (by decide) (zs := bytD (bs ++ [UInt8.ofNat (m % 128 + 128)])) (by simp [bytD])) ?_
   refine xlz (o_as rfl rfl rfl) ?_
   refine lendF ?_
   refine awp_region mixed ?_
   refine xlz (o_mv rfl rfl rfl) ?_
   refine xlz (o_eqI (op_binI rfl rfl rfl rfl rfl (.inr (.inr rfl)) rfl) (shr7 m)) ?_
   refine xlz (o_as rfl rfl rfl) ?_
   refine lendF ?_
   refine ⟨(f, m / 128, bs ++ [UInt8.ofNat (m % 128 + 128)]), ?_, ?_, ?_⟩
   ·
    exact ⟨pow128 f m h1, by show m / 128 < _; omega, by show (bs ++ [UInt8.ofNat (m % 128 + 128)]).length + f = 9; simp; omega, by show (bs ++ [UInt8.ofNat (m % 128 + 128)]) ++ uvarF f (m / 128) = _; rw [← hI, uvarF, if_neg (by omega)]; simp⟩
   ·
    exact ent_k [(500003, 11)] rfl rfl (xkc <| xkc <| .nil) (obs_cons rfl (o_eq rfl) obs_nil) rfl
   ·
    exact Nat.lt_succ_self f
  ·
   have hm : m < 128 := by have := hc1; simp at this; omega
   refine awp_exit ?_
   refine xsr ?_
   refine xlz (o_mv rfl rfl rfl) ?_
   refine xlz (o_mv rfl rfl rfl) ?_
   refine xlz (o_eqI (op_convI rfl rfl rfl ty136 ty5) (conv8 m)) ?_
   refine xlz (o_bs rfl rfl rfl rfl rfl ty159 ty5 rfl rfl) ?_
   refine xlz (o_app rfl rfl (by decide) rfl rfl rfl ty159 ty5 rfl (by decide) rfl (by first | exact cl_map fun _ => rfl | exact cl_nil | exact cl_one rfl | exact cl_app (cl_map fun _ => rfl) (cl_one rfl) | exact cl_app (cl_map fun _ => rfl) (cl_map fun _ => rfl)) (by first | exact cl_map fun _ => rfl | exact cl_nil | exact cl_one rfl | exact cl_app (cl_map fun _ => rfl) (cl_one rfl) | exact cl_app (cl_map fun _ => rfl) (cl_map fun _ => rfl)) (by simp; omega) (by decide) (zs := bytD (bs ++ [UInt8.ofNat m])) (by simp [bytD])) ?_
   refine xlz (op_convB rfl rfl rfl ty159 ty5 ty9) ?_
   refine xlz (o_as rfl rfl rfl) ?_
   refine lendF ?_
   refine awp_ret ?_
   refine ⟨[_], ⟨rfl, trivial⟩, ?_⟩
   exact ent_st rfl (by rw [← hI, uvarF_lt hm])

set_option maxRecDepth 10000 in
theorem c97 (n : Nat) (h64 : n < 18446744073709551616) : Fn PR 97 [.d (.int .u64 (n : Nat))] [] [.d (.str (uvar n))] [] := by
 refine fn_of_awp Tryz.func97 rfl (N := 22) rfl ?_
 refine xsr ?_
 refine xlz (o_as rfl rfl rfl) ?_
 refine lendF ?_
 refine xsr ?_
 refine xlz (o_bs rfl rfl rfl rfl rfl ty159 ty5 rfl rfl) ?_
 refine xlz (o_as rfl rfl rfl) ?_
 refine lendF ?_
 refine awp_seq ?_
 refine awp_block ?_
 refine awp_ent (ent_tail 3 500003 1 rfl rfl rfl (by decide)) ?_
 refine awp_loop (fun x => ⟨22, [(0, .d (.int .u64 (x.2.1 : Nat))), (3, .tl (bytD x.2.2) (some 500003))], [(500003, .tail 1)]⟩) (fun x => x.1) (fun x => x.2.1 < 128 ^ (x.1 + 1) ∧ x.2.1 < 18446744073709551616 ∧ x.2.2.length + x.1 = 9 ∧ x.2.2 ++ uvarF x.1 x.2.1 = uvar n) (9, n, []) ?_ ?_ ?_
 ·
  exact ent_k [] rfl rfl (xkc <| xkc <| .nil) (obs_cons rfl (o_eq rfl) obs_nil) rfl
 ·
  exact ⟨Nat.lt_of_lt_of_le h64 (by show 18446744073709551616 ≤ 128 ^ (9 + 1); decide), h64, rfl, rfl⟩
 ·
  rintro ⟨f, m, bs⟩ ⟨h1, h2, h3, hI⟩
  dsimp only at h1 h2 h3 hI ⊢
  refine awp_seq ?_
  refine xsr ?_
  refine xlz (o_mv rfl rfl rfl) ?_
  refine xlz (op_binI rfl rfl rfl rfl rfl (.inl rfl) rfl) ?_
  refine lendF ?_
  refine awp_cond rfl rfl (fun hc1 => ?_) (fun hc1 => ?_)
  ·
   have hm : 127 < m := by have := hc1; simp at this; omega
   obtain ⟨f, rfl⟩ : ∃ g, f = g + 1 := by cases f with | zero => simp at h1; omega | succ g => exact ⟨g, rfl⟩
   refine awp_skip ?_
   refine awp_block ?_
   refine xsr ?_
   refine xlz (o_mv rfl rfl rfl) ?_
   refine xlz (o_mv rfl rfl rfl) ?_
   refine xlz (o_eqI (op_binI rfl rfl rfl rfl rfl (.inl rfl) rfl) (rem128 m)) ?_
   refine xlz (o_eqI (op_convI rfl rfl rfl ty136 ty5) (conv8 (m % 128))) ?_
   refine xlz (o_eqI (op_binI rfl rfl rfl rfl rfl (.inl rfl) rfl) (add128 m)) ?_
   refine xlz (o_bs rfl rfl rfl rfl rfl ty159 ty5 rfl rfl) ?_
   refine xlz (o_app rfl rfl (by decide) rfl rfl rfl ty159 ty5 rfl (by decide) rfl (by first | exact cl_map fun _ => rfl | exact cl_nil | exact cl_one rfl | exact cl_app (cl_map fun _ => rfl) (cl_one rfl) | exact cl_app (cl_map fun _ => rfl) (cl_map fun _ => rfl)) (by first | exact cl_map fun _ => rfl | exact cl_nil | exact cl_one rfl | exact cl_app (cl_map fun _ => rfl) (cl_one rfl) | exact cl_app (cl_map fun _ => rfl) (cl_map fun _ => rfl)) (by simp; omega) (by decide) (zs := bytD (bs ++ [UInt8.ofNat (m % 128 + 128)])) (by simp [bytD])) ?_
   refine xlz (o_as rfl rfl rfl) ?_
   refine lendF ?_
   refine awp_region mixed ?_
   refine xlz (o_mv rfl rfl rfl) ?_
   refine xlz (o_eqI (op_binI rfl rfl rfl rfl rfl (.inl rfl) rfl) (quo128 m h2)) ?_
   refine xlz (o_as rfl rfl rfl) ?_
   refine lendF ?_
   refine ⟨(f, m / 128, bs ++ [UInt8.ofNat (m % 128 + 128)]), ?_, ?_, ?_⟩
   ·
    exact ⟨pow128 f m h1, by show m / 128 < _; omega, by show (bs ++ [UInt8.ofNat (m % 128 + 128)]).length + f = 9; simp; omega, by show (bs ++ [UInt8.ofNat (m % 128 + 128)]) ++ uvarF f (m / 128) = _; rw [← hI, uvarF, if_neg (by omega)]; simp⟩
   ·
    exact ent_k [(500003, 13)] rfl rfl (xkc <| xkc <| .nil) (obs_cons rfl (o_eq rfl) obs_nil) rfl
   ·
    exact Nat.lt_succ_self f
  ·
   have hm : m < 128 := by have := hc1; simp at this; omega
   refine awp_exit ?_
   refine xsr ?_
   refine xlz (o_mv rfl rfl rfl) ?_
   refine xlz (o_mv rfl rfl rfl) ?_
   refine xlz (o_eqI (op_convI rfl rfl rfl ty136 ty5) (conv8 m)) ?_
   refine xlz (o_bs rfl rfl rfl rfl rfl ty159 ty5 rfl rfl) ?_
   refine xlz (o_app rfl rfl (by decide) rfl rfl rfl ty159 ty5 rfl (by decide) rfl (by first | exact cl_map fun _ => rfl | exact cl_nil | exact cl_one rfl | exact cl_app (cl_map fun _ => rfl) (cl_one rfl) | exact cl_app (cl_map fun _ => rfl) (cl_map fun _ => rfl)) (by first | exact cl_map fun _ => rfl | exact cl_nil | exact cl_one rfl | exact cl_app (cl_map fun _ => rfl) (cl_one rfl) | exact cl_app (cl_map fun _ => rfl) (cl_map fun _ => rfl)) (by simp; omega) (by decide) (zs := bytD (bs ++ [UInt8.ofNat m])) (by simp [bytD])) ?_
   refine xlz (op_convB rfl rfl rfl ty159 ty5 ty9) ?_
   refine xlz (o_as rfl rfl rfl) ?_
   refine lendF ?_
   refine awp_ret ?_
   refine ⟨[_], ⟨rfl, trivial⟩, ?_⟩
   exact ent_st rfl (by rw [← hI, uvarF_lt hm])

set_option maxRecDepth 10000 in
theorem c56 (n : Int) (hn : n < 9223372036854775808) : Fn PR 56 [.d (I n)] [] [.d (.str (uintS n).1), .d (I (uintS n).2)] [] := by
 refine fn_of_awp Tryz.func56 rfl (N := 9) rfl ?_
 refine xsr ?_
 refine xlz (o_as rfl rfl rfl) ?_
 refine xlz (o_as rfl rfl rfl) ?_
 refine lendF ?_
 refine awp_seq ?_
 refine xsr ?_
 refine xlz (o_mv rfl rfl rfl) ?_
 refine xlz (op_binI rfl rfl rfl rfl rfl (.inl rfl) rfl) ?_
 refine lendF ?_
 refine awp_cond rfl rfl (fun hc1 => ?_) (fun hc1 => ?_)
 ·
  have h0 : n < 0 := by simpa using hc1
  refine xsr ?_
  refine xlz (o_as rfl rfl rfl) ?_
  refine xlz (o_as rfl rfl rfl) ?_
  refine lendF ?_
  refine awp_ret ?_
  refine ⟨[_, _], ⟨rfl, rfl, trivial⟩, ?_⟩
  exact ent_d2 rfl (by simp [uintS, h0]) rfl (by simp [uintS, h0])
 ·
  have h0 : ¬ n < 0 := by simpa using hc1
  obtain ⟨m, rfl⟩ := Int.eq_ofNat_of_zero_le (Int.not_lt.1 h0)
  refine awp_skip ?_
  refine xsr ?_
  refine xlz (o_mv rfl rfl rfl) ?_
  refine xlz (o_eqI (op_convI rfl rfl rfl ty3 ty136) (wrapU64 (by omega) (by omega))) ?_
  refine xlz (o_call (c93 m (by omega)) rfl rfl rfl ca93 rfl rfl) ?_
  refine xlz (o_as rfl rfl rfl) ?_
  refine xlz (o_as rfl rfl rfl) ?_
  refine lendF ?_
  refine awp_ret ?_
  refine ⟨[_, _], ⟨rfl, rfl, trivial⟩, ?_⟩
  exact ent_d2 rfl (by simp [uintS, h0]) rfl (by simp [uintS, h0])

set_option maxRecDepth 10000 in
theorem c98 (n : Int) (hn : n < 9223372036854775808) : Fn PR 98 [.d (I n)] [] [.d (.str (uintS n).1), .d (I (uintS n).2)] [] := by
 refine fn_of_awp Tryz.func98 rfl (N := 9) rfl ?_
 refine xsr ?_
 refine xlz (o_as rfl rfl rfl) ?_
 refine xlz (o_as rfl rfl rfl) ?_
 refine lendF ?_
 refine awp_seq ?_
 refine xsr ?_
 refine xlz (o_mv rfl rfl rfl) ?_
 refine xlz (op_binI rfl rfl rfl rfl rfl (.inl rfl) rfl) ?_
 refine lendF ?_
 refine awp_cond rfl rfl (fun hc1 => ?_) (fun hc1 => ?_)
 ·
  have h0 : n < 0 := by simpa using hc1
  refine xsr ?_
  refine xlz (o_as rfl rfl rfl) ?_
  refine xlz (o_as rfl rfl rfl) ?_
  refine lendF ?_
  refine awp_ret ?_
  refine ⟨[_, _], ⟨rfl, rfl, trivial⟩, ?_⟩
  exact ent_d2 rfl (by simp [uintS, h0]) rfl (by simp [uintS, h0])
 ·
  have h0 : ¬ n < 0 := by simpa using hc1
  obtain ⟨m, rfl⟩ := Int.eq_ofNat_of_zero_le (Int.not_lt.1 h0)
  refine awp_skip ?_
  refine xsr ?_
  refine xlz (o_mv rfl rfl rfl) ?_
  refine xlz (o_eqI (op_convI rfl rfl rfl ty3 ty136) (wrapU64 (by omega) (by omega))) ?_
  refine xlz (o_call (c97 m (by omega)) rfl rfl rfl ca97 rfl rfl) ?_
  refine xlz (o_as rfl rfl rfl) ?_
  refine xlz (o_as rfl rfl rfl) ?_
  refine lendF ?_
  refine awp_ret ?_
  refine ⟨[_, _], ⟨rfl, rfl, trivial⟩, ?_⟩
  exact ent_d2 rfl (by simp [uintS, h0]) rfl (by simp [uintS, h0])

set_option maxRecDepth 10000 in
theorem c58 (s : Bytes) (hs : s.length < 4611686018427387904) : Fn PR 58 [.d (.str s)] [] [.d (.str (textS s))] [] := by
 refine fn_of_awp Tryz.func58 rfl (N := 9) rfl ?_
 refine xsr ?_
 refine xlz (o_as rfl rfl rfl) ?_
 refine lendF ?_
 refine xsr ?_
 refine xlz (o_mv rfl rfl rfl) ?_
 refine xlz (op_lenS rfl rfl rfl ty9) ?_
 refine xlz (o_eqI (op_convI rfl rfl rfl ty3 ty136) (wrapU64 (x := s.length) (by omega) (by omega))) ?_
 refine xlz (o_call (c93 s.length (by omega)) rfl rfl rfl ca93 rfl rfl) ?_
 refine xlz (o_mv rfl rfl rfl) ?_
 refine xlz (op_binS rfl rfl rfl rfl rfl (fun _ => by have := uvar_len s.length; omega) rfl) ?_
 refine xlz (o_as rfl rfl rfl) ?_
 refine lendF ?_
 refine awp_ret ?_
 refine ⟨[_], ⟨rfl, trivial⟩, ?_⟩
 exact ent_st rfl rfl

set_option maxRecDepth 10000 in
theorem c60 (s : Bytes) (hs : s.length < 4611686018427387904) : Fn PR 60 [.d (.str s)] [] [.d (.str (textS s))] [] := by
 refine fn_of_awp Tryz.func60 rfl (N := 9) rfl ?_
 refine xsr ?_
 refine xlz (o_as rfl rfl rfl) ?_
 refine lendF ?_
 refine xsr ?_
 refine xlz (o_mv rfl rfl rfl) ?_
 refine xlz (op_lenS rfl rfl rfl ty9) ?_
 refine xlz (o_eqI (op_convI rfl rfl rfl ty3 ty136) (wrapU64 (x := s.length) (by omega) (by omega))) ?_
 refine xlz (o_call (c97 s.length (by omega)) rfl rfl rfl ca97 rfl rfl) ?_
 refine xlz (o_mv rfl rfl rfl) ?_
 refine xlz (op_binS rfl rfl rfl rfl rfl (fun _ => by have := uvar_len s.length; omega) rfl) ?_
 refine xlz (o_as rfl rfl rfl) ?_
 refine lendF ?_
 refine awp_ret ?_
 refine ⟨[_], ⟨rfl, trivial⟩, ?_⟩
 exact ent_st rfl rfl

set_option maxRecDepth 10000 in
theorem c61 (n : Int) (hn : n < 9223372036854775808) : Fn PR 61 [.d (I n)] [] [.d (.str (uintS n).1)] [] := by
 refine fn_of_awp Tryz.func61 rfl (N := 11) rfl ?_
 refine xsr ?_
 refine xlz (o_as rfl rfl rfl) ?_
 refine lendF ?_
 refine xsr ?_
 refine xlz (o_mv rfl rfl rfl) ?_
 refine xlz (o_call (c98 n hn) rfl rfl rfl ca98 rfl rfl) ?_
 refine xlz (o_mv rfl rfl rfl) ?_
 refine xlz (op_extract rfl rfl rfl rfl) ?_
 refine xlz (op_extract rfl rfl rfl rfl) ?_
 refine xlz (o_as rfl rfl rfl) ?_
 refine xlz (o_as rfl rfl rfl) ?_
 refine lendF ?_
 refine xsr ?_
 refine xlz (o_mv rfl rfl rfl) ?_
 refine xlz (o_as rfl rfl rfl) ?_
 refine lendF ?_
 refine awp_ret ?_
 refine ⟨[_], ⟨rfl, trivial⟩, ?_⟩
 exact ent_d1 rfl (by first | rfl | simp_all)

end Go.Pm

namespace Go.Pm
open Go.Proofs

set_option maxRecDepth 10000 in
theorem c131 (r : RS) (p : Nat) (hs : r.s.length < 4611686018427387904) (hp : p ≤ r.s.length) : Fn PR 131 [.ptr 1000000 0, .d (I (p : Nat))] [(1000000, .cells [.d (.str r.s), .d (I r.pos), .d (I r.e)])] [.d (.int .u64 ((rdU r.s p).1 : Nat)), .d (I ((rdU r.s p).2.1 : Nat)), .d (.bool (rdU r.s p).2.2)] [(1000000, .cells [.d (.str r.s), .d (I r.pos), .d (I r.e)])] := by
 refine fn_of_awp Tryz.func131 rfl (N := 54) rfl ?_
 refine xsr ?_
 refine xlz (o_as rfl rfl rfl) ?_
 refine xlz (o_as rfl rfl rfl) ?_
 refine xlz (o_as rfl rfl rfl) ?_
 refine lendF ?_
 refine xsr ?_
 refine xlz (o_as rfl rfl rfl) ?_
 refine lendF ?_
 refine awp_seq ?_
 refine xsr ?_
 refine xlz (o_as rfl rfl rfl) ?_
 refine lendF ?_
 refine awp_block ?_
 refine awp_loop (fun x => ⟨54, [(1, .d (I ((p + x.1 : Nat) : Int))), (7, .d (.int .u64 ((x.2 : Nat) : Int))), (8, .d (I ((7 * x.1 : Nat) : Int))), (0, .ptr 1000000 0)], [(1000000, .cells [.d (.str r.s), .d (I r.pos), .d (I r.e)])]⟩) (fun x => 10 - x.1) (fun x => x.1 ≤ 10 ∧ p + x.1 ≤ r.s.length ∧ x.2 < 128 ^ x.1 ∧ scanL (r.s.drop (p + x.1)) (p + x.1) x.1 x.2 = rdU r.s p) (0, 0) ?_ ?_ ?_
 ·
  exact ent_k [] rfl rfl (xkc <| xkc <| xkc <| xkc <| .nil) (obs_cons rfl (o_eq rfl) obs_nil) rfl
 ·
  exact ⟨by omega, hp, by simp, rfl⟩
 ·
  rintro ⟨i, acc⟩ ⟨h1, h2, h3, hI⟩
  dsimp only at h1 h2 h3 hI ⊢
  refine awp_seq ?_
  refine xsr ?_
  refine xlz (o_mv rfl rfl rfl) ?_
  refine xlz (o_mv rfl rfl rfl) ?_
  refine xlz (op_nilCheckP rfl rfl rfl rfl) ?_
  refine xlz (op_fieldP rfl rfl rfl fl140_0) ?_
  refine xlz (op_load1 rfl rfl rfl rfl ty9 rfl rfl) ?_
  refine xlz (op_lenS rfl rfl rfl ty9) ?_
  refine xlz (op_binI rfl rfl rfl rfl rfl (.inl rfl) rfl) ?_
  refine xlz (o_mv rfl rfl rfl) ?_
  refine lsplit rfl (fun hg1 => ?_) (fun hg1 => ?_)
  ·
   refine lg (o_mv rfl rfl rfl) rfl hg1 rfl rfl ?_
   refine lg (op_binI rfl rfl rfl rfl rfl (.inl rfl) rfl) rfl hg1 rfl rfl ?_
   refine xlz (o_pT rfl rfl (g11 hg1) rfl rfl) ?_
   refine lendF ?_
   refine awp_cond rfl rfl (fun hc2 => ?_) (fun hc2 => ?_)
   ·
    refine awp_skip ?_
    refine awp_seq ?_
    refine awp_block ?_
    refine xsr ?_
    obtain ⟨b, hn⟩ := rng_lt (l := r.s) (i := p + i) (by have := hg1; simp at this; simp; omega)
    have hlt := rng_le hn
    have h9 : i ≤ 9 := by simp at *; omega
    have hb : b.toNat % 128 < 128 := Nat.mod_lt _ (by omega)
    refine xlz (o_mv rfl rfl rfl) ?_
    refine xlz (op_nilCheckP rfl rfl rfl rfl) ?_
    refine xlz (op_fieldP rfl rfl rfl fl140_0) ?_
    refine xlz (op_load1 rfl rfl rfl rfl ty9 rfl rfl) ?_
    refine xlz (o_mv rfl rfl rfl) ?_
    refine xlz (o_idxS ((p + i)) rfl rfl rfl rfl ty9 (by first | rfl | simp | omega | (simp; omega)) hn) ?_
    refine xlz (o_as rfl rfl rfl) ?_
    refine lendF ?_
    refine xsr ?_
    refine xlz (o_mv rfl rfl rfl) ?_
    refine xlz (o_add rfl rfl rfl rfl (by first | omega | (simp; omega) | (simp at *; omega))) ?_
    refine xlz (o_as rfl rfl rfl) ?_
    refine lendF ?_
    refine awp_seq ?_
    refine xsr ?_
    refine xlz (o_mv rfl rfl rfl) ?_
    refine xlz (op_binI rfl rfl rfl rfl rfl (.inl rfl) rfl) ?_
    refine xlz (o_mv rfl rfl rfl) ?_
    refine lsplit rfl (fun hg3 => ?_) (fun hg3 => ?_)
    ·
     refine lg (o_mv rfl rfl rfl) rfl hg3 rfl rfl ?_
     refine lg (op_binI rfl rfl rfl rfl rfl (.inl rfl) rfl) rfl hg3 rfl rfl ?_
     refine xlz (o_pT rfl rfl (g11 hg3) rfl rfl) ?_
     refine lendF ?_
     refine awp_cond rfl rfl (fun hc4 => ?_) (fun hc4 => ?_)
     ·
      refine xsr ?_
      refine xlz (o_as rfl rfl rfl) ?_
      refine xlz (o_as rfl rfl rfl) ?_
      refine xlz (o_as rfl rfl rfl) ?_
      refine lendF ?_
      refine awp_ret ?_
      refine ⟨[_, _, _], ⟨rfl, rfl, rfl, trivial⟩, ?_⟩
      first | (rw [← hI, scan_big hn (by simp at *; omega) (by simp at *; omega)]; exact ent_o3 (obs_cons rfl (o_eq rfl) obs_nil) rfl rfl (by first | rfl | (simp; done) | (simp; omega) | (congr 1; rw [Bool.eq_iff_iff]; simp at *; omega) | (simp_all; done) | (simp_all; omega)) rfl (by first | rfl | (simp; done) | (simp; omega) | (congr 1; rw [Bool.eq_iff_iff]; simp at *; omega) | (simp_all; done) | (simp_all; omega)) rfl (by first | rfl | (simp; done) | (simp; omega) | (congr 1; rw [Bool.eq_iff_iff]; simp at *; omega) | (simp_all; done) | (simp_all; omega))) | (rw [← hI, scan_stop hn h9 hk1 hb8]; exact ent_o3 (obs_cons rfl (o_eq rfl) obs_nil) rfl rfl (by first | rfl | (simp; done) | (simp; omega) | (congr 1; rw [Bool.eq_iff_iff]; simp at *; omega) | (simp_all; done) | (simp_all; omega)) rfl (by first | rfl | (simp; done) | (simp; omega) | (congr 1; rw [Bool.eq_iff_iff]; simp at *; omega) | (simp_all; done) | (simp_all; omega)) rfl (by first | rfl | (simp; done) | (simp; omega) | (congr 1; rw [Bool.eq_iff_iff]; simp at *; omega) | (simp_all; done) | (simp_all; omega))) | (rw [← hI, scan_end (by simp at *; omega)]; exact ent_o3 (obs_cons rfl (o_eq rfl) obs_nil) rfl rfl (by first | rfl | (simp; done) | (simp; omega) | (congr 1; rw [Bool.eq_iff_iff]; simp at *; omega) | (simp_all; done) | (simp_all; omega)) rfl (by first | rfl | (simp; done) | (simp; omega) | (congr 1; rw [Bool.eq_iff_iff]; simp at *; omega) | (simp_all; done) | (simp_all; omega)) rfl (by first | rfl | (simp; done) | (simp; omega) | (congr 1; rw [Bool.eq_iff_iff]; simp at *; omega) | (simp_all; done) | (simp_all; omega)))
     ·
      refine awp_skip ?_
      refine xsr ?_
      have hk1 : i = 9 → b.toNat ≤ 1 := by intro h; simp at *; omega
      have hk9 : i = 9 → b.toNat % 128 ≤ 1 := by intro h; have := hk1 h; omega
      refine xlz (o_mv rfl rfl rfl) ?_
      refine xlz (o_mv rfl rfl rfl) ?_
      refine xlz (o_eqI (op_binI rfl rfl rfl rfl rfl (.inl rfl) rfl) (and127 b)) ?_
      refine xlz (o_eqI (op_convI rfl rfl rfl ty5 ty136) (wrapU64 (by omega) (by omega))) ?_
      refine xlz (o_mv rfl rfl rfl) ?_
      refine xlz (o_eqI (op_binI rfl rfl rfl rfl rfl (.inr (.inl rfl)) rfl) (shl_in h3 h9 hb hk9)) ?_
      refine xlz (o_eqI (op_binI rfl rfl rfl rfl rfl (.inl rfl) rfl) (or_in h3 h9 hb hk9)) ?_
      refine xlz (o_as rfl rfl rfl) ?_
      refine lendF ?_
      refine xsr ?_
      refine xlz (o_mv rfl rfl rfl) ?_
      refine xlz (op_binI rfl rfl rfl rfl rfl (.inl rfl) rfl) ?_
      refine lendF ?_
      refine awp_cond rfl rfl (fun hc5 => ?_) (fun hc5 => ?_)
      ·
       have hb8 : b.toNat < 128 := by have := hc5; simp at this; omega
       refine xsr ?_
       refine xlz (o_mv rfl rfl rfl) ?_
       refine xlz (o_mv rfl rfl rfl) ?_
       refine xlz (o_mv rfl rfl rfl) ?_
       refine xlz (op_binI rfl rfl rfl rfl rfl (.inl rfl) rfl) ?_
       refine xlz (o_mv rfl rfl rfl) ?_
       refine lsplit rfl (fun hg6 => ?_) (fun hg6 => ?_)
       ·
        refine lg (o_mv rfl rfl rfl) rfl hg6 rfl rfl ?_
        refine lg (op_binI rfl rfl rfl rfl rfl (.inl rfl) rfl) rfl hg6 rfl rfl ?_
        refine xlz (o_pF rfl rfl (g01 hg6) rfl rfl) ?_
        refine xlz (o_as rfl rfl rfl) ?_
        refine xlz (o_as rfl rfl rfl) ?_
        refine xlz (o_as rfl rfl rfl) ?_
        refine lendF ?_
        refine awp_ret ?_
        refine ⟨[_, _, _], ⟨rfl, rfl, rfl, trivial⟩, ?_⟩
        first | (rw [← hI, scan_big hn (by simp at *; omega) (by simp at *; omega)]; exact ent_o3 (obs_cons rfl (o_eq rfl) obs_nil) rfl rfl (by first | rfl | (simp; done) | (simp; omega) | (congr 1; rw [Bool.eq_iff_iff]; simp at *; omega) | (simp_all; done) | (simp_all; omega)) rfl (by first | rfl | (simp; done) | (simp; omega) | (congr 1; rw [Bool.eq_iff_iff]; simp at *; omega) | (simp_all; done) | (simp_all; omega)) rfl (by first | rfl | (simp; done) | (simp; omega) | (congr 1; rw [Bool.eq_iff_iff]; simp at *; omega) | (simp_all; done) | (simp_all; omega))) | (rw [← hI, scan_stop hn h9 hk1 hb8]; exact ent_o3 (obs_cons rfl (o_eq rfl) obs_nil) rfl rfl (by first | rfl | (simp; done) | (simp; omega) | (congr 1; rw [Bool.eq_iff_iff]; simp at *; omega) | (simp_all; done) | (simp_all; omega)) rfl (by first | rfl | (simp; done) | (simp; omega) | (congr 1; rw [Bool.eq_iff_iff]; simp at *; omega) | (simp_all; done) | (simp_all; omega)) rfl (by first | rfl | (simp; done) | (simp; omega) | (congr 1; rw [Bool.eq_iff_iff]; simp at *; omega) | (simp_all; done) | (simp_all; omega))) | (rw [← hI, scan_end (by simp at *; omega)]; exact ent_o3 (obs_cons rfl (o_eq rfl) obs_nil) rfl rfl (by first | rfl | (simp; done) | (simp; omega) | (congr 1; rw [Bool.eq_iff_iff]; simp at *; omega) | (simp_all; done) | (simp_all; omega)) rfl (by first | rfl | (simp; done) | (simp; omega) | (congr 1; rw [Bool.eq_iff_iff]; simp at *; omega) | (simp_all; done) | (simp_all; omega)) rfl (by first | rfl | (simp; done) | (simp; omega) | (congr 1; rw [Bool.eq_iff_iff]; simp at *; omega) | (simp_all; done) | (simp_all; omega)))
       ·
        refine lskip rfl hg6 rfl ?_
        refine lskip rfl hg6 rfl ?_
        refine xlz (o_pT rfl rfl (g00 hg6) rfl rfl) ?_
        refine xlz (o_as rfl rfl rfl) ?_
        refine xlz (o_as rfl rfl rfl) ?_
        refine xlz (o_as rfl rfl rfl) ?_
        refine lendF ?_
        refine awp_ret ?_
        refine ⟨[_, _, _], ⟨rfl, rfl, rfl, trivial⟩, ?_⟩
        first | (rw [← hI, scan_big hn (by simp at *; omega) (by simp at *; omega)]; exact ent_o3 (obs_cons rfl (o_eq rfl) obs_nil) rfl rfl (by first | rfl | (simp; done) | (simp; omega) | (congr 1; rw [Bool.eq_iff_iff]; simp at *; omega) | (simp_all; done) | (simp_all; omega)) rfl (by first | rfl | (simp; done) | (simp; omega) | (congr 1; rw [Bool.eq_iff_iff]; simp at *; omega) | (simp_all; done) | (simp_all; omega)) rfl (by first | rfl | (simp; done) | (simp; omega) | (congr 1; rw [Bool.eq_iff_iff]; simp at *; omega) | (simp_all; done) | (simp_all; omega))) | (rw [← hI, scan_stop hn h9 hk1 hb8]; exact ent_o3 (obs_cons rfl (o_eq rfl) obs_nil) rfl rfl (by first | rfl | (simp; done) | (simp; omega) | (congr 1; rw [Bool.eq_iff_iff]; simp at *; omega) | (simp_all; done) | (simp_all; omega)) rfl (by first | rfl | (simp; done) | (simp; omega) | (congr 1; rw [Bool.eq_iff_iff]; simp at *; omega) | (simp_all; done) | (simp_all; omega)) rfl (by first | rfl | (simp; done) | (simp; omega) | (congr 1; rw [Bool.eq_iff_iff]; simp at *; omega) | (simp_all; done) | (simp_all; omega))) | (rw [← hI, scan_end (by simp at *; omega)]; exact ent_o3 (obs_cons rfl (o_eq rfl) obs_nil) rfl rfl (by first | rfl | (simp; done) | (simp; omega) | (congr 1; rw [Bool.eq_iff_iff]; simp at *; omega) | (simp_all; done) | (simp_all; omega)) rfl (by first | rfl | (simp; done) | (simp; omega) | (congr 1; rw [Bool.eq_iff_iff]; simp at *; omega) | (simp_all; done) | (simp_all; omega)) rfl (by first | rfl | (simp; done) | (simp; omega) | (congr 1; rw [Bool.eq_iff_iff]; simp at *; omega) | (simp_all; done) | (simp_all; omega)))
      ·
       have hge : ¬ b.toNat < 128 := by have := hc5; simp at this; omega
       refine awp_skip ?_
       refine awp_region mixed ?_
       refine xlz (o_mv rfl rfl rfl) ?_
       refine xlz (o_add rfl rfl rfl rfl (by first | omega | (simp; omega) | (simp at *; omega))) ?_
       refine xlz (o_as rfl rfl rfl) ?_
       refine lendF ?_
       refine ⟨(i + 1, acc + b.toNat % 128 * 128 ^ i), ?_, ?_, ?_⟩
       ·
        exact ⟨by show i + 1 ≤ 10; omega, by show p + (i + 1) ≤ _; have := rng_le hn; omega, acc_lt h3 hb, by show scanL (List.drop (p + (i + 1)) _) (p + (i + 1)) (i + 1) _ = _; rw [← hI, scan_next hn h9 hk1 hge]; rfl⟩
       ·
        exact ent_k [] rfl rfl (xkc <| xkc <| xkc <| xkc <| .nil) (obs_cons rfl (o_eq rfl) obs_nil) rfl
       ·
        show 10 - (i + 1) < 10 - i; omega
    ·
     refine lskip rfl hg3 rfl ?_
     refine lskip rfl hg3 rfl ?_
     refine xlz (o_pF rfl rfl (g10 hg3) rfl rfl) ?_
     refine lendF ?_
     refine awp_condF rfl rfl rfl ?_
     refine awp_skip ?_
     refine xsr ?_
     have hk1 : i = 9 → b.toNat ≤ 1 := by intro h; simp at *; omega
     have hk9 : i = 9 → b.toNat % 128 ≤ 1 := by intro h; have := hk1 h; omega
     refine xlz (o_mv rfl rfl rfl) ?_
     refine xlz (o_mv rfl rfl rfl) ?_
     refine xlz (o_eqI (op_binI rfl rfl rfl rfl rfl (.inl rfl) rfl) (and127 b)) ?_
     refine xlz (o_eqI (op_convI rfl rfl rfl ty5 ty136) (wrapU64 (by omega) (by omega))) ?_
     refine xlz (o_mv rfl rfl rfl) ?_
     refine xlz (o_eqI (op_binI rfl rfl rfl rfl rfl (.inr (.inl rfl)) rfl) (shl_in h3 h9 hb hk9)) ?_
     refine xlz (o_eqI (op_binI rfl rfl rfl rfl rfl (.inl rfl) rfl) (or_in h3 h9 hb hk9)) ?_
     refine xlz (o_as rfl rfl rfl) ?_
     refine lendF ?_
     refine xsr ?_
     refine xlz (o_mv rfl rfl rfl) ?_
     refine xlz (op_binI rfl rfl rfl rfl rfl (.inl rfl) rfl) ?_
     refine lendF ?_
     refine awp_cond rfl rfl (fun hc8 => ?_) (fun hc8 => ?_)
     ·
      have hb8 : b.toNat < 128 := by have := hc8; simp at this; omega
      refine xsr ?_
      refine xlz (o_mv rfl rfl rfl) ?_
      refine xlz (o_mv rfl rfl rfl) ?_
      refine xlz (o_mv rfl rfl rfl) ?_
      refine xlz (op_binI rfl rfl rfl rfl rfl (.inl rfl) rfl) ?_
      refine xlz (o_mv rfl rfl rfl) ?_
      refine lsplit rfl (fun hg9 => ?_) (fun hg9 => ?_)
      ·
       refine lg (o_mv rfl rfl rfl) rfl hg9 rfl rfl ?_
       refine lg (op_binI rfl rfl rfl rfl rfl (.inl rfl) rfl) rfl hg9 rfl rfl ?_
       refine xlz (o_pF rfl rfl (g01 hg9) rfl rfl) ?_
       refine xlz (o_as rfl rfl rfl) ?_
       refine xlz (o_as rfl rfl rfl) ?_
       refine xlz (o_as rfl rfl rfl) ?_
       refine lendF ?_
       refine awp_ret ?_
       refine ⟨[_, _, _], ⟨rfl, rfl, rfl, trivial⟩, ?_⟩
       first | (rw [← hI, scan_big hn (by simp at *; omega) (by simp at *; omega)]; exact ent_o3 (obs_cons rfl (o_eq rfl) obs_nil) rfl rfl (by first | rfl | (simp; done) | (simp; omega) | (congr 1; rw [Bool.eq_iff_iff]; simp at *; omega) | (simp_all; done) | (simp_all; omega)) rfl (by first | rfl | (simp; done) | (simp; omega) | (congr 1; rw [Bool.eq_iff_iff]; simp at *; omega) | (simp_all; done) | (simp_all; omega)) rfl (by first | rfl | (simp; done) | (simp; omega) | (congr 1; rw [Bool.eq_iff_iff]; simp at *; omega) | (simp_all; done) | (simp_all; omega))) | (rw [← hI, scan_stop hn h9 hk1 hb8]; exact ent_o3 (obs_cons rfl (o_eq rfl) obs_nil) rfl rfl (by first | rfl | (simp; done) | (simp; omega) | (congr 1; rw [Bool.eq_iff_iff]; simp at *; omega) | (simp_all; done) | (simp_all; omega)) rfl (by first | rfl | (simp; done) | (simp; omega) | (congr 1; rw [Bool.eq_iff_iff]; simp at *; omega) | (simp_all; done) | (simp_all; omega)) rfl (by first | rfl | (simp; done) | (simp; omega) | (congr 1; rw [Bool.eq_iff_iff]; simp at *; omega) | (simp_all; done) | (simp_all; omega))) | (rw [← hI, scan_end (by simp at *; omega)]; exact ent_o3 (obs_cons rfl (o_eq rfl) obs_nil) rfl rfl (by first | rfl | (simp; done) | (simp; omega) | (congr 1; rw [Bool.eq_iff_iff]; simp at *; omega) | (simp_all; done) | (simp_all; omega)) rfl (by first | rfl | (simp; done) | (simp; omega) | (congr 1; rw [Bool.eq_iff_iff]; simp at *; omega) | (simp_all; done) | (simp_all; omega)) rfl (by first | rfl | (simp; done) | (simp; omega) | (congr 1; rw [Bool.eq_iff_iff]; simp at *; omega) | (simp_all; done) | (simp_all; omega)))
      ·
       refine lskip rfl hg9 rfl ?_
       refine lskip rfl hg9 rfl ?_
       refine xlz (o_pT rfl rfl (g00 hg9) rfl rfl) ?_
       refine xlz (o_as rfl rfl rfl) ?_
       refine xlz (o_as rfl rfl rfl) ?_
       refine xlz (o_as rfl rfl rfl) ?_
       refine lendF ?_
       refine awp_ret ?_
       refine ⟨[_, _, _], ⟨rfl, rfl, rfl, trivial⟩, ?_⟩
       first | (rw [← hI, scan_big hn (by simp at *; omega) (by simp at *; omega)]; exact ent_o3 (obs_cons rfl (o_eq rfl) obs_nil) rfl rfl (by first | rfl | (simp; done) | (simp; omega) | (congr 1; rw [Bool.eq_iff_iff]; simp at *; omega) | (simp_all; done) | (simp_all; omega)) rfl (by first | rfl | (simp; done) | (simp; omega) | (congr 1; rw [Bool.eq_iff_iff]; simp at *; omega) | (simp_all; done) | (simp_all; omega)) rfl (by first | rfl | (simp; done) | (simp; omega) | (congr 1; rw [Bool.eq_iff_iff]; simp at *; omega) | (simp_all; done) | (simp_all; omega))) | (rw [← hI, scan_stop hn h9 hk1 hb8]; exact ent_o3 (obs_cons rfl (o_eq rfl) obs_nil) rfl rfl (by first | rfl | (simp; done) | (simp; omega) | (congr 1; rw [Bool.eq_iff_iff]; simp at *; omega) | (simp_all; done) | (simp_all; omega)) rfl (by first | rfl | (simp; done) | (simp; omega) | (congr 1; rw [Bool.eq_iff_iff]; simp at *; omega) | (simp_all; done) | (simp_all; omega)) rfl (by first | rfl | (simp; done) | (simp; omega) | (congr 1; rw [Bool.eq_iff_iff]; simp at *; omega) | (simp_all; done) | (simp_all; omega))) | (rw [← hI, scan_end (by simp at *; omega)]; exact ent_o3 (obs_cons rfl (o_eq rfl) obs_nil) rfl rfl (by first | rfl | (simp; done) | (simp; omega) | (congr 1; rw [Bool.eq_iff_iff]; simp at *; omega) | (simp_all; done) | (simp_all; omega)) rfl (by first | rfl | (simp; done) | (simp; omega) | (congr 1; rw [Bool.eq_iff_iff]; simp at *; omega) | (simp_all; done) | (simp_all; omega)) rfl (by first | rfl | (simp; done) | (simp; omega) | (congr 1; rw [Bool.eq_iff_iff]; simp at *; omega) | (simp_all; done) | (simp_all; omega)))
     ·
      have hge : ¬ b.toNat < 128 := by have := hc8; simp at this; omega
      refine awp_skip ?_
      refine awp_region mixed ?_
      refine xlz (o_mv rfl rfl rfl) ?_
      refine xlz (o_add rfl rfl rfl rfl (by first | omega | (simp; omega) | (simp at *; omega))) ?_
      refine xlz (o_as rfl rfl rfl) ?_
      refine lendF ?_
      refine ⟨(i + 1, acc + b.toNat % 128 * 128 ^ i), ?_, ?_, ?_⟩
      ·
       exact ⟨by show i + 1 ≤ 10; omega, by show p + (i + 1) ≤ _; have := rng_le hn; omega, acc_lt h3 hb, by show scanL (List.drop (p + (i + 1)) _) (p + (i + 1)) (i + 1) _ = _; rw [← hI, scan_next hn h9 hk1 hge]; rfl⟩
      ·
       exact ent_k [] rfl rfl (xkc <| xkc <| xkc <| xkc <| .nil) (obs_cons rfl (o_eq rfl) obs_nil) rfl
      ·
       show 10 - (i + 1) < 10 - i; omega
   ·
    refine awp_exit ?_
    refine xsr ?_
    refine xlz (o_as rfl rfl rfl) ?_
    refine xlz (o_as rfl rfl rfl) ?_
    refine xlz (o_as rfl rfl rfl) ?_
    refine lendF ?_
    refine awp_ret ?_
    refine ⟨[_, _, _], ⟨rfl, rfl, rfl, trivial⟩, ?_⟩
    first | (rw [← hI, scan_big hn (by simp at *; omega) (by simp at *; omega)]; exact ent_o3 (obs_cons rfl (o_eq rfl) obs_nil) rfl rfl (by first | rfl | (simp; done) | (simp; omega) | (congr 1; rw [Bool.eq_iff_iff]; simp at *; omega) | (simp_all; done) | (simp_all; omega)) rfl (by first | rfl | (simp; done) | (simp; omega) | (congr 1; rw [Bool.eq_iff_iff]; simp at *; omega) | (simp_all; done) | (simp_all; omega)) rfl (by first | rfl | (simp; done) | (simp; omega) | (congr 1; rw [Bool.eq_iff_iff]; simp at *; omega) | (simp_all; done) | (simp_all; omega))) | (rw [← hI, scan_stop hn h9 hk1 hb8]; exact ent_o3 (obs_cons rfl (o_eq rfl) obs_nil) rfl rfl (by first | rfl | (simp; done) | (simp; omega) | (congr 1; rw [Bool.eq_iff_iff]; simp at *; omega) | (simp_all; done) | (simp_all; omega)) rfl (by first | rfl | (simp; done) | (simp; omega) | (congr 1; rw [Bool.eq_iff_iff]; simp at *; omega) | (simp_all; done) | (simp_all; omega)) rfl (by first | rfl | (simp; done) | (simp; omega) | (congr 1; rw [Bool.eq_iff_iff]; simp at *; omega) | (simp_all; done) | (simp_all; omega))) | (rw [← hI, scan_end (by simp at *; omega)]; exact ent_o3 (obs_cons rfl (o_eq rfl) obs_nil) rfl rfl (by first | rfl | (simp; done) | (simp; omega) | (congr 1; rw [Bool.eq_iff_iff]; simp at *; omega) | (simp_all; done) | (simp_all; omega)) rfl (by first | rfl | (simp; done) | (simp; omega) | (congr 1; rw [Bool.eq_iff_iff]; simp at *; omega) | (simp_all; done) | (simp_all; omega)) rfl (by first | rfl | (simp; done) | (simp; omega) | (congr 1; rw [Bool.eq_iff_iff]; simp at *; omega) | (simp_all; done) | (simp_all; omega)))
  ·
   refine lskip rfl hg1 rfl ?_
   refine lskip rfl hg1 rfl ?_
   refine xlz (o_pF rfl rfl (g10 hg1) rfl rfl) ?_
   refine lendF ?_
   refine awp_condF rfl rfl rfl ?_
   refine awp_exit ?_
   refine xsr ?_
   refine xlz (o_as rfl rfl rfl) ?_
   refine xlz (o_as rfl rfl rfl) ?_
   refine xlz (o_as rfl rfl rfl) ?_
   refine lendF ?_
   refine awp_ret ?_
   refine ⟨[_, _, _], ⟨rfl, rfl, rfl, trivial⟩, ?_⟩
   first | (rw [← hI, scan_big hn (by simp at *; omega) (by simp at *; omega)]; exact ent_o3 (obs_cons rfl (o_eq rfl) obs_nil) rfl rfl (by first | rfl | (simp; done) | (simp; omega) | (congr 1; rw [Bool.eq_iff_iff]; simp at *; omega) | (simp_all; done) | (simp_all; omega)) rfl (by first | rfl | (simp; done) | (simp; omega) | (congr 1; rw [Bool.eq_iff_iff]; simp at *; omega) | (simp_all; done) | (simp_all; omega)) rfl (by first | rfl | (simp; done) | (simp; omega) | (congr 1; rw [Bool.eq_iff_iff]; simp at *; omega) | (simp_all; done) | (simp_all; omega))) | (rw [← hI, scan_stop hn h9 hk1 hb8]; exact ent_o3 (obs_cons rfl (o_eq rfl) obs_nil) rfl rfl (by first | rfl | (simp; done) | (simp; omega) | (congr 1; rw [Bool.eq_iff_iff]; simp at *; omega) | (simp_all; done) | (simp_all; omega)) rfl (by first | rfl | (simp; done) | (simp; omega) | (congr 1; rw [Bool.eq_iff_iff]; simp at *; omega) | (simp_all; done) | (simp_all; omega)) rfl (by first | rfl | (simp; done) | (simp; omega) | (congr 1; rw [Bool.eq_iff_iff]; simp at *; omega) | (simp_all; done) | (simp_all; omega))) | (rw [← hI, scan_end (by simp at *; omega)]; exact ent_o3 (obs_cons rfl (o_eq rfl) obs_nil) rfl rfl (by first | rfl | (simp; done) | (simp; omega) | (congr 1; rw [Bool.eq_iff_iff]; simp at *; omega) | (simp_all; done) | (simp_all; omega)) rfl (by first | rfl | (simp; done) | (simp; omega) | (congr 1; rw [Bool.eq_iff_iff]; simp at *; omega) | (simp_all; done) | (simp_all; omega)) rfl (by first | rfl | (simp; done) | (simp; omega) | (congr 1; rw [Bool.eq_iff_iff]; simp at *; omega) | (simp_all; done) | (simp_all; omega)))

set_option maxRecDepth 10000 in
theorem c107 (s : Bytes) (p : Nat) (hs : s.length < 4611686018427387904) (hp : p ≤ s.length) : Fn PR 107 [.d (.str s), .d (I (p : Nat))] [] [.d (.int .u64 ((rdU s p).1 : Nat)), .d (I ((rdU s p).2.1 : Nat)), .d (.bool (rdU s p).2.2)] [] := by
 refine fn_of_awp Tryz.func107 rfl (N := 58) rfl ?_
 refine xsr ?_
 refine xlz (o_as rfl rfl rfl) ?_
 refine xlz (o_as rfl rfl rfl) ?_
 refine xlz (o_as rfl rfl rfl) ?_
 refine lendF ?_
 refine xsr ?_
 refine xlz (o_as rfl rfl rfl) ?_
 refine lendF ?_
 refine awp_seq ?_
 refine xsr ?_
 refine xlz (o_as rfl rfl rfl) ?_
 refine lendF ?_
 refine awp_block ?_
 refine awp_loop (fun x => ⟨58, [(7, .d (.int .u64 ((x.2 : Nat) : Int))), (8, .d (I ((x.1 : Nat) : Int))), (0, .d (.str s)), (1, .d (I (p : Nat)))], []⟩) (fun x => 10 - x.1) (fun x => x.1 ≤ 10 ∧ p + x.1 ≤ s.length ∧ x.2 < 128 ^ x.1 ∧ scanL (s.drop (p + x.1)) (p + x.1) x.1 x.2 = rdU s p) (0, 0) ?_ ?_ ?_
 ·
  exact ent_k [] rfl rfl (xkc <| xkc <| xkc <| xkc <| .nil) obs_nil rfl
 ·
  exact ⟨by omega, hp, by simp, rfl⟩
 ·
  rintro ⟨i, acc⟩ ⟨h1, h2, h3, hI⟩
  dsimp only at h1 h2 h3 hI ⊢
  refine awp_seq ?_
  refine xsr ?_
  refine xlz (o_mv rfl rfl rfl) ?_
  refine xlz (op_binI rfl rfl rfl rfl rfl (.inl rfl) rfl) ?_
  refine lendF ?_
  refine awp_cond rfl rfl (fun hc1 => ?_) (fun hc1 => ?_)
  ·
   refine awp_skip ?_
   refine awp_seq ?_
   refine awp_block ?_
   refine awp_seq ?_
   refine xsr ?_
   refine xlz (o_mv rfl rfl rfl) ?_
   refine xlz (o_mv rfl rfl rfl) ?_
   refine xlz (o_add rfl rfl rfl rfl (by first | omega | (simp; omega) | (simp at *; omega))) ?_
   refine xlz (op_binI rfl rfl rfl rfl rfl (.inl rfl) rfl) ?_
   refine xlz (o_mv rfl rfl rfl) ?_
   refine lsplit rfl (fun hg2 => ?_) (fun hg2 => ?_)
   ·
    refine lg (o_mv rfl rfl rfl) rfl hg2 rfl rfl ?_
    refine lg (o_mv rfl rfl rfl) rfl hg2 rfl rfl ?_
    refine lg (o_add rfl rfl rfl rfl (by first | omega | (simp; omega) | (simp at *; omega))) rfl hg2 rfl rfl ?_
    refine lg (o_mv rfl rfl rfl) rfl hg2 rfl rfl ?_
    refine lg (op_lenS rfl rfl rfl ty9) rfl hg2 rfl rfl ?_
    refine lg (op_binI rfl rfl rfl rfl rfl (.inl rfl) rfl) rfl hg2 rfl rfl ?_
    refine xlz (o_pF rfl rfl (g01 hg2) rfl rfl) ?_
    refine lendF ?_
    refine awp_cond rfl rfl (fun hc3 => ?_) (fun hc3 => ?_)
    ·
     refine xsr ?_
     refine xlz (o_as rfl rfl rfl) ?_
     refine xlz (o_as rfl rfl rfl) ?_
     refine xlz (o_as rfl rfl rfl) ?_
     refine lendF ?_
     refine awp_ret ?_
     refine ⟨[_, _, _], ⟨rfl, rfl, rfl, trivial⟩, ?_⟩
     first | (rw [← hI, scan_big hn (by simp at *; omega) (by simp at *; omega)]; exact ent_d3 rfl (by first | rfl | (simp; done) | (simp; omega) | (congr 1; rw [Bool.eq_iff_iff]; simp at *; omega) | (simp_all; done) | (simp_all; omega)) rfl (by first | rfl | (simp; done) | (simp; omega) | (congr 1; rw [Bool.eq_iff_iff]; simp at *; omega) | (simp_all; done) | (simp_all; omega)) rfl (by first | rfl | (simp; done) | (simp; omega) | (congr 1; rw [Bool.eq_iff_iff]; simp at *; omega) | (simp_all; done) | (simp_all; omega))) | (rw [← hI, scan_stop hn h9 hk1 hb8]; exact ent_d3 rfl (by first | rfl | (simp; done) | (simp; omega) | (congr 1; rw [Bool.eq_iff_iff]; simp at *; omega) | (simp_all; done) | (simp_all; omega)) rfl (by first | rfl | (simp; done) | (simp; omega) | (congr 1; rw [Bool.eq_iff_iff]; simp at *; omega) | (simp_all; done) | (simp_all; omega)) rfl (by first | rfl | (simp; done) | (simp; omega) | (congr 1; rw [Bool.eq_iff_iff]; simp at *; omega) | (simp_all; done) | (simp_all; omega))) | (rw [← hI, scan_end (by simp at *; omega)]; exact ent_d3 rfl (by first | rfl | (simp; done) | (simp; omega) | (congr 1; rw [Bool.eq_iff_iff]; simp at *; omega) | (simp_all; done) | (simp_all; omega)) rfl (by first | rfl | (simp; done) | (simp; omega) | (congr 1; rw [Bool.eq_iff_iff]; simp at *; omega) | (simp_all; done) | (simp_all; omega)) rfl (by first | rfl | (simp; done) | (simp; omega) | (congr 1; rw [Bool.eq_iff_iff]; simp at *; omega) | (simp_all; done) | (simp_all; omega)))
    ·
     refine awp_skip ?_
     refine xsr ?_
     obtain ⟨b, hn⟩ := rng_lt (l := s) (i := p + i) (by simp at *; omega)
     have hlt := rng_le hn
     have h9 : i ≤ 9 := by simp at *; omega
     have hb : b.toNat % 128 < 128 := Nat.mod_lt _ (by omega)
     refine xlz (o_mv rfl rfl rfl) ?_
     refine xlz (o_mv rfl rfl rfl) ?_
     refine xlz (o_mv rfl rfl rfl) ?_
     refine xlz (o_add rfl rfl rfl rfl (by first | omega | (simp; omega) | (simp at *; omega))) ?_
     refine xlz (o_idxS ((p + i)) rfl rfl rfl rfl ty9 (by first | rfl | simp | omega | (simp; omega)) hn) ?_
     refine xlz (o_eqI (op_convI rfl rfl rfl ty5 ty136) (wrapU64 (by omega) (by have := UInt8.toNat_lt b; omega))) ?_
     refine xlz (o_as rfl rfl rfl) ?_
     refine lendF ?_
     refine awp_seq ?_
     refine xsr ?_
     refine xlz (o_mv rfl rfl rfl) ?_
     refine xlz (op_binI rfl rfl rfl rfl rfl (.inl rfl) rfl) ?_
     refine xlz (o_mv rfl rfl rfl) ?_
     refine lsplit rfl (fun hg4 => ?_) (fun hg4 => ?_)
     ·
      refine lg (o_mv rfl rfl rfl) rfl hg4 rfl rfl ?_
      refine lg (op_binI rfl rfl rfl rfl rfl (.inl rfl) rfl) rfl hg4 rfl rfl ?_
      refine xlz (o_pT rfl rfl (g11 hg4) rfl rfl) ?_
      refine lendF ?_
      refine awp_cond rfl rfl (fun hc5 => ?_) (fun hc5 => ?_)
      ·
       refine xsr ?_
       refine xlz (o_as rfl rfl rfl) ?_
       refine xlz (o_as rfl rfl rfl) ?_
       refine xlz (o_as rfl rfl rfl) ?_
       refine lendF ?_
       refine awp_ret ?_
       refine ⟨[_, _, _], ⟨rfl, rfl, rfl, trivial⟩, ?_⟩
       first | (rw [← hI, scan_big hn (by simp at *; omega) (by simp at *; omega)]; exact ent_d3 rfl (by first | rfl | (simp; done) | (simp; omega) | (congr 1; rw [Bool.eq_iff_iff]; simp at *; omega) | (simp_all; done) | (simp_all; omega)) rfl (by first | rfl | (simp; done) | (simp; omega) | (congr 1; rw [Bool.eq_iff_iff]; simp at *; omega) | (simp_all; done) | (simp_all; omega)) rfl (by first | rfl | (simp; done) | (simp; omega) | (congr 1; rw [Bool.eq_iff_iff]; simp at *; omega) | (simp_all; done) | (simp_all; omega))) | (rw [← hI, scan_stop hn h9 hk1 hb8]; exact ent_d3 rfl (by first | rfl | (simp; done) | (simp; omega) | (congr 1; rw [Bool.eq_iff_iff]; simp at *; omega) | (simp_all; done) | (simp_all; omega)) rfl (by first | rfl | (simp; done) | (simp; omega) | (congr 1; rw [Bool.eq_iff_iff]; simp at *; omega) | (simp_all; done) | (simp_all; omega)) rfl (by first | rfl | (simp; done) | (simp; omega) | (congr 1; rw [Bool.eq_iff_iff]; simp at *; omega) | (simp_all; done) | (simp_all; omega))) | (rw [← hI, scan_end (by simp at *; omega)]; exact ent_d3 rfl (by first | rfl | (simp; done) | (simp; omega) | (congr 1; rw [Bool.eq_iff_iff]; simp at *; omega) | (simp_all; done) | (simp_all; omega)) rfl (by first | rfl | (simp; done) | (simp; omega) | (congr 1; rw [Bool.eq_iff_iff]; simp at *; omega) | (simp_all; done) | (simp_all; omega)) rfl (by first | rfl | (simp; done) | (simp; omega) | (congr 1; rw [Bool.eq_iff_iff]; simp at *; omega) | (simp_all; done) | (simp_all; omega)))
      ·
       refine awp_skip ?_
       refine xsr ?_
       have hk1 : i = 9 → b.toNat ≤ 1 := by intro h; simp at *; omega
       have hk9 : i = 9 → b.toNat % 128 ≤ 1 := by intro h; have := hk1 h; omega
       refine xlz (o_mv rfl rfl rfl) ?_
       refine xlz (o_mv rfl rfl rfl) ?_
       refine xlz (o_eqI (op_binI rfl rfl rfl rfl rfl (.inl rfl) rfl) (rem128 b.toNat)) ?_
       refine xlz (o_mv rfl rfl rfl) ?_
       refine xlz (o_eqI (n := []) (o_mul rfl rfl rfl rfl (by first | omega | (simp; omega) | (simp at *; omega))) (show (7 : Int) * (i : Int) = ((7 * i : Nat) : Int) by simp)) ?_
       refine xlz (o_eqI (op_binI rfl rfl rfl rfl rfl (.inr (.inl rfl)) rfl) (shl_in h3 h9 hb hk9)) ?_
       refine xlz (o_eqI (op_binI rfl rfl rfl rfl rfl (.inl rfl) rfl) (add_in h3 h9 hb hk9)) ?_
       refine xlz (o_as rfl rfl rfl) ?_
       refine lendF ?_
       refine xsr ?_
       refine xlz (o_mv rfl rfl rfl) ?_
       refine xlz (op_binI rfl rfl rfl rfl rfl (.inl rfl) rfl) ?_
       refine lendF ?_
       refine awp_cond rfl rfl (fun hc6 => ?_) (fun hc6 => ?_)
       ·
        have hb8 : b.toNat < 128 := by have := hc6; simp at this; omega
        refine xsr ?_
        refine xlz (o_mv rfl rfl rfl) ?_
        refine xlz (o_mv rfl rfl rfl) ?_
        refine xlz (o_mv rfl rfl rfl) ?_
        refine xlz (o_add rfl rfl rfl rfl (by first | omega | (simp; omega) | (simp at *; omega))) ?_
        refine xlz (o_add rfl rfl rfl rfl (by first | omega | (simp; omega) | (simp at *; omega))) ?_
        refine xlz (o_mv rfl rfl rfl) ?_
        refine xlz (op_binI rfl rfl rfl rfl rfl (.inl rfl) rfl) ?_
        refine xlz (o_mv rfl rfl rfl) ?_
        refine lsplit rfl (fun hg7 => ?_) (fun hg7 => ?_)
        ·
         refine lg (o_mv rfl rfl rfl) rfl hg7 rfl rfl ?_
         refine lg (op_binI rfl rfl rfl rfl rfl (.inl rfl) rfl) rfl hg7 rfl rfl ?_
         refine xlz (o_pF rfl rfl (g01 hg7) rfl rfl) ?_
         refine xlz (o_as rfl rfl rfl) ?_
         refine xlz (o_as rfl rfl rfl) ?_
         refine xlz (o_as rfl rfl rfl) ?_
         refine lendF ?_
         refine awp_ret ?_
         refine ⟨[_, _, _], ⟨rfl, rfl, rfl, trivial⟩, ?_⟩
         first | (rw [← hI, scan_big hn (by simp at *; omega) (by simp at *; omega)]; exact ent_d3 rfl (by first | rfl | (simp; done) | (simp; omega) | (congr 1; rw [Bool.eq_iff_iff]; simp at *; omega) | (simp_all; done) | (simp_all; omega)) rfl (by first | rfl | (simp; done) | (simp; omega) | (congr 1; rw [Bool.eq_iff_iff]; simp at *; omega) | (simp_all; done) | (simp_all; omega)) rfl (by first | rfl | (simp; done) | (simp; omega) | (congr 1; rw [Bool.eq_iff_iff]; simp at *; omega) | (simp_all; done) | (simp_all; omega))) | (rw [← hI, scan_stop hn h9 hk1 hb8]; exact ent_d3 rfl (by first | rfl | (simp; done) | (simp; omega) | (congr 1; rw [Bool.eq_iff_iff]; simp at *; omega) | (simp_all; done) | (simp_all; omega)) rfl (by first | rfl | (simp; done) | (simp; omega) | (congr 1; rw [Bool.eq_iff_iff]; simp at *; omega) | (simp_all; done) | (simp_all; omega)) rfl (by first | rfl | (simp; done) | (simp; omega) | (congr 1; rw [Bool.eq_iff_iff]; simp at *; omega) | (simp_all; done) | (simp_all; omega))) | (rw [← hI, scan_end (by simp at *; omega)]; exact ent_d3 rfl (by first | rfl | (simp; done) | (simp; omega) | (congr 1; rw [Bool.eq_iff_iff]; simp at *; omega) | (simp_all; done) | (simp_all; omega)) rfl (by first | rfl | (simp; done) | (simp; omega) | (congr 1; rw [Bool.eq_iff_iff]; simp at *; omega) | (simp_all; done) | (simp_all; omega)) rfl (by first | rfl | (simp; done) | (simp; omega) | (congr 1; rw [Bool.eq_iff_iff]; simp at *; omega) | (simp_all; done) | (simp_all; omega)))
        ·
         refine lskip rfl hg7 rfl ?_
         refine lskip rfl hg7 rfl ?_
         refine xlz (o_pT rfl rfl (g00 hg7) rfl rfl) ?_
         refine xlz (o_as rfl rfl rfl) ?_
         refine xlz (o_as rfl rfl rfl) ?_
         refine xlz (o_as rfl rfl rfl) ?_
         refine lendF ?_
         refine awp_ret ?_
         refine ⟨[_, _, _], ⟨rfl, rfl, rfl, trivial⟩, ?_⟩
         first | (rw [← hI, scan_big hn (by simp at *; omega) (by simp at *; omega)]; exact ent_d3 rfl (by first | rfl | (simp; done) | (simp; omega) | (congr 1; rw [Bool.eq_iff_iff]; simp at *; omega) | (simp_all; done) | (simp_all; omega)) rfl (by first | rfl | (simp; done) | (simp; omega) | (congr 1; rw [Bool.eq_iff_iff]; simp at *; omega) | (simp_all; done) | (simp_all; omega)) rfl (by first | rfl | (simp; done) | (simp; omega) | (congr 1; rw [Bool.eq_iff_iff]; simp at *; omega) | (simp_all; done) | (simp_all; omega))) | (rw [← hI, scan_stop hn h9 hk1 hb8]; exact ent_d3 rfl (by first | rfl | (simp; done) | (simp; omega) | (congr 1; rw [Bool.eq_iff_iff]; simp at *; omega) | (simp_all; done) | (simp_all; omega)) rfl (by first | rfl | (simp; done) | (simp; omega) | (congr 1; rw [Bool.eq_iff_iff]; simp at *; omega) | (simp_all; done) | (simp_all; omega)) rfl (by first | rfl | (simp; done) | (simp; omega) | (congr 1; rw [Bool.eq_iff_iff]; simp at *; omega) | (simp_all; done) | (simp_all; omega))) | (rw [← hI, scan_end (by simp at *; omega)]; exact ent_d3 rfl (by first | rfl | (simp; done) | (simp; omega) | (congr 1; rw [Bool.eq_iff_iff]; simp at *; omega) | (simp_all; done) | (simp_all; omega)) rfl (by first | rfl | (simp; done) | (simp; omega) | (congr 1; rw [Bool.eq_iff_iff]; simp at *; omega) | (simp_all; done) | (simp_all; omega)) rfl (by first | rfl | (simp; done) | (simp; omega) | (congr 1; rw [Bool.eq_iff_iff]; simp at *; omega) | (simp_all; done) | (simp_all; omega)))
       ·
        have hge : ¬ b.toNat < 128 := by have := hc6; simp at this; omega
        refine awp_skip ?_
        refine awp_region mixed ?_
        refine xlz (o_mv rfl rfl rfl) ?_
        refine xlz (o_add rfl rfl rfl rfl (by first | omega | (simp; omega) | (simp at *; omega))) ?_
        refine xlz (o_as rfl rfl rfl) ?_
        refine lendF ?_
        refine ⟨(i + 1, acc + b.toNat % 128 * 128 ^ i), ?_, ?_, ?_⟩
        ·
         exact ⟨by show i + 1 ≤ 10; omega, by show p + (i + 1) ≤ _; have := rng_le hn; omega, acc_lt h3 hb, by show scanL (List.drop (p + (i + 1)) _) (p + (i + 1)) (i + 1) _ = _; rw [← hI, scan_next hn h9 hk1 hge]; rfl⟩
        ·
         exact ent_k [] rfl rfl (xkc <| xkc <| xkc <| xkc <| .nil) obs_nil rfl
        ·
         show 10 - (i + 1) < 10 - i; omega
     ·
      refine lskip rfl hg4 rfl ?_
      refine lskip rfl hg4 rfl ?_
      refine xlz (o_pF rfl rfl (g10 hg4) rfl rfl) ?_
      refine lendF ?_
      refine awp_condF rfl rfl rfl ?_
      refine awp_skip ?_
      refine xsr ?_
      have hk1 : i = 9 → b.toNat ≤ 1 := by intro h; simp at *; omega
      have hk9 : i = 9 → b.toNat % 128 ≤ 1 := by intro h; have := hk1 h; omega
      refine xlz (o_mv rfl rfl rfl) ?_
      refine xlz (o_mv rfl rfl rfl) ?_
      refine xlz (o_eqI (op_binI rfl rfl rfl rfl rfl (.inl rfl) rfl) (rem128 b.toNat)) ?_
      refine xlz (o_mv rfl rfl rfl) ?_
      refine xlz (o_eqI (n := []) (o_mul rfl rfl rfl rfl (by first | omega | (simp; omega) | (simp at *; omega))) (show (7 : Int) * (i : Int) = ((7 * i : Nat) : Int) by simp)) ?_
      refine xlz (o_eqI (op_binI rfl rfl rfl rfl rfl (.inr (.inl rfl)) rfl) (shl_in h3 h9 hb hk9)) ?_
      refine xlz (o_eqI (op_binI rfl rfl rfl rfl rfl (.inl rfl) rfl) (add_in h3 h9 hb hk9)) ?_
      refine xlz (o_as rfl rfl rfl) ?_
      refine lendF ?_
      refine xsr ?_
      refine xlz (o_mv rfl rfl rfl) ?_
      refine xlz (op_binI rfl rfl rfl rfl rfl (.inl rfl) rfl) ?_
      refine lendF ?_
      refine awp_cond rfl rfl (fun hc9 => ?_) (fun hc9 => ?_)
      ·
       have hb8 : b.toNat < 128 := by have := hc9; simp at this; omega
       refine xsr ?_
       refine xlz (o_mv rfl rfl rfl) ?_
       refine xlz (o_mv rfl rfl rfl) ?_
       refine xlz (o_mv rfl rfl rfl) ?_
       refine xlz (o_add rfl rfl rfl rfl (by first | omega | (simp; omega) | (simp at *; omega))) ?_
       refine xlz (o_add rfl rfl rfl rfl (by first | omega | (simp; omega) | (simp at *; omega))) ?_
       refine xlz (o_mv rfl rfl rfl) ?_
       refine xlz (op_binI rfl rfl rfl rfl rfl (.inl rfl) rfl) ?_
       refine xlz (o_mv rfl rfl rfl) ?_
       refine lsplit rfl (fun hg10 => ?_) (fun hg10 => ?_)
       ·
        refine lg (o_mv rfl rfl rfl) rfl hg10 rfl rfl ?_
        refine lg (op_binI rfl rfl rfl rfl rfl (.inl rfl) rfl) rfl hg10 rfl rfl ?_
        refine xlz (o_pF rfl rfl (g01 hg10) rfl rfl) ?_
        refine xlz (o_as rfl rfl rfl) ?_
        refine xlz (o_as rfl rfl rfl) ?_
        refine xlz (o_as rfl rfl rfl) ?_
        refine lendF ?_
        refine awp_ret ?_
        refine ⟨[_, _, _], ⟨rfl, rfl, rfl, trivial⟩, ?_⟩
        first | (rw [← hI, scan_big hn (by simp at *; omega) (by simp at *; omega)]; exact ent_d3 rfl (by first | rfl | (simp; done) | (simp; omega) | (congr 1; rw [Bool.eq_iff_iff]; simp at *; omega) | (simp_all; done) | (simp_all; omega)) rfl (by first | rfl | (simp; done) | (simp; omega) | (congr 1; rw [Bool.eq_iff_iff]; simp at *; omega) | (simp_all; done) | (simp_all; omega)) rfl (by first | rfl | (simp; done) | (simp; omega) | (congr 1; rw [Bool.eq_iff_iff]; simp at *; omega) | (simp_all; done) | (simp_all; omega))) | (rw [← hI, scan_stop hn h9 hk1 hb8]; exact ent_d3 rfl (by first | rfl | (simp; done) | (simp; omega) | (congr 1; rw [Bool.eq_iff_iff]; simp at *; omega) | (simp_all; done) | (simp_all; omega)) rfl (by first | rfl | (simp; done) | (simp; omega) | (congr 1; rw [Bool.eq_iff_iff]; simp at *; omega) | (simp_all; done) | (simp_all; omega)) rfl (by first | rfl | (simp; done) | (simp; omega) | (congr 1; rw [Bool.eq_iff_iff]; simp at *; omega) | (simp_all; done) | (simp_all; omega))) | (rw [← hI, scan_end (by simp at *; omega)]; exact ent_d3 rfl (by first | rfl | (simp; done) | (simp; omega) | (congr 1; rw [Bool.eq_iff_iff]; simp at *; omega) | (simp_all; done) | (simp_all; omega)) rfl (by first | rfl | (simp; done) | (simp; omega) | (congr 1; rw [Bool.eq_iff_iff]; simp at *; omega) | (simp_all; done) | (simp_all; omega)) rfl (by first | rfl | (simp; done) | (simp; omega) | (congr 1; rw [Bool.eq_iff_iff]; simp at *; omega) | (simp_all; done) | (simp_all; omega)))
       ·
        refine lskip rfl hg10 rfl ?_
        refine lskip rfl hg10 rfl ?_
        refine xlz (o_pT rfl rfl (g00 hg10) rfl rfl) ?_
        refine xlz (o_as rfl rfl rfl) ?_
        refine xlz (o_as rfl rfl rfl) ?_
        refine xlz (o_as rfl rfl rfl) ?_
        refine lendF ?_
        refine awp_ret ?_
        refine ⟨[_, _, _], ⟨rfl, rfl, rfl, trivial⟩, ?_⟩
        first | (rw [← hI, scan_big hn (by simp at *; omega) (by simp at *; omega)]; exact ent_d3 rfl (by first | rfl | (simp; done) | (simp; omega) | (congr 1; rw [Bool.eq_iff_iff]; simp at *; omega) | (simp_all; done) | (simp_all; omega)) rfl (by first | rfl | (simp; done) | (simp; omega) | (congr 1; rw [Bool.eq_iff_iff]; simp at *; omega) | (simp_all; done) | (simp_all; omega)) rfl (by first | rfl | (simp; done) | (simp; omega) | (congr 1; rw [Bool.eq_iff_iff]; simp at *; omega) | (simp_all; done) | (simp_all; omega))) | (rw [← hI, scan_stop hn h9 hk1 hb8]; exact ent_d3 rfl (by first | rfl | (simp; done) | (simp; omega) | (congr 1; rw [Bool.eq_iff_iff]; simp at *; omega) | (simp_all; done) | (simp_all; omega)) rfl (by first | rfl | (simp; done) | (simp; omega) | (congr 1; rw [Bool.eq_iff_iff]; simp at *; omega) | (simp_all; done) | (simp_all; omega)) rfl (by first | rfl | (simp; done) | (simp; omega) | (congr 1; rw [Bool.eq_iff_iff]; simp at *; omega) | (simp_all; done) | (simp_all; omega))) | (rw [← hI, scan_end (by simp at *; omega)]; exact ent_d3 rfl (by first | rfl | (simp; done) | (simp; omega) | (congr 1; rw [Bool.eq_iff_iff]; simp at *; omega) | (simp_all; done) | (simp_all; omega)) rfl (by first | rfl | (simp; done) | (simp; omega) | (congr 1; rw [Bool.eq_iff_iff]; simp at *; omega) | (simp_all; done) | (simp_all; omega)) rfl (by first | rfl | (simp; done) | (simp; omega) | (congr 1; rw [Bool.eq_iff_iff]; simp at *; omega) | (simp_all; done) | (simp_all; omega)))
      ·
       have hge : ¬ b.toNat < 128 := by have := hc9; simp at this; omega
       refine awp_skip ?_
       refine awp_region mixed ?_
       refine xlz (o_mv rfl rfl rfl) ?_
       refine xlz (o_add rfl rfl rfl rfl (by first | omega | (simp; omega) | (simp at *; omega))) ?_
       refine xlz (o_as rfl rfl rfl) ?_
       refine lendF ?_
       refine ⟨(i + 1, acc + b.toNat % 128 * 128 ^ i), ?_, ?_, ?_⟩
       ·
        exact ⟨by show i + 1 ≤ 10; omega, by show p + (i + 1) ≤ _; have := rng_le hn; omega, acc_lt h3 hb, by show scanL (List.drop (p + (i + 1)) _) (p + (i + 1)) (i + 1) _ = _; rw [← hI, scan_next hn h9 hk1 hge]; rfl⟩
       ·
        exact ent_k [] rfl rfl (xkc <| xkc <| xkc <| xkc <| .nil) obs_nil rfl
       ·
        show 10 - (i + 1) < 10 - i; omega
   ·
    refine lskip rfl hg2 rfl ?_
    refine lskip rfl hg2 rfl ?_
    refine lskip rfl hg2 rfl ?_
    refine lskip rfl hg2 rfl ?_
    refine lskip rfl hg2 rfl ?_
    refine lskip rfl hg2 rfl ?_
    refine xlz (o_pT rfl rfl (g00 hg2) rfl rfl) ?_
    refine lendF ?_
    refine awp_condT rfl rfl rfl ?_
    refine xsr ?_
    refine xlz (o_as rfl rfl rfl) ?_
    refine xlz (o_as rfl rfl rfl) ?_
    refine xlz (o_as rfl rfl rfl) ?_
    refine lendF ?_
    refine awp_ret ?_
    refine ⟨[_, _, _], ⟨rfl, rfl, rfl, trivial⟩, ?_⟩
    first | (rw [← hI, scan_big hn (by simp at *; omega) (by simp at *; omega)]; exact ent_d3 rfl (by first | rfl | (simp; done) | (simp; omega) | (congr 1; rw [Bool.eq_iff_iff]; simp at *; omega) | (simp_all; done) | (simp_all; omega)) rfl (by first | rfl | (simp; done) | (simp; omega) | (congr 1; rw [Bool.eq_iff_iff]; simp at *; omega) | (simp_all; done) | (simp_all; omega)) rfl (by first | rfl | (simp; done) | (simp; omega) | (congr 1; rw [Bool.eq_iff_iff]; simp at *; omega) | (simp_all; done) | (simp_all; omega))) | (rw [← hI, scan_stop hn h9 hk1 hb8]; exact ent_d3 rfl (by first | rfl | (simp; done) | (simp; omega) | (congr 1; rw [Bool.eq_iff_iff]; simp at *; omega) | (simp_all; done) | (simp_all; omega)) rfl (by first | rfl | (simp; done) | (simp; omega) | (congr 1; rw [Bool.eq_iff_iff]; simp at *; omega) | (simp_all; done) | (simp_all; omega)) rfl (by first | rfl | (simp; done) | (simp; omega) | (congr 1; rw [Bool.eq_iff_iff]; simp at *; omega) | (simp_all; done) | (simp_all; omega))) | (rw [← hI, scan_end (by simp at *; omega)]; exact ent_d3 rfl (by first | rfl | (simp; done) | (simp; omega) | (congr 1; rw [Bool.eq_iff_iff]; simp at *; omega) | (simp_all; done) | (simp_all; omega)) rfl (by first | rfl | (simp; done) | (simp; omega) | (congr 1; rw [Bool.eq_iff_iff]; simp at *; omega) | (simp_all; done) | (simp_all; omega)) rfl (by first | rfl | (simp; done) | (simp; omega) | (congr 1; rw [Bool.eq_iff_iff]; simp at *; omega) | (simp_all; done) | (simp_all; omega)))
  ·
   refine awp_exit ?_
   refine xsr ?_
   refine xlz (o_as rfl rfl rfl) ?_
   refine xlz (o_as rfl rfl rfl) ?_
   refine xlz (o_as rfl rfl rfl) ?_
   refine lendF ?_
   refine awp_ret ?_
   refine ⟨[_, _, _], ⟨rfl, rfl, rfl, trivial⟩, ?_⟩
   first | (rw [← hI, scan_big hn (by simp at *; omega) (by simp at *; omega)]; exact ent_d3 rfl (by first | rfl | (simp; done) | (simp; omega) | (congr 1; rw [Bool.eq_iff_iff]; simp at *; omega) | (simp_all; done) | (simp_all; omega)) rfl (by first | rfl | (simp; done) | (simp; omega) | (congr 1; rw [Bool.eq_iff_iff]; simp at *; omega) | (simp_all; done) | (simp_all; omega)) rfl (by first | rfl | (simp; done) | (simp; omega) | (congr 1; rw [Bool.eq_iff_iff]; simp at *; omega) | (simp_all; done) | (simp_all; omega))) | (rw [← hI, scan_stop hn h9 hk1 hb8]; exact ent_d3 rfl (by first | rfl | (simp; done) | (simp; omega) | (congr 1; rw [Bool.eq_iff_iff]; simp at *; omega) | (simp_all; done) | (simp_all; omega)) rfl (by first | rfl | (simp; done) | (simp; omega) | (congr 1; rw [Bool.eq_iff_iff]; simp at *; omega) | (simp_all; done) | (simp_all; omega)) rfl (by first | rfl | (simp; done) | (simp; omega) | (congr 1; rw [Bool.eq_iff_iff]; simp at *; omega) | (simp_all; done) | (simp_all; omega))) | (rw [← hI, scan_end (by simp at *; omega)]; exact ent_d3 rfl (by first | rfl | (simp; done) | (simp; omega) | (congr 1; rw [Bool.eq_iff_iff]; simp at *; omega) | (simp_all; done) | (simp_all; omega)) rfl (by first | rfl | (simp; done) | (simp; omega) | (congr 1; rw [Bool.eq_iff_iff]; simp at *; omega) | (simp_all; done) | (simp_all; omega)) rfl (by first | rfl | (simp; done) | (simp; omega) | (congr 1; rw [Bool.eq_iff_iff]; simp at *; omega) | (simp_all; done) | (simp_all; omega)))

end Go.Pm

namespace Go.Pm
open Go.Proofs

set_option maxRecDepth 10000 in
theorem c105 (r : RS) (p : Nat) (hs : r.s.length < 4611686018427387904) (hp : p ≤ r.s.length) : Fn PR 105 [.ptr 1000000 0, .d (I (p : Nat))] [(1000000, .cells [.d (.str r.s), .d (I r.pos), .d (I r.e)])] [.d (I (IntKind.i64.wrap ((rdU r.s p).1 : Nat))), .d (I ((rdU r.s p).2.1 : Nat)), .d (.bool (rdOK r.s p))] [(1000000, .cells [.d (.str r.s), .d (I r.pos), .d (I r.e)])] := by
 refine fn_of_awp Tryz.func105 rfl (N := 26) rfl ?_
 refine xsr ?_
 refine xlz (o_as rfl rfl rfl) ?_
 refine xlz (o_as rfl rfl rfl) ?_
 refine xlz (o_as rfl rfl rfl) ?_
 refine lendF ?_
 refine xsr ?_
 refine xlz (o_mv rfl rfl rfl) ?_
 refine xlz (o_mv rfl rfl rfl) ?_
 refine xlz (o_callR [1000000] (c131 r p hs hp) rfl rfl rfl ca131 rfl (by decide) (handOK_cons (by decide) (by decide) rfl rfl handOK_nil) rfl) ?_
 refine xlz (o_mv rfl rfl rfl) ?_
 refine xlz (op_extract rfl rfl rfl rfl) ?_
 refine xlz (op_extract rfl rfl rfl rfl) ?_
 refine xlz (op_extract rfl rfl rfl rfl) ?_
 refine xlz (o_as rfl rfl rfl) ?_
 refine xlz (o_as rfl rfl rfl) ?_
 refine xlz (o_as rfl rfl rfl) ?_
 refine lendF ?_
 refine xsr ?_
 refine xlz (o_mv rfl rfl rfl) ?_
 refine xlz (op_convI rfl rfl rfl ty136 ty3) ?_
 refine xlz (o_mv rfl rfl rfl) ?_
 refine xlz (o_mv rfl rfl rfl) ?_
 refine xlz (o_mv rfl rfl rfl) ?_
 refine lsplit rfl (fun hg1 => ?_) (fun hg1 => ?_)
 ·
  refine lg (o_mv rfl rfl rfl) rfl hg1 rfl rfl ?_
  refine lg (op_binI rfl rfl rfl rfl rfl (.inr (.inr rfl)) rfl) rfl hg1 rfl rfl ?_
  refine lg (o_eqB (op_binI rfl rfl rfl rfl rfl (.inl rfl) rfl) (shr63 _ (rdU_lt r.s p))) rfl hg1 rfl rfl ?_
  refine xlz (o_pT rfl rfl (g11 hg1) rfl rfl) ?_
  refine xlz (o_as rfl rfl rfl) ?_
  refine xlz (o_as rfl rfl rfl) ?_
  refine xlz (o_as rfl rfl rfl) ?_
  refine lendF ?_
  refine awp_ret ?_
  refine ⟨[_, _, _], ⟨rfl, rfl, rfl, trivial⟩, ?_⟩
  exact ent_o3 (obs_cons rfl (o_eq rfl) obs_nil) rfl rfl rfl rfl rfl rfl (by simp_all [rdOK])
 ·
  refine lskip rfl hg1 rfl ?_
  refine lskip rfl hg1 rfl ?_
  refine lskip rfl hg1 rfl ?_
  refine xlz (o_pF rfl rfl (g10 hg1) rfl rfl) ?_
  refine xlz (o_as rfl rfl rfl) ?_
  refine xlz (o_as rfl rfl rfl) ?_
  refine xlz (o_as rfl rfl rfl) ?_
  refine lendF ?_
  refine awp_ret ?_
  refine ⟨[_, _, _], ⟨rfl, rfl, rfl, trivial⟩, ?_⟩
  exact ent_o3 (obs_cons rfl (o_eq rfl) obs_nil) rfl rfl rfl rfl rfl rfl (by simp_all [rdOK])

set_option maxRecDepth 10000 in
theorem c100 (r : RS) (p : Nat) (hs : r.s.length < 4611686018427387904) (hp : p ≤ r.s.length) : Fn PR 100 [.ptr 1000000 0, .d (I (p : Nat))] [(1000000, .cells [.d (.str r.s), .d (I r.pos), .d (I r.e)])] [.d (.str (rdT r.s p).1), .d (I ((rdT r.s p).2.1 : Nat)), .d (.bool (rdT r.s p).2.2)] [(1000000, .cells [.d (.str r.s), .d (I r.pos), .d (I r.e)])] := by
 refine fn_of_awp Tryz.func100 rfl (N := 42) rfl ?_
 have hlt := rdU_lt r.s p
 have hle := rdU_le hp
 refine xsr ?_
 refine xlz (o_as rfl rfl rfl) ?_
 refine xlz (o_as rfl rfl rfl) ?_
 refine xlz (o_as rfl rfl rfl) ?_
 refine lendF ?_
 refine xsr ?_
 refine xlz (o_mv rfl rfl rfl) ?_
 refine xlz (o_mv rfl rfl rfl) ?_
 refine xlz (o_callR [1000000] (c105 r p hs hp) rfl rfl rfl ca105 rfl (by decide) (handOK_cons (by decide) (by decide) rfl rfl handOK_nil) rfl) ?_
 refine xlz (o_mv rfl rfl rfl) ?_
 refine xlz (op_extract rfl rfl rfl rfl) ?_
 refine xlz (op_extract rfl rfl rfl rfl) ?_
 refine xlz (op_extract rfl rfl rfl rfl) ?_
 refine xlz (o_as rfl rfl rfl) ?_
 refine xlz (o_as rfl rfl rfl) ?_
 refine xlz (o_as rfl rfl rfl) ?_
 refine lendF ?_
 refine awp_seq ?_
 refine xsr ?_
 refine xlz (o_mv rfl rfl rfl) ?_
 refine xlz (op_not rfl rfl rfl) ?_
 refine xlz (o_mv rfl rfl rfl) ?_
 refine lsplit rfl (fun hg1 => ?_) (fun hg1 => ?_)
 ·
  refine lg (o_mv rfl rfl rfl) rfl hg1 rfl rfl ?_
  refine lg (o_mv rfl rfl rfl) rfl hg1 rfl rfl ?_
  refine lg (op_nilCheckP rfl rfl rfl rfl) rfl hg1 rfl rfl ?_
  refine lg (op_fieldP rfl rfl rfl fl140_0) rfl hg1 rfl rfl ?_
  refine lg (op_load1 rfl rfl rfl rfl ty9 rfl rfl) rfl hg1 rfl rfl ?_
  refine lg (op_lenS rfl rfl rfl ty9) rfl hg1 rfl rfl ?_
  refine lg (o_mv rfl rfl rfl) rfl hg1 rfl rfl ?_
  refine lg (o_sub rfl rfl rfl rfl (by first | omega | (simp; omega) | (simp at *; omega))) rfl hg1 rfl rfl ?_
  refine lg (op_binI rfl rfl rfl rfl rfl (.inl rfl) rfl) rfl hg1 rfl rfl ?_
  refine xlz (o_pF rfl rfl (g01 hg1) rfl rfl) ?_
  refine lendF ?_
  refine awp_cond rfl rfl (fun hc2 => ?_) (fun hc2 => ?_)
  ·
   refine xsr ?_
   refine xlz (o_as rfl rfl rfl) ?_
   refine xlz (o_as rfl rfl rfl) ?_
   refine xlz (o_as rfl rfl rfl) ?_
   refine lendF ?_
   refine awp_ret ?_
   refine ⟨[_, _, _], ⟨rfl, rfl, rfl, trivial⟩, ?_⟩
   have hok : rdOK r.s p = true := by simp_all
   have hw : IntKind.i64.wrap ((rdU r.s p).1 : Int) = ((rdU r.s p).1 : Nat) := wrap64 (by omega) (by have := hok; simp [rdOK] at this; omega)
   have hfit : ¬ (rdU r.s p).1 + (rdU r.s p).2.1 ≤ r.s.length := by have := hc2; rw [hw] at this; simp at this; omega
   rw [show rdT r.s p = ([], 0, false) from by simp [rdT, hfit]]
   exact ent_o3 (obs_cons rfl (o_eq rfl) obs_nil) rfl rfl rfl rfl rfl rfl rfl
  ·
   refine awp_skip ?_
   refine xsr ?_
   have hok : rdOK r.s p = true := by simp_all
   have hw : IntKind.i64.wrap ((rdU r.s p).1 : Int) = ((rdU r.s p).1 : Nat) := wrap64 (by omega) (by have := hok; simp [rdOK] at this; omega)
   have hfit : (rdU r.s p).1 + (rdU r.s p).2.1 ≤ r.s.length := by have := hc2; rw [hw] at this; simp at this; omega
   refine xlz (o_mv rfl rfl rfl) ?_
   refine xlz (op_nilCheckP rfl rfl rfl rfl) ?_
   refine xlz (op_fieldP rfl rfl rfl fl140_0) ?_
   refine xlz (op_load1 rfl rfl rfl rfl ty9 rfl rfl) ?_
   refine xlz (o_mv rfl rfl rfl) ?_
   refine xlz (o_mv rfl rfl rfl) ?_
   refine xlz (o_mv rfl rfl rfl) ?_
   refine xlz (o_add rfl rfl rfl rfl (by first | omega | (simp; omega) | (simp at *; omega))) ?_
   refine xlz (o_slS rfl rfl rfl ty9 (.some rfl rfl (n := (rdU r.s p).2.1) (by first | rfl | omega | (simp; done) | (simp; omega))) (.some rfl rfl (n := (rdU r.s p).2.1 + (rdU r.s p).1) (by first | rfl | omega | (simp; done) | (simp; omega))) (by first | omega | (simp; omega) | (simp at *; omega)) (by first | omega | (simp; omega) | (simp at *; omega))) ?_
   refine xlz (o_mv rfl rfl rfl) ?_
   refine xlz (o_mv rfl rfl rfl) ?_
   refine xlz (o_add rfl rfl rfl rfl (by first | omega | (simp; omega) | (simp at *; omega))) ?_
   refine xlz (o_as rfl rfl rfl) ?_
   refine xlz (o_as rfl rfl rfl) ?_
   refine xlz (o_as rfl rfl rfl) ?_
   refine lendF ?_
   refine awp_ret ?_
   refine ⟨[_, _, _], ⟨rfl, rfl, rfl, trivial⟩, ?_⟩
   rw [show rdT r.s p = ((r.s.drop (rdU r.s p).2.1).take (rdU r.s p).1, (rdU r.s p).2.1 + (rdU r.s p).1, true) from by simp [rdT, hok]; omega]
   exact ent_o3 (obs_cons rfl (o_eq rfl) obs_nil) rfl rfl (by simp) rfl (by simp; omega) rfl rfl
 ·
  refine lskip rfl hg1 rfl ?_
  refine lskip rfl hg1 rfl ?_
  refine lskip rfl hg1 rfl ?_
  refine lskip rfl hg1 rfl ?_
  refine lskip rfl hg1 rfl ?_
  refine lskip rfl hg1 rfl ?_
  refine lskip rfl hg1 rfl ?_
  refine lskip rfl hg1 rfl ?_
  refine lskip rfl hg1 rfl ?_
  refine xlz (o_pT rfl rfl (g00 hg1) rfl rfl) ?_
  refine lendF ?_
  refine awp_condT rfl rfl rfl ?_
  refine xsr ?_
  refine xlz (o_as rfl rfl rfl) ?_
  refine xlz (o_as rfl rfl rfl) ?_
  refine xlz (o_as rfl rfl rfl) ?_
  refine lendF ?_
  refine awp_ret ?_
  refine ⟨[_, _, _], ⟨rfl, rfl, rfl, trivial⟩, ?_⟩
  rw [show rdT r.s p = ([], 0, false) from by simp_all [rdT]]
  exact ent_o3 (obs_cons rfl (o_eq rfl) obs_nil) rfl rfl rfl rfl rfl rfl rfl

set_option maxRecDepth 10000 in
theorem c71 (s : Bytes) (p : Nat) (hs : s.length < 4611686018427387904) (hp : p ≤ s.length) : Fn PR 71 [.d (.str s), .d (I (p : Nat))] [] [.d (I ((rdN s p).1 : Nat)), .d (I ((rdN s p).2.1 : Nat)), .d (.bool (rdN s p).2.2)] [] := by
 refine fn_of_awp Tryz.func71 rfl (N := 26) rfl ?_
 have hlt := rdU_lt s p
 have hle := rdU_le hp
 refine xsr ?_
 refine xlz (o_as rfl rfl rfl) ?_
 refine xlz (o_as rfl rfl rfl) ?_
 refine xlz (o_as rfl rfl rfl) ?_
 refine lendF ?_
 refine xsr ?_
 refine xlz (o_mv rfl rfl rfl) ?_
 refine xlz (o_mv rfl rfl rfl) ?_
 refine xlz (o_call (c107 s p hs hp) rfl rfl rfl ca107 rfl rfl) ?_
 refine xlz (o_mv rfl rfl rfl) ?_
 refine xlz (op_extract rfl rfl rfl rfl) ?_
 refine xlz (op_extract rfl rfl rfl rfl) ?_
 refine xlz (op_extract rfl rfl rfl rfl) ?_
 refine xlz (o_as rfl rfl rfl) ?_
 refine xlz (o_as rfl rfl rfl) ?_
 refine xlz (o_as rfl rfl rfl) ?_
 refine lendF ?_
 refine awp_seq ?_
 refine xsr ?_
 refine xlz (o_mv rfl rfl rfl) ?_
 refine xlz (op_not rfl rfl rfl) ?_
 refine xlz (o_mv rfl rfl rfl) ?_
 refine lsplit rfl (fun hg1 => ?_) (fun hg1 => ?_)
 ·
  refine lg (o_mv rfl rfl rfl) rfl hg1 rfl rfl ?_
  refine lg (op_binI rfl rfl rfl rfl rfl (.inl rfl) rfl) rfl hg1 rfl rfl ?_
  refine xlz (o_pF rfl rfl (g01 hg1) rfl rfl) ?_
  refine lendF ?_
  refine awp_cond rfl rfl (fun hc2 => ?_) (fun hc2 => ?_)
  ·
   refine xsr ?_
   refine xlz (o_as rfl rfl rfl) ?_
   refine xlz (o_as rfl rfl rfl) ?_
   refine xlz (o_as rfl rfl rfl) ?_
   refine lendF ?_
   refine awp_ret ?_
   refine ⟨[_, _, _], ⟨rfl, rfl, rfl, trivial⟩, ?_⟩
   rw [show rdN s p = (0, 0, false) from by unfold rdN; rw [if_neg]; simp_all [rdOK]; omega]
   exact ent_d3 rfl rfl rfl rfl rfl rfl
  ·
   refine awp_skip ?_
   refine xsr ?_
   have hok : rdOK s p = true := by simp_all [rdOK]; omega
   have hlt2 : (rdU s p).1 < 9223372036854775808 := by have := hok; simp [rdOK] at this; omega
   refine xlz (o_mv rfl rfl rfl) ?_
   refine xlz (o_eqI (op_convI rfl rfl rfl ty136 ty3) (wrap64 (by omega) (by omega))) ?_
   refine xlz (o_mv rfl rfl rfl) ?_
   refine xlz (o_as rfl rfl rfl) ?_
   refine xlz (o_as rfl rfl rfl) ?_
   refine xlz (o_as rfl rfl rfl) ?_
   refine lendF ?_
   refine awp_ret ?_
   refine ⟨[_, _, _], ⟨rfl, rfl, rfl, trivial⟩, ?_⟩
   rw [show rdN s p = ((rdU s p).1, (rdU s p).2.1, true) from by simp [rdN, hok]]
   exact ent_d3 rfl rfl rfl rfl rfl rfl
 ·
  refine lskip rfl hg1 rfl ?_
  refine lskip rfl hg1 rfl ?_
  refine xlz (o_pT rfl rfl (g00 hg1) rfl rfl) ?_
  refine lendF ?_
  refine awp_condT rfl rfl rfl ?_
  refine xsr ?_
  refine xlz (o_as rfl rfl rfl) ?_
  refine xlz (o_as rfl rfl rfl) ?_
  refine xlz (o_as rfl rfl rfl) ?_
  refine lendF ?_
  refine awp_ret ?_
  refine ⟨[_, _, _], ⟨rfl, rfl, rfl, trivial⟩, ?_⟩
  rw [show rdN s p = (0, 0, false) from by unfold rdN; rw [if_neg]; simp_all [rdOK]]
  exact ent_d3 rfl rfl rfl rfl rfl rfl

end Go.Pm

namespace Go.Pm
open Go.Proofs

set_option maxRecDepth 10000 in
theorem c70 (s : Bytes) (p : Nat) (hs : s.length < 4611686018427387904) (hp : p ≤ s.length) : Fn PR 70 [.d (.str s), .d (I (p : Nat))] [] [.d (.str (rdT s p).1), .d (I ((rdT s p).2.1 : Nat)), .d (.bool (rdT s p).2.2)] [] := by
 refine fn_of_awp Tryz.func70 rfl (N := 36) rfl ?_
 have hlt := rdN_lt s p
 have hle := rdN_le hp
 have hT := rdT_rdN s p
 refine xsr ?_
 refine xlz (o_as rfl rfl rfl) ?_
 refine xlz (o_as rfl rfl rfl) ?_
 refine xlz (o_as rfl rfl rfl) ?_
 refine lendF ?_
 refine xsr ?_
 refine xlz (o_mv rfl rfl rfl) ?_
 refine xlz (o_mv rfl rfl rfl) ?_
 refine xlz (o_call (c71 s p hs hp) rfl rfl rfl ca71 rfl rfl) ?_
 refine xlz (o_mv rfl rfl rfl) ?_
 refine xlz (op_extract rfl rfl rfl rfl) ?_
 refine xlz (op_extract rfl rfl rfl rfl) ?_
 refine xlz (op_extract rfl rfl rfl rfl) ?_
 refine xlz (o_as rfl rfl rfl) ?_
 refine xlz (o_as rfl rfl rfl) ?_
 refine xlz (o_as rfl rfl rfl) ?_
 refine lendF ?_
 refine awp_seq ?_
 refine xsr ?_
 refine xlz (o_mv rfl rfl rfl) ?_
 refine xlz (op_not rfl rfl rfl) ?_
 refine xlz (o_mv rfl rfl rfl) ?_
 refine lsplit rfl (fun hg1 => ?_) (fun hg1 => ?_)
 ·
  refine lg (o_mv rfl rfl rfl) rfl hg1 rfl rfl ?_
  refine lg (o_mv rfl rfl rfl) rfl hg1 rfl rfl ?_
  refine lg (op_lenS rfl rfl rfl ty9) rfl hg1 rfl rfl ?_
  refine lg (o_mv rfl rfl rfl) rfl hg1 rfl rfl ?_
  refine lg (o_sub rfl rfl rfl rfl (by first | omega | (simp; omega) | (simp at *; omega))) rfl hg1 rfl rfl ?_
  refine lg (op_binI rfl rfl rfl rfl rfl (.inl rfl) rfl) rfl hg1 rfl rfl ?_
  refine xlz (o_pF rfl rfl (g01 hg1) rfl rfl) ?_
  refine lendF ?_
  refine awp_cond rfl rfl (fun hc2 => ?_) (fun hc2 => ?_)
  ·
   refine xsr ?_
   refine xlz (o_as rfl rfl rfl) ?_
   refine xlz (o_as rfl rfl rfl) ?_
   refine xlz (o_as rfl rfl rfl) ?_
   refine lendF ?_
   refine awp_ret ?_
   refine ⟨[_, _, _], ⟨rfl, rfl, rfl, trivial⟩, ?_⟩
   have hfit : ¬ (rdN s p).1 + (rdN s p).2.1 ≤ s.length := by have := hc2; simp at this; omega
   rw [show rdT s p = ([], 0, false) from by simp [hT, hfit]]
   exact ent_d3 rfl rfl rfl rfl rfl rfl
  ·
   refine awp_skip ?_
   refine xsr ?_
   have hfit : (rdN s p).1 + (rdN s p).2.1 ≤ s.length := by have := hc2; simp at this; omega
   refine xlz (o_mv rfl rfl rfl) ?_
   refine xlz (o_mv rfl rfl rfl) ?_
   refine xlz (o_mv rfl rfl rfl) ?_
   refine xlz (o_mv rfl rfl rfl) ?_
   refine xlz (o_add rfl rfl rfl rfl (by first | omega | (simp; omega) | (simp at *; omega))) ?_
   refine xlz (o_slS rfl rfl rfl ty9 (.some rfl rfl (n := (rdN s p).2.1) (by first | rfl | omega | (simp; done) | (simp; omega))) (.some rfl rfl (n := (rdN s p).2.1 + (rdN s p).1) (by first | rfl | omega | (simp; done) | (simp; omega))) (by first | omega | (simp; omega) | (simp at *; omega)) (by first | omega | (simp; omega) | (simp at *; omega))) ?_
   refine xlz (o_mv rfl rfl rfl) ?_
   refine xlz (o_mv rfl rfl rfl) ?_
   refine xlz (o_add rfl rfl rfl rfl (by first | omega | (simp; omega) | (simp at *; omega))) ?_
   refine xlz (o_as rfl rfl rfl) ?_
   refine xlz (o_as rfl rfl rfl) ?_
   refine xlz (o_as rfl rfl rfl) ?_
   refine lendF ?_
   refine awp_ret ?_
   refine ⟨[_, _, _], ⟨rfl, rfl, rfl, trivial⟩, ?_⟩
   rw [show rdT s p = ((s.drop (rdN s p).2.1).take (rdN s p).1, (rdN s p).2.1 + (rdN s p).1, true) from by rw [hT]; simp_all]
   exact ent_d3 rfl (by simp) rfl (by first | (simp; done) | (simp; omega)) rfl rfl
 ·
  refine lskip rfl hg1 rfl ?_
  refine lskip rfl hg1 rfl ?_
  refine lskip rfl hg1 rfl ?_
  refine lskip rfl hg1 rfl ?_
  refine lskip rfl hg1 rfl ?_
  refine lskip rfl hg1 rfl ?_
  refine xlz (o_pT rfl rfl (g00 hg1) rfl rfl) ?_
  refine lendF ?_
  refine awp_condT rfl rfl rfl ?_
  refine xsr ?_
  refine xlz (o_as rfl rfl rfl) ?_
  refine xlz (o_as rfl rfl rfl) ?_
  refine xlz (o_as rfl rfl rfl) ?_
  refine lendF ?_
  refine awp_ret ?_
  refine ⟨[_, _, _], ⟨rfl, rfl, rfl, trivial⟩, ?_⟩
  rw [show rdT s p = ([], 0, false) from by rw [hT]; simp_all]
  exact ent_d3 rfl rfl rfl rfl rfl rfl

set_option maxRecDepth 10000 in
theorem c99 (r : RS) (hs : r.s.length < 4611686018427387904) (hp : r.pos ≤ r.s.length) : Fn PR 99 [.ptr 1000000 0, .fn (.func 100) [.ptr 1000000 0] []] [(1000000, .cells [.d (.str r.s), .d (I r.pos), .d (I r.e)])] [.d (.str (r.text).1)] [(1000000, (r.text).2.ob)] := by
 refine fn_of_awp Tryz.func99 rfl (N := 36) rfl ?_
 refine xsr ?_
 refine xlz (o_as rfl rfl rfl) ?_
 refine lendF ?_
 refine xsr ?_
 refine xlz (o_as rfl rfl rfl) ?_
 refine lendF ?_
 refine awp_seq ?_
 refine xsr ?_
 refine xlz (o_mv rfl rfl rfl) ?_
 refine xlz (op_nilCheckP rfl rfl rfl rfl) ?_
 refine xlz (op_fieldP rfl rfl rfl fl140_2) ?_
 refine xlz (op_load1 rfl rfl rfl rfl ty34 rfl rfl) ?_
 refine xlz (op_binI rfl rfl rfl rfl rfl (.inl rfl) rfl) ?_
 refine lendF ?_
 refine awp_cond rfl rfl (fun hc1 => ?_) (fun hc1 => ?_)
 ·
  refine xsr ?_
  refine xlz (o_mv rfl rfl rfl) ?_
  refine xlz (o_as rfl rfl rfl) ?_
  refine lendF ?_
  refine awp_ret ?_
  refine ⟨[_], ⟨rfl, trivial⟩, ?_⟩
  rw [show r.text = ([], r) from by simp_all [RS.text, RS.take]]
  exact ent_o1 (obs_cons rfl (o_eq rfl) obs_nil) rfl rfl rfl
 ·
  refine awp_skip ?_
  refine xsr ?_
  refine xlz (o_mv rfl rfl rfl) ?_
  refine xlz (o_mv rfl rfl rfl) ?_
  refine xlz (op_nilCheckP rfl rfl rfl rfl) ?_
  refine xlz (op_fieldP rfl rfl rfl fl140_1) ?_
  refine xlz (op_load1 rfl rfl rfl rfl ty3 rfl rfl) ?_
  refine xlz (o_callR [1000000] (c100 r r.pos hs hp) rfl rfl rfl ca100 rfl (by decide) (handOK_cons (by decide) (by decide) rfl rfl handOK_nil) rfl) ?_
  refine xlz (o_mv rfl rfl rfl) ?_
  refine xlz (op_extract rfl rfl rfl rfl) ?_
  refine xlz (op_extract rfl rfl rfl rfl) ?_
  refine xlz (op_extract rfl rfl rfl rfl) ?_
  refine xlz (o_as rfl rfl rfl) ?_
  refine xlz (o_as rfl rfl rfl) ?_
  refine xlz (o_as rfl rfl rfl) ?_
  refine lendF ?_
  refine awp_seq ?_
  refine xsr ?_
  refine xlz (o_mv rfl rfl rfl) ?_
  refine xlz (op_not rfl rfl rfl) ?_
  refine lendF ?_
  refine awp_cond rfl rfl (fun hc2 => ?_) (fun hc2 => ?_)
  ·
   refine xsr ?_
   refine xlz (o_mv rfl rfl rfl) ?_
   refine xlz (op_nilCheckP rfl rfl rfl rfl) ?_
   refine xlz (op_fieldP rfl rfl rfl fl140_2) ?_
   refine xlz (op_store rfl rfl rfl rfl rfl rfl ty34 rfl (xlb rfl)) ?_
   refine lendF ?_
   refine xsr ?_
   refine xlz (o_mv rfl rfl rfl) ?_
   refine xlz (o_as rfl rfl rfl) ?_
   refine lendF ?_
   refine awp_ret ?_
   refine ⟨[_], ⟨rfl, trivial⟩, ?_⟩
   rw [show r.text = ([], { r with e := 9 }) from by simp_all [RS.text, RS.take]]
   exact ent_o1 (obs_cons rfl (o_eq rfl) obs_nil) rfl rfl rfl
  ·
   refine awp_skip ?_
   refine xsr ?_
   refine xlz (o_mv rfl rfl rfl) ?_
   refine xlz (o_mv rfl rfl rfl) ?_
   refine xlz (op_nilCheckP rfl rfl rfl rfl) ?_
   refine xlz (op_fieldP rfl rfl rfl fl140_1) ?_
   refine xlz (op_store rfl rfl rfl rfl rfl rfl ty3 rfl (xlb rfl)) ?_
   refine lendF ?_
   refine xsr ?_
   refine xlz (o_mv rfl rfl rfl) ?_
   refine xlz (o_as rfl rfl rfl) ?_
   refine lendF ?_
   refine awp_ret ?_
   refine ⟨[_], ⟨rfl, trivial⟩, ?_⟩
   rw [show r.text = ((rdT r.s r.pos).1, { r with pos := (rdT r.s r.pos).2.1 }) from by simp_all [RS.text, RS.take]]
   exact ent_o1 (obs_cons rfl (o_eq rfl) obs_nil) rfl rfl rfl

set_option maxRecDepth 10000 in
theorem c104u (r : RS) (hs : r.s.length < 4611686018427387904) (hp : r.pos ≤ r.s.length) : Fn PR 104 [.ptr 1000000 0, .fn (.func 105) [.ptr 1000000 0] []] [(1000000, .cells [.d (.str r.s), .d (I r.pos), .d (I r.e)])] [.d (I (r.uint).1)] [(1000000, (r.uint).2.ob)] := by
 refine fn_of_awp Tryz.func104 rfl (N := 36) rfl ?_
 refine xsr ?_
 refine xlz (o_as rfl rfl rfl) ?_
 refine lendF ?_
 refine xsr ?_
 refine xlz (o_as rfl rfl rfl) ?_
 refine lendF ?_
 refine awp_seq ?_
 refine xsr ?_
 refine xlz (o_mv rfl rfl rfl) ?_
 refine xlz (op_nilCheckP rfl rfl rfl rfl) ?_
 refine xlz (op_fieldP rfl rfl rfl fl140_2) ?_
 refine xlz (op_load1 rfl rfl rfl rfl ty34 rfl rfl) ?_
 refine xlz (op_binI rfl rfl rfl rfl rfl (.inl rfl) rfl) ?_
 refine lendF ?_
 refine awp_cond rfl rfl (fun hc1 => ?_) (fun hc1 => ?_)
 ·
  refine xsr ?_
  refine xlz (o_mv rfl rfl rfl) ?_
  refine xlz (o_as rfl rfl rfl) ?_
  refine lendF ?_
  refine awp_ret ?_
  refine ⟨[_], ⟨rfl, trivial⟩, ?_⟩
  rw [show r.uint = (0, r) from by simp_all [RS.uint, RS.take]]
  exact ent_o1 (obs_cons rfl (o_eq rfl) obs_nil) rfl rfl rfl
 ·
  refine awp_skip ?_
  refine xsr ?_
  refine xlz (o_mv rfl rfl rfl) ?_
  refine xlz (o_mv rfl rfl rfl) ?_
  refine xlz (op_nilCheckP rfl rfl rfl rfl) ?_
  refine xlz (op_fieldP rfl rfl rfl fl140_1) ?_
  refine xlz (op_load1 rfl rfl rfl rfl ty3 rfl rfl) ?_
  refine xlz (o_callR [1000000] (c105 r r.pos hs hp) rfl rfl rfl ca105 rfl (by decide) (handOK_cons (by decide) (by decide) rfl rfl handOK_nil) rfl) ?_
  refine xlz (o_mv rfl rfl rfl) ?_
  refine xlz (op_extract rfl rfl rfl rfl) ?_
  refine xlz (op_extract rfl rfl rfl rfl) ?_
  refine xlz (op_extract rfl rfl rfl rfl) ?_
  refine xlz (o_as rfl rfl rfl) ?_
  refine xlz (o_as rfl rfl rfl) ?_
  refine xlz (o_as rfl rfl rfl) ?_
  refine lendF ?_
  refine awp_seq ?_
  refine xsr ?_
  refine xlz (o_mv rfl rfl rfl) ?_
  refine xlz (op_not rfl rfl rfl) ?_
  refine lendF ?_
  refine awp_cond rfl rfl (fun hc2 => ?_) (fun hc2 => ?_)
  ·
   refine xsr ?_
   refine xlz (o_mv rfl rfl rfl) ?_
   refine xlz (op_nilCheckP rfl rfl rfl rfl) ?_
   refine xlz (op_fieldP rfl rfl rfl fl140_2) ?_
   refine xlz (op_store rfl rfl rfl rfl rfl rfl ty34 rfl (xlb rfl)) ?_
   refine lendF ?_
   refine xsr ?_
   refine xlz (o_mv rfl rfl rfl) ?_
   refine xlz (o_as rfl rfl rfl) ?_
   refine lendF ?_
   refine awp_ret ?_
   refine ⟨[_], ⟨rfl, trivial⟩, ?_⟩
   have hok : rdOK r.s r.pos = false := by simp_all
   rw [show r.uint = (0, { r with e := 9 }) from by simp_all [RS.uint, RS.take, rdN]]
   exact ent_o1 (obs_cons rfl (o_eq rfl) obs_nil) rfl rfl rfl
  ·
   refine awp_skip ?_
   refine xsr ?_
   refine xlz (o_mv rfl rfl rfl) ?_
   refine xlz (o_mv rfl rfl rfl) ?_
   refine xlz (op_nilCheckP rfl rfl rfl rfl) ?_
   refine xlz (op_fieldP rfl rfl rfl fl140_1) ?_
   refine xlz (op_store rfl rfl rfl rfl rfl rfl ty3 rfl (xlb rfl)) ?_
   refine lendF ?_
   refine xsr ?_
   refine xlz (o_mv rfl rfl rfl) ?_
   refine xlz (o_as rfl rfl rfl) ?_
   refine lendF ?_
   refine awp_ret ?_
   refine ⟨[_], ⟨rfl, trivial⟩, ?_⟩
   have hlt := rdU_lt r.s r.pos
   have hok : rdOK r.s r.pos = true := by simp_all
   have hw : IntKind.i64.wrap ((rdU r.s r.pos).1 : Int) = ((rdU r.s r.pos).1 : Nat) := wrap64 (by omega) (by have := hok; simp [rdOK] at this; omega)
   rw [show r.uint = ((((rdU r.s r.pos).1 : Nat) : Int), { r with pos := (rdU r.s r.pos).2.1 }) from by simp_all [RS.uint, RS.take, rdN]]
   exact ent_o1 (obs_cons rfl (o_eq rfl) obs_nil) rfl rfl (by rw [hw])

set_option maxRecDepth 10000 in
theorem c106 (r : RS) (p : Nat) (most : Int) (hs : r.s.length < 4611686018427387904) (hp : p ≤ r.s.length) : Fn PR 106 [.d (I (p : Nat)), .ptr 1000000 0, .ptr 1000001 0] [(1000000, .cells [.ptr 1000002 0]), (1000001, .cells [.d (I most)]), (1000002, .cells [.d (.str r.s), .d (I r.pos), .d (I r.e)])] [.d (I (IntKind.i64.wrap ((rdU r.s p).1 : Nat))), .d (I ((rdU r.s p).2.1 : Nat)), .d (.bool (rdOK r.s p && decide (IntKind.i64.wrap ((rdU r.s p).1 : Nat) ≤ most)))] [(1000000, .cells [.ptr 1000002 0]), (1000001, .cells [.d (I most)]), (1000002, .cells [.d (.str r.s), .d (I r.pos), .d (I r.e)])] := by
 refine fn_of_awp Tryz.func106 rfl (N := 25) rfl ?_
 refine xsr ?_
 refine xlz (o_as rfl rfl rfl) ?_
 refine xlz (o_as rfl rfl rfl) ?_
 refine xlz (o_as rfl rfl rfl) ?_
 refine lendF ?_
 refine xsr ?_
 refine xlz (op_load1 rfl rfl rfl rfl ty104 rfl rfl) ?_
 refine xlz (o_mv rfl rfl rfl) ?_
 refine xlz (o_callR [1000002] (c105 r p hs hp) rfl rfl rfl ca105 rfl (by decide) (handOK_cons (by decide) (by decide) rfl rfl handOK_nil) rfl) ?_
 refine xlz (o_mv rfl rfl rfl) ?_
 refine xlz (op_extract rfl rfl rfl rfl) ?_
 refine xlz (op_extract rfl rfl rfl rfl) ?_
 refine xlz (op_extract rfl rfl rfl rfl) ?_
 refine xlz (o_as rfl rfl rfl) ?_
 refine xlz (o_as rfl rfl rfl) ?_
 refine xlz (o_as rfl rfl rfl) ?_
 refine lendF ?_
 refine xsr ?_
 refine xlz (o_mv rfl rfl rfl) ?_
 refine xlz (o_mv rfl rfl rfl) ?_
 refine xlz (o_mv rfl rfl rfl) ?_
 refine xlz (o_mv rfl rfl rfl) ?_
 refine lsplit rfl (fun hg1 => ?_) (fun hg1 => ?_)
 ·
  refine lg (o_mv rfl rfl rfl) rfl hg1 rfl rfl ?_
  refine lg (op_load1 rfl rfl rfl rfl ty3 rfl rfl) rfl hg1 rfl rfl ?_
  refine lg (op_binI rfl rfl rfl rfl rfl (.inl rfl) rfl) rfl hg1 rfl rfl ?_
  refine xlz (o_pT rfl rfl (g11 hg1) rfl rfl) ?_
  refine xlz (o_as rfl rfl rfl) ?_
  refine xlz (o_as rfl rfl rfl) ?_
  refine xlz (o_as rfl rfl rfl) ?_
  refine lend (fun _ => by kernel_rfl) ?_
  refine awp_ret ?_
  refine ⟨[_, _, _], ⟨rfl, rfl, rfl, trivial⟩, ?_⟩
  exact ent_o3 (obs_cons rfl (o_eq rfl) (obs_cons rfl (o_eq rfl) (obs_cons rfl (o_eq rfl) obs_nil))) rfl rfl rfl rfl rfl rfl (by simp_all)
 ·
  refine lskip rfl hg1 rfl ?_
  refine lskip rfl hg1 rfl ?_
  refine lskip rfl hg1 rfl ?_
  refine xlz (o_pF rfl rfl (g10 hg1) rfl rfl) ?_
  refine xlz (o_as rfl rfl rfl) ?_
  refine xlz (o_as rfl rfl rfl) ?_
  refine xlz (o_as rfl rfl rfl) ?_
  refine lend (fun _ => by kernel_rfl) ?_
  refine awp_ret ?_
  refine ⟨[_, _, _], ⟨rfl, rfl, rfl, trivial⟩, ?_⟩
  exact ent_o3 (obs_cons rfl (o_eq rfl) (obs_cons rfl (o_eq rfl) (obs_cons rfl (o_eq rfl) obs_nil))) rfl rfl rfl rfl rfl rfl (by simp_all)

set_option maxRecDepth 10000 in
theorem c104c (r : RS) (most : Int) (hs : r.s.length < 4611686018427387904) (hp : r.pos ≤ r.s.length) : Fn PR 104 [.ptr 1000002 0, .fn (.func 106) [] [.ptr 1000000 0, .ptr 1000001 0]] [(1000000, .cells [.ptr 1000002 0]), (1000001, .cells [.d (I most)]), (1000002, .cells [.d (.str r.s), .d (I r.pos), .d (I r.e)])] [.d (I (r.count most).1)] [(1000000, .cells [.ptr 1000002 0]), (1000001, .cells [.d (I most)]), (1000002, (r.count most).2.ob)] := by
 refine fn_of_awp Tryz.func104 rfl (N := 36) rfl ?_
 refine xsr ?_
 refine xlz (o_as rfl rfl rfl) ?_
 refine lendF ?_
 refine xsr ?_
 refine xlz (o_as rfl rfl rfl) ?_
 refine lendF ?_
 refine awp_seq ?_
 refine xsr ?_
 refine xlz (o_mv rfl rfl rfl) ?_
 refine xlz (op_nilCheckP rfl rfl rfl rfl) ?_
 refine xlz (op_fieldP rfl rfl rfl fl140_2) ?_
 refine xlz (op_load1 rfl rfl rfl rfl ty34 rfl rfl) ?_
 refine xlz (op_binI rfl rfl rfl rfl rfl (.inl rfl) rfl) ?_
 refine lendF ?_
 refine awp_cond rfl rfl (fun hc1 => ?_) (fun hc1 => ?_)
 ·
  refine xsr ?_
  refine xlz (o_mv rfl rfl rfl) ?_
  refine xlz (o_as rfl rfl rfl) ?_
  refine lendF ?_
  refine awp_ret ?_
  refine ⟨[_], ⟨rfl, trivial⟩, ?_⟩
  rw [show r.count most = (0, r) from by simp_all [RS.count, RS.take]]
  exact ent_o1 (obs_cons rfl (o_eq rfl) (obs_cons rfl (o_eq rfl) (obs_cons rfl (o_eq rfl) obs_nil))) rfl rfl rfl
 ·
  refine awp_skip ?_
  refine xsr ?_
  refine xlz (o_mv rfl rfl rfl) ?_
  refine xlz (o_mv rfl rfl rfl) ?_
  refine xlz (op_nilCheckP rfl rfl rfl rfl) ?_
  refine xlz (op_fieldP rfl rfl rfl fl140_1) ?_
  refine xlz (op_load1 rfl rfl rfl rfl ty3 rfl rfl) ?_
  refine xlz (o_callR [1000000, 1000001, 1000002] (c106 r r.pos most hs hp) rfl rfl rfl ca106 rfl (by decide) (handOK_cons (by decide) (by decide) rfl rfl (handOK_cons (by decide) (by decide) rfl rfl (handOK_cons (by decide) (by decide) rfl rfl handOK_nil))) rfl) ?_
  refine xlz (o_mv rfl rfl rfl) ?_
  refine xlz (op_extract rfl rfl rfl rfl) ?_
  refine xlz (op_extract rfl rfl rfl rfl) ?_
  refine xlz (op_extract rfl rfl rfl rfl) ?_
  refine xlz (o_as rfl rfl rfl) ?_
  refine xlz (o_as rfl rfl rfl) ?_
  refine xlz (o_as rfl rfl rfl) ?_
  refine lendF ?_
  refine awp_seq ?_
  refine xsr ?_
  refine xlz (o_mv rfl rfl rfl) ?_
  refine xlz (op_not rfl rfl rfl) ?_
  refine lendF ?_
  refine awp_cond rfl rfl (fun hc2 => ?_) (fun hc2 => ?_)
  ·
   refine xsr ?_
   refine xlz (o_mv rfl rfl rfl) ?_
   refine xlz (op_nilCheckP rfl rfl rfl rfl) ?_
   refine xlz (op_fieldP rfl rfl rfl fl140_2) ?_
   refine xlz (op_store rfl rfl rfl rfl rfl rfl ty34 rfl (xlb rfl)) ?_
   refine lendF ?_
   refine xsr ?_
   refine xlz (o_mv rfl rfl rfl) ?_
   refine xlz (o_as rfl rfl rfl) ?_
   refine lendF ?_
   refine awp_ret ?_
   refine ⟨[_], ⟨rfl, trivial⟩, ?_⟩
   have hno : (rdC r.s r.pos most).2.2 = false := by have hlt := rdU_lt r.s r.pos; have h1 := hc2; unfold rdC rdN; cases hok : rdOK r.s r.pos with | false => simp | true => (have hw : IntKind.i64.wrap ((rdU r.s r.pos).1 : Int) = ((rdU r.s r.pos).1 : Nat) := wrap64 (by omega) (by have := hok; simp [rdOK] at this; omega)); rw [hok, hw] at h1; simp at h1; rw [if_neg (by simp; omega)]
   rw [show r.count most = (0, { r with e := 9 }) from by simp_all [RS.count, RS.take]]
   exact ent_o1 (obs_cons rfl (o_eq rfl) (obs_cons rfl (o_eq rfl) (obs_cons rfl (o_eq rfl) obs_nil))) rfl rfl rfl
  ·
   refine awp_skip ?_
   refine xsr ?_
   refine xlz (o_mv rfl rfl rfl) ?_
   refine xlz (o_mv rfl rfl rfl) ?_
   refine xlz (op_nilCheckP rfl rfl rfl rfl) ?_
   refine xlz (op_fieldP rfl rfl rfl fl140_1) ?_
   refine xlz (op_store rfl rfl rfl rfl rfl rfl ty3 rfl (xlb rfl)) ?_
   refine lendF ?_
   refine xsr ?_
   refine xlz (o_mv rfl rfl rfl) ?_
   refine xlz (o_as rfl rfl rfl) ?_
   refine lendF ?_
   refine awp_ret ?_
   refine ⟨[_], ⟨rfl, trivial⟩, ?_⟩
   have hlt := rdU_lt r.s r.pos
   have hok : rdOK r.s r.pos = true := by simp_all
   have hw : IntKind.i64.wrap ((rdU r.s r.pos).1 : Int) = ((rdU r.s r.pos).1 : Nat) := wrap64 (by omega) (by have := hok; simp [rdOK] at this; omega)
   have hm : ((rdU r.s r.pos).1 : Int) ≤ most := by have := hc2; rw [hw] at this; simp at this; omega
   rw [show r.count most = ((((rdU r.s r.pos).1 : Nat) : Int), { r with pos := (rdU r.s r.pos).2.1 }) from by simp_all [RS.count, RS.take, rdC, rdN]]
   exact ent_o1 (obs_cons rfl (o_eq rfl) (obs_cons rfl (o_eq rfl) (obs_cons rfl (o_eq rfl) obs_nil))) rfl rfl (by rw [hw])

set_option maxRecDepth 10000 in
theorem c63 (s : Bytes) : Fn PR 63 [.d (.str s)] [] [.ptr 5 0] [(5, .cells [.d (.str s), .d (I 0), .d (I 0)])] := by
 refine fn_of_awp Tryz.func63 rfl (N := 6) rfl ?_
 refine xsr ?_
 refine xlz (o_as rfl rfl rfl) ?_
 refine lendF ?_
 refine xsr ?_
 refine xlz (o_mv rfl rfl rfl) ?_
 refine xlz (o_bld rfl rfl rfl bl140 ty140 zk140 rfl rfl rfl) ?_
 refine xlz (op_box rfl rfl (by decide) rfl rfl) ?_
 refine xlz (o_as rfl rfl rfl) ?_
 refine lendF ?_
 refine awp_ret ?_
 refine ⟨[_], ⟨rfl, trivial⟩, ?_⟩
 exact ent_id rfl (.cons rfl (k_eq rfl) .nil) (obs_cons rfl (o_eq rfl) obs_nil) rfl

set_option maxRecDepth 10000 in
theorem c64 (r : RS) (hs : r.s.length < 4611686018427387904) (hp : r.pos ≤ r.s.length) : Fn PR 64 [.ptr 1000000 0] [(1000000, .cells [.d (.str r.s), .d (I r.pos), .d (I r.e)])] [.d (.str (r.text).1)] [(1000000, (r.text).2.ob)] := by
 refine fn_of_awp Tryz.func64 rfl (N := 7) rfl ?_
 refine xsr ?_
 refine xlz (o_as rfl rfl rfl) ?_
 refine lendF ?_
 refine xsr ?_
 refine xlz (o_mv rfl rfl rfl) ?_
 refine xlz (o_mv rfl rfl rfl) ?_
 refine xlz (op_fn rfl rfl rfl rfl rfl) ?_
 refine xlz (o_callW [1000000] 6 (c99 r hs hp) rfl rfl rfl ca99 rfl (by decide) (handOK_cons (by decide) (by decide) rfl rfl handOK_nil) rfl rfl rfl rfl) ?_
 refine xlz (o_as rfl rfl rfl) ?_
 refine lendF ?_
 refine awp_ret ?_
 refine ⟨[_], ⟨rfl, trivial⟩, ?_⟩
 exact ent_o1 (obs_cons rfl (o_eq rfl) obs_nil) rfl rfl rfl

set_option maxRecDepth 10000 in
theorem c66 (r : RS) (hs : r.s.length < 4611686018427387904) (hp : r.pos ≤ r.s.length) : Fn PR 66 [.ptr 1000000 0] [(1000000, .cells [.d (.str r.s), .d (I r.pos), .d (I r.e)])] [.d (I (r.uint).1)] [(1000000, (r.uint).2.ob)] := by
 refine fn_of_awp Tryz.func66 rfl (N := 7) rfl ?_
 refine xsr ?_
 refine xlz (o_as rfl rfl rfl) ?_
 refine lendF ?_
 refine xsr ?_
 refine xlz (o_mv rfl rfl rfl) ?_
 refine xlz (o_mv rfl rfl rfl) ?_
 refine xlz (op_fn rfl rfl rfl rfl rfl) ?_
 refine xlz (o_callW [1000000] 6 (c104u r hs hp) rfl rfl rfl ca104 rfl (by decide) (handOK_cons (by decide) (by decide) rfl rfl handOK_nil) rfl rfl rfl rfl) ?_
 refine xlz (o_as rfl rfl rfl) ?_
 refine lendF ?_
 refine awp_ret ?_
 refine ⟨[_], ⟨rfl, trivial⟩, ?_⟩
 exact ent_o1 (obs_cons rfl (o_eq rfl) obs_nil) rfl rfl rfl

set_option maxRecDepth 10000 in
theorem c67 (r : RS) (most : Int) (hs : r.s.length < 4611686018427387904) (hp : r.pos ≤ r.s.length) : Fn PR 67 [.ptr 1000000 0, .d (I most)] [(1000000, .cells [.d (.str r.s), .d (I r.pos), .d (I r.e)])] [.d (I (r.count most).1)] [(1000000, (r.count most).2.ob)] := by
 refine fn_of_awp Tryz.func67 rfl (N := 8) rfl ?_
 refine xsr ?_
 refine xlz (op_box rfl rfl (by decide) rfl rfl) ?_
 refine xlz (op_box rfl rfl (by decide) rfl rfl) ?_
 refine xlz (o_as rfl rfl rfl) ?_
 refine lendF ?_
 refine xsr ?_
 refine xlz (op_load1 rfl rfl rfl rfl ty104 rfl rfl) ?_
 refine xlz (op_fn rfl rfl rfl rfl rfl) ?_
 refine xlz (o_callW [2, 3, 1000000] 7 (c104c r most hs hp) rfl rfl rfl ca104 rfl (by decide) (handOK_cons (by decide) (by decide) rfl rfl (handOK_cons (by decide) (by decide) rfl rfl (handOK_cons (by decide) (by decide) rfl rfl handOK_nil))) rfl rfl rfl rfl) ?_
 refine xlz (o_as rfl rfl rfl) ?_
 refine lendF ?_
 refine awp_ret ?_
 refine ⟨[_], ⟨rfl, trivial⟩, ?_⟩
 exact ent_o1 (obs_cons rfl (o_eq rfl) obs_nil) rfl rfl rfl

set_option maxRecDepth 10000 in
theorem c68 (r : RS) : Fn PR 68 [.ptr 1000000 0] [(1000000, .cells [.d (.str r.s), .d (I r.pos), .d (I r.e)])] [.d (I r.e)] [(1000000, .cells [.d (.str r.s), .d (I r.pos), .d (I r.e)])] := by
 refine fn_of_awp Tryz.func68 rfl (N := 7) rfl ?_
 refine xsr ?_
 refine xlz (o_as rfl rfl rfl) ?_
 refine lendF ?_
 refine xsr ?_
 refine xlz (o_mv rfl rfl rfl) ?_
 refine xlz (op_nilCheckP rfl rfl rfl rfl) ?_
 refine xlz (op_fieldP rfl rfl rfl fl140_2) ?_
 refine xlz (op_load1 rfl rfl rfl rfl ty34 rfl rfl) ?_
 refine xlz (o_as rfl rfl rfl) ?_
 refine lendF ?_
 refine awp_ret ?_
 refine ⟨[_], ⟨rfl, trivial⟩, ?_⟩
 exact ent_o1 (obs_cons rfl (o_eq rfl) obs_nil) rfl rfl rfl

set_option maxRecDepth 10000 in
theorem c69 (r : RS) (hs : r.s.length < 4611686018427387904) : Fn PR 69 [.ptr 1000000 0] [(1000000, .cells [.d (.str r.s), .d (I r.pos), .d (I r.e)])] [.d (I r.done)] [(1000000, .cells [.d (.str r.s), .d (I r.pos), .d (I r.e)])] := by
 refine fn_of_awp Tryz.func69 rfl (N := 24) rfl ?_
 refine xsr ?_
 refine xlz (o_as rfl rfl rfl) ?_
 refine lendF ?_
 refine awp_seq ?_
 refine xsr ?_
 refine xlz (o_mv rfl rfl rfl) ?_
 refine xlz (op_nilCheckP rfl rfl rfl rfl) ?_
 refine xlz (op_fieldP rfl rfl rfl fl140_2) ?_
 refine xlz (op_load1 rfl rfl rfl rfl ty34 rfl rfl) ?_
 refine xlz (op_binI rfl rfl rfl rfl rfl (.inl rfl) rfl) ?_
 refine xlz (o_mv rfl rfl rfl) ?_
 refine lsplit rfl (fun hg1 => ?_) (fun hg1 => ?_)
 ·
  refine lg (o_mv rfl rfl rfl) rfl hg1 rfl rfl ?_
  refine lg (op_nilCheckP rfl rfl rfl rfl) rfl hg1 rfl rfl ?_
  refine lg (op_fieldP rfl rfl rfl fl140_1) rfl hg1 rfl rfl ?_
  refine lg (op_load1 rfl rfl rfl rfl ty3 rfl rfl) rfl hg1 rfl rfl ?_
  refine lg (o_mv rfl rfl rfl) rfl hg1 rfl rfl ?_
  refine lg (op_nilCheckP rfl rfl rfl rfl) rfl hg1 rfl rfl ?_
  refine lg (op_fieldP rfl rfl rfl fl140_0) rfl hg1 rfl rfl ?_
  refine lg (op_load1 rfl rfl rfl rfl ty9 rfl rfl) rfl hg1 rfl rfl ?_
  refine lg (op_lenS rfl rfl rfl ty9) rfl hg1 rfl rfl ?_
  refine lg (op_binI rfl rfl rfl rfl rfl (.inl rfl) rfl) rfl hg1 rfl rfl ?_
  refine xlz (o_pT rfl rfl (g11 hg1) rfl rfl) ?_
  refine lend (fun _ => by kernel_rfl) ?_
  refine awp_cond rfl rfl (fun hc2 => ?_) (fun hc2 => ?_)
  ·
   refine xsr ?_
   refine xlz (o_as rfl rfl rfl) ?_
   refine lendF ?_
   refine awp_ret ?_
   refine ⟨[_], ⟨rfl, trivial⟩, ?_⟩
   exact ent_o1 (obs_cons rfl (o_eq rfl) obs_nil) rfl rfl (by congr 1; unfold RS.done; first | (rw [if_pos (by simp at *; omega)]; done) | (rw [if_neg (by simp at *; omega)]; done) | (simp at *; simp_all; done) | (split <;> simp_all <;> omega))
  ·
   refine awp_skip ?_
   refine xsr ?_
   refine xlz (o_mv rfl rfl rfl) ?_
   refine xlz (op_nilCheckP rfl rfl rfl rfl) ?_
   refine xlz (op_fieldP rfl rfl rfl fl140_2) ?_
   refine xlz (op_load1 rfl rfl rfl rfl ty34 rfl rfl) ?_
   refine xlz (o_as rfl rfl rfl) ?_
   refine lendF ?_
   refine awp_ret ?_
   refine ⟨[_], ⟨rfl, trivial⟩, ?_⟩
   exact ent_o1 (obs_cons rfl (o_eq rfl) obs_nil) rfl rfl (by congr 1; unfold RS.done; first | (rw [if_pos (by simp at *; omega)]; done) | (rw [if_neg (by simp at *; omega)]; done) | (simp at *; simp_all; done) | (split <;> simp_all <;> omega))
 ·
  refine lskip rfl hg1 rfl ?_
  refine lskip rfl hg1 rfl ?_
  refine lskip rfl hg1 rfl ?_
  refine lskip rfl hg1 rfl ?_
  refine lskip rfl hg1 rfl ?_
  refine lskip rfl hg1 rfl ?_
  refine lskip rfl hg1 rfl ?_
  refine lskip rfl hg1 rfl ?_
  refine lskip rfl hg1 rfl ?_
  refine lskip rfl hg1 rfl ?_
  refine xlz (o_pF rfl rfl (g10 hg1) rfl rfl) ?_
  refine lend (fun _ => by kernel_rfl) ?_
  refine awp_condF rfl rfl rfl ?_
  refine awp_skip ?_
  refine xsr ?_
  refine xlz (o_mv rfl rfl rfl) ?_
  refine xlz (op_nilCheckP rfl rfl rfl rfl) ?_
  refine xlz (op_fieldP rfl rfl rfl fl140_2) ?_
  refine xlz (op_load1 rfl rfl rfl rfl ty34 rfl rfl) ?_
  refine xlz (o_as rfl rfl rfl) ?_
  refine lendF ?_
  refine awp_ret ?_
  refine ⟨[_], ⟨rfl, trivial⟩, ?_⟩
  exact ent_o1 (obs_cons rfl (o_eq rfl) obs_nil) rfl rfl (by congr 1; unfold RS.done; first | (rw [if_pos (by simp at *; omega)]; done) | (rw [if_neg (by simp at *; omega)]; done) | (simp at *; simp_all; done) | (split <;> simp_all <;> omega))

end Go.Pm

namespace Go.Pm
open Go.Proofs

set_option maxRecDepth 10000 in
theorem c201 (s : Bytes) (hs : s.length < 4611686018427387904) : Fn PR 201 [.d (.str s)] [] [.d (.int .u32 (hashN s % M32)), .d (.int .u32 ((16777619 : Int) ^ s.length % M32))] [] := by
 refine fn_of_awp Tryz.func201 rfl (N := 39) rfl ?_
 refine xsr ?_
 refine xlz (o_as rfl rfl rfl) ?_
 refine xlz (o_as rfl rfl rfl) ?_
 refine lendF ?_
 refine xsr ?_
 refine xlz (o_as rfl rfl rfl) ?_
 refine lendF ?_
 refine awp_seq ?_
 refine xsr ?_
 refine xlz (o_as rfl rfl rfl) ?_
 refine lendF ?_
 refine awp_block ?_
 refine awp_loop (fun i => ⟨39, [(4, .d (.int .u32 (hashN (s.take i) % M32))), (5, .d (I (i : Nat))), (0, .d (.str s))], []⟩) (fun i => s.length - i) (fun i => i ≤ s.length) 0 ?_ ?_ ?_
 ·
  exact ent_k [] rfl rfl (.cons rfl (k_i (by simp [hashN])) <| xkc <| xkc <| .nil) obs_nil rfl
 ·
  exact Nat.zero_le _
 ·
  intro i hi
  refine awp_seq ?_
  refine xsr ?_
  refine xlz (o_mv rfl rfl rfl) ?_
  refine xlz (o_mv rfl rfl rfl) ?_
  refine xlz (op_lenS rfl rfl rfl ty9) ?_
  refine xlz (op_binI rfl rfl rfl rfl rfl (.inl rfl) rfl) ?_
  refine lendF ?_
  refine awp_cond rfl rfl (fun hc1 => ?_) (fun hc1 => ?_)
  ·
   obtain ⟨x, hn⟩ := rng_lt (l := s) (by simpa using hc1)
   have hlt := rng_le hn
   refine awp_skip ?_
   refine awp_seq ?_
   refine awp_block ?_
   refine awp_region mixed ?_
   refine xlz (o_mv rfl rfl rfl) ?_
   refine xlz (op_binI rfl rfl rfl rfl rfl (.inl rfl) rfl) ?_
   refine xlz (o_mv rfl rfl rfl) ?_
   refine xlz (o_mv rfl rfl rfl) ?_
   refine xlz (o_idxS (i) rfl rfl rfl rfl ty9 (by first | rfl | omega | (simp; done) | (simp; omega)) hn) ?_
   refine xlz (op_convI rfl rfl rfl ty5 ty180) ?_
   refine xlz (o_eqI (op_binI rfl rfl rfl rfl rfl (.inl rfl) rfl) (hash_next hn)) ?_
   refine xlz (o_as rfl rfl rfl) ?_
   refine lendF ?_
   refine awp_region mixed ?_
   refine xlz (o_mv rfl rfl rfl) ?_
   refine xlz (o_add rfl rfl rfl rfl (by first | omega | (simp; omega) | (simp at *; omega))) ?_
   refine xlz (o_as rfl rfl rfl) ?_
   refine lendF ?_
   refine ⟨i + 1, ?_, ?_, ?_⟩
   ·
    exact rng_le hn
   ·
    exact ent_k [] rfl rfl (xkc <| xkc <| xkc <| .nil) obs_nil rfl
   ·
    omega
  ·
   have hie := rng_ge (l := s) (by simpa using hc1) hi
   refine awp_exit ?_
   refine xsr ?_
   refine xlz (o_as rfl rfl rfl) ?_
   refine xlz (o_as rfl rfl rfl) ?_
   refine lendF ?_
   refine awp_seq ?_
   refine xsr ?_
   refine xlz (o_mv rfl rfl rfl) ?_
   refine xlz (op_lenS rfl rfl rfl ty9) ?_
   refine xlz (o_as rfl rfl rfl) ?_
   refine lendF ?_
   refine awp_block ?_
   refine awp_loop (fun x => ⟨39, [(6, .d (.int .u32 (x.2.1))), (7, .d (.int .u32 (x.2.2))), (8, .d (I (x.1 : Nat))), (4, .d (.int .u32 (hashN (s.take i) % M32)))], []⟩) (fun x => x.1) (fun x => x.1 ≤ s.length ∧ x.2.1 % M32 = x.2.1 ∧ (x.2.1 * x.2.2 ^ x.1) % M32 = 16777619 ^ s.length % M32) (s.length, 1, 16777619) ?_ ?_ ?_
   ·
    exact ent_k [] rfl rfl (xkc <| xkc <| xkc <| xkc <| .nil) obs_nil rfl
   ·
    exact ⟨Nat.le_refl _, rfl, by simp⟩
   ·
    rintro ⟨k, pw, sq⟩ ⟨hk, h1, h2⟩
    dsimp only at hk h1 h2 ⊢
    refine awp_seq ?_
    refine xsr ?_
    refine xlz (o_mv rfl rfl rfl) ?_
    refine xlz (op_binI rfl rfl rfl rfl rfl (.inl rfl) rfl) ?_
    refine lendF ?_
    refine awp_cond rfl rfl (fun hc2 => ?_) (fun hc2 => ?_)
    ·
     have hk0 : 0 < k := by have := hc2; simp at this; omega
     refine awp_skip ?_
     refine awp_seq ?_
     refine awp_block ?_
     refine awp_seq ?_
     refine xsr ?_
     refine xlz (o_mv rfl rfl rfl) ?_
     refine xlz (o_eqI (op_binI rfl rfl rfl rfl rfl (.inl rfl) rfl) (and1 k (by omega))) ?_
     refine xlz (op_binI rfl rfl rfl rfl rfl (.inl rfl) rfl) ?_
     refine lendF ?_
     refine awp_cond rfl rfl (fun hc3 => ?_) (fun hc3 => ?_)
     ·
      have hodd : k % 2 = 1 := by have := hc3; simp at this; omega
      refine awp_region mixed ?_
      refine xlz (o_mv rfl rfl rfl) ?_
      refine xlz (o_mv rfl rfl rfl) ?_
      refine xlz (o_eqI (op_binI rfl rfl rfl rfl rfl (.inl rfl) rfl) (wrapU32 _)) ?_
      refine xlz (o_as rfl rfl rfl) ?_
      refine lendF ?_
      refine awp_region mixed ?_
      refine xlz (o_mv rfl rfl rfl) ?_
      refine xlz (o_mv rfl rfl rfl) ?_
      refine xlz (o_eqI (op_binI rfl rfl rfl rfl rfl (.inl rfl) rfl) (wrapU32 _)) ?_
      refine xlz (o_as rfl rfl rfl) ?_
      refine lendF ?_
      refine awp_region mixed ?_
      refine xlz (o_mv rfl rfl rfl) ?_
      refine xlz (o_eqI (op_binI rfl rfl rfl rfl rfl (.inr (.inr rfl)) rfl) (shr1 k)) ?_
      refine xlz (o_as rfl rfl rfl) ?_
      refine lendF ?_
      refine ⟨(k / 2, (pw * sq) % M32, (sq * sq) % M32), ?_, ?_, ?_⟩
      ·
       exact ⟨by show k / 2 ≤ s.length; omega, by simp only [M32]; omega, by rw [← h2]; exact pm_odd hodd⟩
      ·
       exact ent_k [] rfl rfl (xkc <| xkc <| xkc <| xkc <| .nil) obs_nil rfl
      ·
       show k / 2 < k; omega
     ·
      have hodd : k % 2 = 0 := by have := hc3; simp at this; omega
      refine awp_skip ?_
      refine awp_region mixed ?_
      refine xlz (o_mv rfl rfl rfl) ?_
      refine xlz (o_mv rfl rfl rfl) ?_
      refine xlz (o_eqI (op_binI rfl rfl rfl rfl rfl (.inl rfl) rfl) (wrapU32 _)) ?_
      refine xlz (o_as rfl rfl rfl) ?_
      refine lendF ?_
      refine awp_region mixed ?_
      refine xlz (o_mv rfl rfl rfl) ?_
      refine xlz (o_eqI (op_binI rfl rfl rfl rfl rfl (.inr (.inr rfl)) rfl) (shr1 k)) ?_
      refine xlz (o_as rfl rfl rfl) ?_
      refine lendF ?_
      refine ⟨(k / 2, pw, (sq * sq) % M32), ?_, ?_, ?_⟩
      ·
       exact ⟨by show k / 2 ≤ s.length; omega, h1, by rw [← h2]; exact pm_even hodd⟩
      ·
       exact ent_k [] rfl rfl (xkc <| xkc <| xkc <| xkc <| .nil) obs_nil rfl
      ·
       show k / 2 < k; omega
    ·
     have hk0 : k = 0 := by have := hc2; simp at this; omega
     subst hk0
     refine awp_exit ?_
     refine xsr ?_
     refine xlz (o_mv rfl rfl rfl) ?_
     refine xlz (o_mv rfl rfl rfl) ?_
     refine xlz (o_as rfl rfl rfl) ?_
     refine xlz (o_as rfl rfl rfl) ?_
     refine lendF ?_
     refine awp_ret ?_
     refine ⟨[_, _], ⟨rfl, rfl, trivial⟩, ?_⟩
     exact ent_d2 rfl (by rw [hie, List.take_length]) rfl (by congr 1; rw [← h2, ← h1]; simp)

set_option maxRecDepth 10000 in
theorem c198 (s m : Bytes) (hs : s.length < 4611686018427387904) (h0 : 0 < m.length) (hle : m.length ≤ s.length) : Fn PR 198 [.d (.str s), .d (.str m)] [] [.d (I (ixS s m))] [] := by
 refine fn_of_awp Tryz.func198 rfl (N := 81) rfl ?_
 refine xsr ?_
 refine xlz (o_as rfl rfl rfl) ?_
 refine lendF ?_
 refine xsr ?_
 refine xlz (o_mv rfl rfl rfl) ?_
 refine xlz (o_call (c201 m (by omega)) rfl rfl rfl ca201 rfl rfl) ?_
 refine xlz (o_mv rfl rfl rfl) ?_
 refine xlz (op_extract rfl rfl rfl rfl) ?_
 refine xlz (op_extract rfl rfl rfl rfl) ?_
 refine xlz (o_as rfl rfl rfl) ?_
 refine xlz (o_as rfl rfl rfl) ?_
 refine lendF ?_
 refine xsr ?_
 refine xlz (o_mv rfl rfl rfl) ?_
 refine xlz (op_lenS rfl rfl rfl ty9) ?_
 refine xlz (o_as rfl rfl rfl) ?_
 refine lendF ?_
 refine xsr ?_
 refine xlz (o_as rfl rfl rfl) ?_
 refine lendF ?_
 refine awp_seq ?_
 refine xsr ?_
 refine xlz (o_as rfl rfl rfl) ?_
 refine lendF ?_
 refine awp_block ?_
 refine awp_loop (fun i => ⟨81, [(8, .d (.int .u32 (hashN (s.take i) % M32))), (9, .d (I (i : Nat))), (0, .d (.str s)), (1, .d (.str m)), (5, .d (.int .u32 (hashN m % M32))), (6, .d (.int .u32 ((16777619 : Int) ^ m.length % M32))), (7, .d (I m.length))], []⟩) (fun i => m.length - i) (fun i => i ≤ m.length) 0 ?_ ?_ ?_
 ·
  exact ent_k [] rfl rfl (.cons rfl (k_i (by simp [hashN])) <| xkc <| xkc <| xkc <| xkc <| xkc <| xkc <| .nil) obs_nil rfl
 ·
  exact Nat.zero_le _
 ·
  intro i hi
  refine awp_seq ?_
  refine xsr ?_
  refine xlz (o_mv rfl rfl rfl) ?_
  refine xlz (o_mv rfl rfl rfl) ?_
  refine xlz (op_binI rfl rfl rfl rfl rfl (.inl rfl) rfl) ?_
  refine lendF ?_
  refine awp_cond rfl rfl (fun hc1 => ?_) (fun hc1 => ?_)
  ·
   have hlt : i < m.length := by have := hc1; simp at this; omega
   obtain ⟨x, hn⟩ : ∃ x, s[i]? = some x := ⟨_, List.getElem?_eq_getElem (by omega)⟩
   refine awp_skip ?_
   refine awp_seq ?_
   refine awp_block ?_
   refine awp_region mixed ?_
   refine xlz (o_mv rfl rfl rfl) ?_
   refine xlz (op_binI rfl rfl rfl rfl rfl (.inl rfl) rfl) ?_
   refine xlz (o_mv rfl rfl rfl) ?_
   refine xlz (o_mv rfl rfl rfl) ?_
   refine xlz (o_idxS (i) rfl rfl rfl rfl ty9 (by first | rfl | omega | (simp; done) | (simp; omega)) hn) ?_
   refine xlz (op_convI rfl rfl rfl ty5 ty180) ?_
   refine xlz (o_eqI (op_binI rfl rfl rfl rfl rfl (.inl rfl) rfl) (hash_next hn)) ?_
   refine xlz (o_as rfl rfl rfl) ?_
   refine lendF ?_
   refine awp_region mixed ?_
   refine xlz (o_mv rfl rfl rfl) ?_
   refine xlz (o_add rfl rfl rfl rfl (by first | omega | (simp; omega) | (simp at *; omega))) ?_
   refine xlz (o_as rfl rfl rfl) ?_
   refine lendF ?_
   refine ⟨i + 1, ?_, ?_, ?_⟩
   ·
    exact hlt
   ·
    exact ent_k [] rfl rfl (xkc <| xkc <| xkc <| xkc <| xkc <| xkc <| xkc <| .nil) obs_nil rfl
   ·
    omega
  ·
   have hie : i = m.length := by have := hc1; simp at this; omega
   refine awp_exit ?_
   refine awp_seq ?_
   refine xsr ?_
   refine xlz (o_mv rfl rfl rfl) ?_
   refine xlz (o_mv rfl rfl rfl) ?_
   refine xlz (op_binI rfl rfl rfl rfl rfl (.inl rfl) rfl) ?_
   refine xlz (o_mv rfl rfl rfl) ?_
   refine lsplit rfl (fun hg2 => ?_) (fun hg2 => ?_)
   ·
    refine lg (o_mv rfl rfl rfl) rfl hg2 rfl rfl ?_
    refine lg (o_mv rfl rfl rfl) rfl hg2 rfl rfl ?_
    refine lg (o_slS rfl rfl rfl ty9 .none (.some rfl rfl (n := m.length) (by first | rfl | omega | (simp; done) | (simp; omega))) (Nat.zero_le _) hle) rfl hg2 rfl rfl ?_
    refine lg (o_mv rfl rfl rfl) rfl hg2 rfl rfl ?_
    refine lg (op_binS rfl rfl rfl rfl rfl (fun h => by first | cases h | (simp; omega)) rfl) rfl hg2 rfl rfl ?_
    refine xlz (o_pT rfl rfl (g11 hg2) rfl rfl) ?_
    refine lendF ?_
    refine awp_cond rfl rfl (fun hc3 => ?_) (fun hc3 => ?_)
    ·
     have hm0 : mAt s m 0 = true := by have := hc3; simpa [mAt] using this
     refine xsr ?_
     refine xlz (o_as rfl rfl rfl) ?_
     refine lendF ?_
     refine awp_ret ?_
     refine ⟨[_], ⟨rfl, trivial⟩, ?_⟩
     first | exact ent_i rfl (ixS_found (k := 0) (by omega) (fun j hj => by omega) hm0).symm | exact ent_i rfl (by rw [ixS_found (k := i + 1 - m.length) (by omega) (fun j hj => hno j (by omega)) hm2]; omega) | exact ent_i rfl (ixS_none fun j hj => hno j (by omega)).symm
    ·
     have hnm : mAt s m 0 = false := by have := hc3; simpa [mAt] using this
     refine awp_skip ?_
     refine awp_seq ?_
     refine xsr ?_
     refine xlz (o_mv rfl rfl rfl) ?_
     refine xlz (o_as rfl rfl rfl) ?_
     refine lendF ?_
     refine awp_block ?_
     have hno0 : mAt s m 0 = false := by first | exact hash_ne (l := s) (k := 0) hnh | exact hnm
     refine awp_loop (fun i => ⟨81, [(8, .d (.int .u32 (hashN ((s.drop (i - m.length)).take m.length) % M32))), (10, .d (I (i : Nat))), (0, .d (.str s)), (1, .d (.str m)), (5, .d (.int .u32 (hashN m % M32))), (6, .d (.int .u32 ((16777619 : Int) ^ m.length % M32))), (7, .d (I m.length))], []⟩) (fun i => s.length - i) (fun i => m.length ≤ i ∧ i ≤ s.length ∧ (∀ j, j < (i - m.length + 1) → mAt s m j = false)) m.length ?_ ?_ ?_
     ·
      exact ent_k [] rfl rfl (.cons rfl (k_i (by rw [Nat.sub_self, List.drop_zero, hie])) <| .cons rfl (k_i rfl) <| xkc <| xkc <| xkc <| xkc <| xkc <| .nil) obs_nil rfl
     ·
      exact ⟨Nat.le_refl _, hle, fun j hj => by (have : j = 0 := by omega); subst this; exact hno0⟩
     ·
      rintro i ⟨hmi, hi, hno⟩
      refine awp_seq ?_
      refine xsr ?_
      refine xlz (o_mv rfl rfl rfl) ?_
      refine xlz (o_mv rfl rfl rfl) ?_
      refine xlz (op_lenS rfl rfl rfl ty9) ?_
      refine xlz (op_binI rfl rfl rfl rfl rfl (.inl rfl) rfl) ?_
      refine lendF ?_
      refine awp_cond rfl rfl (fun hc4 => ?_) (fun hc4 => ?_)
      ·
       obtain ⟨x, hn⟩ := rng_lt (l := s) hc4
       have hlt := rng_le hn
       obtain ⟨a, ha⟩ : ∃ a, s[i - m.length]? = some a := ⟨_, List.getElem?_eq_getElem (by omega)⟩
       refine awp_skip ?_
       refine awp_block ?_
       refine xsr ?_
       refine xlz (o_mv rfl rfl rfl) ?_
       refine xlz (op_binI rfl rfl rfl rfl rfl (.inl rfl) rfl) ?_
       refine xlz (o_as rfl rfl rfl) ?_
       refine lendF ?_
       refine xsr ?_
       refine xlz (o_mv rfl rfl rfl) ?_
       refine xlz (o_mv rfl rfl rfl) ?_
       refine xlz (o_mv rfl rfl rfl) ?_
       refine xlz (o_idxS (i) rfl rfl rfl rfl ty9 (by first | rfl | omega | (simp; done) | (simp; omega)) hn) ?_
       refine xlz (op_convI rfl rfl rfl ty5 ty180) ?_
       refine xlz (op_binI rfl rfl rfl rfl rfl (.inl rfl) rfl) ?_
       refine xlz (o_as rfl rfl rfl) ?_
       refine lendF ?_
       refine xsr ?_
       refine xlz (o_mv rfl rfl rfl) ?_
       refine xlz (o_mv rfl rfl rfl) ?_
       refine xlz (o_mv rfl rfl rfl) ?_
       refine xlz (o_mv rfl rfl rfl) ?_
       refine xlz (o_mv rfl rfl rfl) ?_
       refine xlz (o_sub rfl rfl rfl rfl (by first | omega | (simp; omega) | (simp at *; omega))) ?_
       refine xlz (o_idxS ((i - m.length)) rfl rfl rfl rfl ty9 (by first | rfl | omega | (simp; done) | (simp; omega)) ha) ?_
       refine xlz (op_convI rfl rfl rfl ty5 ty180) ?_
       refine xlz (op_binI rfl rfl rfl rfl rfl (.inl rfl) rfl) ?_
       refine xlz (o_eqI (op_binI rfl rfl rfl rfl rfl (.inl rfl) rfl) (roll_next hn ha h0 hmi)) ?_
       refine xlz (o_as rfl rfl rfl) ?_
       refine lendF ?_
       refine xsr ?_
       refine xlz (o_mv rfl rfl rfl) ?_
       refine xlz (o_add rfl rfl rfl rfl (by first | omega | (simp; omega) | (simp at *; omega))) ?_
       refine xlz (o_as rfl rfl rfl) ?_
       refine lendF ?_
       refine xsr ?_
       refine xlz (o_mv rfl rfl rfl) ?_
       refine xlz (o_mv rfl rfl rfl) ?_
       refine xlz (op_binI rfl rfl rfl rfl rfl (.inl rfl) rfl) ?_
       refine xlz (o_mv rfl rfl rfl) ?_
       refine lsplit rfl (fun hg5 => ?_) (fun hg5 => ?_)
       ·
        refine lg (o_mv rfl rfl rfl) rfl hg5 rfl rfl ?_
        refine lg (o_mv rfl rfl rfl) rfl hg5 rfl rfl ?_
        refine lg (o_mv rfl rfl rfl) rfl hg5 rfl rfl ?_
        refine lg (o_sub rfl rfl rfl rfl (by first | omega | (simp; omega) | (simp at *; omega))) rfl hg5 rfl rfl ?_
        refine lg (o_mv rfl rfl rfl) rfl hg5 rfl rfl ?_
        refine lg (o_slS rfl rfl rfl ty9 (.some rfl rfl (n := (i + 1 - m.length)) (by first | rfl | omega | (simp; done) | (simp; omega))) (.some rfl rfl (n := (i + 1)) (by first | rfl | omega | (simp; done) | (simp; omega))) (by first | omega | (simp; omega) | (simp at *; omega)) (by first | omega | (simp; omega) | (simp at *; omega))) rfl hg5 rfl rfl ?_
        refine lg (o_mv rfl rfl rfl) rfl hg5 rfl rfl ?_
        refine lg (op_binS rfl rfl rfl rfl rfl (fun h => by first | cases h | (simp; omega)) rfl) rfl hg5 rfl rfl ?_
        refine xlz (o_pT rfl rfl (g11 hg5) rfl rfl) ?_
        refine lendF ?_
        refine awp_cond rfl rfl (fun hc6 => ?_) (fun hc6 => ?_)
        ·
         have hm2 : mAt s m (i + 1 - m.length) = true := by have := hc6; rw [show i + 1 - (i + 1 - m.length) = m.length from by omega] at this; exact this
         refine xsr ?_
         refine xlz (o_mv rfl rfl rfl) ?_
         refine xlz (o_mv rfl rfl rfl) ?_
         refine xlz (o_sub rfl rfl rfl rfl (by first | omega | (simp; omega) | (simp at *; omega))) ?_
         refine xlz (o_as rfl rfl rfl) ?_
         refine lendF ?_
         refine awp_ret ?_
         refine ⟨[_], ⟨rfl, trivial⟩, ?_⟩
         first | exact ent_i rfl (ixS_found (k := 0) (by omega) (fun j hj => by omega) hm0).symm | exact ent_i rfl (by rw [ixS_found (k := i + 1 - m.length) (by omega) (fun j hj => hno j (by omega)) hm2]; omega) | exact ent_i rfl (ixS_none fun j hj => hno j (by omega)).symm
        ·
         have hnm2 : mAt s m (i + 1 - m.length) = false := by have := hc6; rw [show i + 1 - (i + 1 - m.length) = m.length from by omega] at this; exact this
         refine awp_skip ?_
         refine ⟨i + 1, ?_, ?_, ?_⟩
         ·
          exact ⟨by omega, rng_le hn, fun j hj => by rcases Nat.lt_or_ge j (i - m.length + 1) with h | h; (exact hno j h); ((have : j = i + 1 - m.length := by omega); subst this; first | exact hash_ne hnh2 | exact hnm2)⟩
         ·
          exact ent_k [] rfl rfl (xkc <| xkc <| xkc <| xkc <| xkc <| xkc <| xkc <| .nil) obs_nil rfl
         ·
          have := rng_le hn; omega
       ·
        have hnh2 : ((hashN ((s.drop (i + 1 - m.length)).take m.length) % M32) == (hashN m % M32)) = false := (g10 hg5)
        refine lskip rfl hg5 rfl ?_
        refine lskip rfl hg5 rfl ?_
        refine lskip rfl hg5 rfl ?_
        refine lskip rfl hg5 rfl ?_
        refine lskip rfl hg5 rfl ?_
        refine lskip rfl hg5 rfl ?_
        refine lskip rfl hg5 rfl ?_
        refine lskip rfl hg5 rfl ?_
        refine xlz (o_pF rfl rfl (g10 hg5) rfl rfl) ?_
        refine lendF ?_
        refine awp_condF rfl rfl rfl ?_
        refine awp_skip ?_
        refine ⟨i + 1, ?_, ?_, ?_⟩
        ·
         exact ⟨by omega, rng_le hn, fun j hj => by rcases Nat.lt_or_ge j (i - m.length + 1) with h | h; (exact hno j h); ((have : j = i + 1 - m.length := by omega); subst this; first | exact hash_ne hnh2 | exact hnm2)⟩
        ·
         exact ent_k [] rfl rfl (xkc <| xkc <| xkc <| xkc <| xkc <| xkc <| xkc <| .nil) obs_nil rfl
        ·
         have := rng_le hn; omega
      ·
       obtain rfl := rng_ge (l := s) hc4 hi
       refine awp_exit ?_
       refine xsr ?_
       refine xlz (o_as rfl rfl rfl) ?_
       refine lendF ?_
       refine awp_ret ?_
       refine ⟨[_], ⟨rfl, trivial⟩, ?_⟩
       first | exact ent_i rfl (ixS_found (k := 0) (by omega) (fun j hj => by omega) hm0).symm | exact ent_i rfl (by rw [ixS_found (k := i + 1 - m.length) (by omega) (fun j hj => hno j (by omega)) hm2]; omega) | exact ent_i rfl (ixS_none fun j hj => hno j (by omega)).symm
   ·
    have hnh : ((hashN ((s.drop 0).take m.length) % M32) == (hashN m % M32)) = false := by rw [List.drop_zero, ← hie]; exact (g10 hg2)
    refine lskip rfl hg2 rfl ?_
    refine lskip rfl hg2 rfl ?_
    refine lskip rfl hg2 rfl ?_
    refine lskip rfl hg2 rfl ?_
    refine lskip rfl hg2 rfl ?_
    refine xlz (o_pF rfl rfl (g10 hg2) rfl rfl) ?_
    refine lendF ?_
    refine awp_condF rfl rfl rfl ?_
    refine awp_skip ?_
    refine awp_seq ?_
    refine xsr ?_
    refine xlz (o_mv rfl rfl rfl) ?_
    refine xlz (o_as rfl rfl rfl) ?_
    refine lendF ?_
    refine awp_block ?_
    have hno0 : mAt s m 0 = false := by first | exact hash_ne (l := s) (k := 0) hnh | exact hnm
    refine awp_loop (fun i => ⟨81, [(8, .d (.int .u32 (hashN ((s.drop (i - m.length)).take m.length) % M32))), (10, .d (I (i : Nat))), (0, .d (.str s)), (1, .d (.str m)), (5, .d (.int .u32 (hashN m % M32))), (6, .d (.int .u32 ((16777619 : Int) ^ m.length % M32))), (7, .d (I m.length))], []⟩) (fun i => s.length - i) (fun i => m.length ≤ i ∧ i ≤ s.length ∧ (∀ j, j < (i - m.length + 1) → mAt s m j = false)) m.length ?_ ?_ ?_
    ·
     exact ent_k [] rfl rfl (.cons rfl (k_i (by rw [Nat.sub_self, List.drop_zero, hie])) <| .cons rfl (k_i rfl) <| xkc <| xkc <| xkc <| xkc <| xkc <| .nil) obs_nil rfl
    ·
     exact ⟨Nat.le_refl _, hle, fun j hj => by (have : j = 0 := by omega); subst this; exact hno0⟩
    ·
     rintro i ⟨hmi, hi, hno⟩
     refine awp_seq ?_
     refine xsr ?_
     refine xlz (o_mv rfl rfl rfl) ?_
     refine xlz (o_mv rfl rfl rfl) ?_
     refine xlz (op_lenS rfl rfl rfl ty9) ?_
     refine xlz (op_binI rfl rfl rfl rfl rfl (.inl rfl) rfl) ?_
     refine lendF ?_
     refine awp_cond rfl rfl (fun hc9 => ?_) (fun hc9 => ?_)
     ·
      obtain ⟨x, hn⟩ := rng_lt (l := s) hc9
      have hlt := rng_le hn
      obtain ⟨a, ha⟩ : ∃ a, s[i - m.length]? = some a := ⟨_, List.getElem?_eq_getElem (by omega)⟩
      refine awp_skip ?_
      refine awp_block ?_
      refine xsr ?_
      refine xlz (o_mv rfl rfl rfl) ?_
      refine xlz (op_binI rfl rfl rfl rfl rfl (.inl rfl) rfl) ?_
      refine xlz (o_as rfl rfl rfl) ?_
      refine lendF ?_
      refine xsr ?_
      refine xlz (o_mv rfl rfl rfl) ?_
      refine xlz (o_mv rfl rfl rfl) ?_
      refine xlz (o_mv rfl rfl rfl) ?_
      refine xlz (o_idxS (i) rfl rfl rfl rfl ty9 (by first | rfl | omega | (simp; done) | (simp; omega)) hn) ?_
      refine xlz (op_convI rfl rfl rfl ty5 ty180) ?_
      refine xlz (op_binI rfl rfl rfl rfl rfl (.inl rfl) rfl) ?_
      refine xlz (o_as rfl rfl rfl) ?_
      refine lendF ?_
      refine xsr ?_
      refine xlz (o_mv rfl rfl rfl) ?_
      refine xlz (o_mv rfl rfl rfl) ?_
      refine xlz (o_mv rfl rfl rfl) ?_
      refine xlz (o_mv rfl rfl rfl) ?_
      refine xlz (o_mv rfl rfl rfl) ?_
      refine xlz (o_sub rfl rfl rfl rfl (by first | omega | (simp; omega) | (simp at *; omega))) ?_
      refine xlz (o_idxS ((i - m.length)) rfl rfl rfl rfl ty9 (by first | rfl | omega | (simp; done) | (simp; omega)) ha) ?_
      refine xlz (op_convI rfl rfl rfl ty5 ty180) ?_
      refine xlz (op_binI rfl rfl rfl rfl rfl (.inl rfl) rfl) ?_
      refine xlz (o_eqI (op_binI rfl rfl rfl rfl rfl (.inl rfl) rfl) (roll_next hn ha h0 hmi)) ?_
      refine xlz (o_as rfl rfl rfl) ?_
      refine lendF ?_
      refine xsr ?_
      refine xlz (o_mv rfl rfl rfl) ?_
      refine xlz (o_add rfl rfl rfl rfl (by first | omega | (simp; omega) | (simp at *; omega))) ?_
      refine xlz (o_as rfl rfl rfl) ?_
      refine lendF ?_
      refine xsr ?_
      refine xlz (o_mv rfl rfl rfl) ?_
      refine xlz (o_mv rfl rfl rfl) ?_
      refine xlz (op_binI rfl rfl rfl rfl rfl (.inl rfl) rfl) ?_
      refine xlz (o_mv rfl rfl rfl) ?_
      refine lsplit rfl (fun hg10 => ?_) (fun hg10 => ?_)
      ·
       refine lg (o_mv rfl rfl rfl) rfl hg10 rfl rfl ?_
       refine lg (o_mv rfl rfl rfl) rfl hg10 rfl rfl ?_
       refine lg (o_mv rfl rfl rfl) rfl hg10 rfl rfl ?_
       refine lg (o_sub rfl rfl rfl rfl (by first | omega | (simp; omega) | (simp at *; omega))) rfl hg10 rfl rfl ?_
       refine lg (o_mv rfl rfl rfl) rfl hg10 rfl rfl ?_
       refine lg (o_slS rfl rfl rfl ty9 (.some rfl rfl (n := (i + 1 - m.length)) (by first | rfl | omega | (simp; done) | (simp; omega))) (.some rfl rfl (n := (i + 1)) (by first | rfl | omega | (simp; done) | (simp; omega))) (by first | omega | (simp; omega) | (simp at *; omega)) (by first | omega | (simp; omega) | (simp at *; omega))) rfl hg10 rfl rfl ?_
       refine lg (o_mv rfl rfl rfl) rfl hg10 rfl rfl ?_
       refine lg (op_binS rfl rfl rfl rfl rfl (fun h => by first | cases h | (simp; omega)) rfl) rfl hg10 rfl rfl ?_
       refine xlz (o_pT rfl rfl (g11 hg10) rfl rfl) ?_
       refine lendF ?_
       refine awp_cond rfl rfl (fun hc11 => ?_) (fun hc11 => ?_)
       ·
        have hm2 : mAt s m (i + 1 - m.length) = true := by have := hc11; rw [show i + 1 - (i + 1 - m.length) = m.length from by omega] at this; exact this
        refine xsr ?_
        refine xlz (o_mv rfl rfl rfl) ?_
        refine xlz (o_mv rfl rfl rfl) ?_
        refine xlz (o_sub rfl rfl rfl rfl (by first | omega | (simp; omega) | (simp at *; omega))) ?_
        refine xlz (o_as rfl rfl rfl) ?_
        refine lendF ?_
        refine awp_ret ?_
        refine ⟨[_], ⟨rfl, trivial⟩, ?_⟩
        first | exact ent_i rfl (ixS_found (k := 0) (by omega) (fun j hj => by omega) hm0).symm | exact ent_i rfl (by rw [ixS_found (k := i + 1 - m.length) (by omega) (fun j hj => hno j (by omega)) hm2]; omega) | exact ent_i rfl (ixS_none fun j hj => hno j (by omega)).symm
       ·
        have hnm2 : mAt s m (i + 1 - m.length) = false := by have := hc11; rw [show i + 1 - (i + 1 - m.length) = m.length from by omega] at this; exact this
        refine awp_skip ?_
        refine ⟨i + 1, ?_, ?_, ?_⟩
        ·
         exact ⟨by omega, rng_le hn, fun j hj => by rcases Nat.lt_or_ge j (i - m.length + 1) with h | h; (exact hno j h); ((have : j = i + 1 - m.length := by omega); subst this; first | exact hash_ne hnh2 | exact hnm2)⟩
        ·
         exact ent_k [] rfl rfl (xkc <| xkc <| xkc <| xkc <| xkc <| xkc <| xkc <| .nil) obs_nil rfl
        ·
         have := rng_le hn; omega
      ·
       have hnh2 : ((hashN ((s.drop (i + 1 - m.length)).take m.length) % M32) == (hashN m % M32)) = false := (g10 hg10)
       refine lskip rfl hg10 rfl ?_
       refine lskip rfl hg10 rfl ?_
       refine lskip rfl hg10 rfl ?_
       refine lskip rfl hg10 rfl ?_
       refine lskip rfl hg10 rfl ?_
       refine lskip rfl hg10 rfl ?_
       refine lskip rfl hg10 rfl ?_
       refine lskip rfl hg10 rfl ?_
       refine xlz (o_pF rfl rfl (g10 hg10) rfl rfl) ?_
       refine lendF ?_
       refine awp_condF rfl rfl rfl ?_
       refine awp_skip ?_
       refine ⟨i + 1, ?_, ?_, ?_⟩
       ·
        exact ⟨by omega, rng_le hn, fun j hj => by rcases Nat.lt_or_ge j (i - m.length + 1) with h | h; (exact hno j h); ((have : j = i + 1 - m.length := by omega); subst this; first | exact hash_ne hnh2 | exact hnm2)⟩
       ·
        exact ent_k [] rfl rfl (xkc <| xkc <| xkc <| xkc <| xkc <| xkc <| xkc <| .nil) obs_nil rfl
       ·
        have := rng_le hn; omega
     ·
      obtain rfl := rng_ge (l := s) hc9 hi
      refine awp_exit ?_
      refine xsr ?_
      refine xlz (o_as rfl rfl rfl) ?_
      refine lendF ?_
      refine awp_ret ?_
      refine ⟨[_], ⟨rfl, trivial⟩, ?_⟩
      first | exact ent_i rfl (ixS_found (k := 0) (by omega) (fun j hj => by omega) hm0).symm | exact ent_i rfl (by rw [ixS_found (k := i + 1 - m.length) (by omega) (fun j hj => hno j (by omega)) hm2]; omega) | exact ent_i rfl (ixS_none fun j hj => hno j (by omega)).symm

set_option maxRecDepth 10000 in
theorem c197 (n : Int) (h1 : 0 ≤ n) (h2 : n < 4611686018427387904) : Fn PR 197 [.d (I n)] [] [.d (I ((n + 16) / 8))] [] := by
 refine fn_of_awp Tryz.func197 rfl (N := 6) rfl ?_
 refine xsr ?_
 refine xlz (o_as rfl rfl rfl) ?_
 refine lendF ?_
 refine xsr ?_
 refine xlz (o_mv rfl rfl rfl) ?_
 refine xlz (o_add rfl rfl rfl rfl (by first | omega | (simp; omega) | (simp at *; omega))) ?_
 refine xlz (o_eqI (op_binI rfl rfl rfl rfl rfl (.inl rfl) rfl) (show IntKind.i64.wrap ((n + 16).tdiv 8) = (n + 16) / 8 by rw [Int.tdiv_eq_ediv_of_nonneg (by omega), wrap64 (by omega) (by omega)])) ?_
 refine xlz (o_as rfl rfl rfl) ?_
 refine lendF ?_
 refine awp_ret ?_
 refine ⟨[_], ⟨rfl, trivial⟩, ?_⟩
 exact ent_d1 rfl (by first | rfl | simp_all)

set_option maxRecDepth 10000 in
theorem c195 (s : Bytes) (c : UInt8) : Fn PR 195 [.d (.str s), .d (.int .u8 c.toNat)] [] [.d (I (Lib.indexByte s c))] [] := by
 refine fn_of_awp Tryz.func195 rfl (N := 8) rfl ?_
 refine xsr ?_
 refine xlz (o_as rfl rfl rfl) ?_
 refine lendF ?_
 refine xsr ?_
 refine xlz (o_mv rfl rfl rfl) ?_
 refine xlz (o_mv rfl rfl rfl) ?_
 refine xlz (op_ixB rfl ext200 rfl rfl rfl rfl rfl) ?_
 refine xlz (o_as rfl rfl rfl) ?_
 refine lendF ?_
 refine awp_ret ?_
 refine ⟨[_], ⟨rfl, trivial⟩, ?_⟩
 exact ent_d1 rfl (by first | rfl | simp_all)

end Go.Pm

namespace Go.Pm
open Go.Proofs

set_option maxRecDepth 100000 in
set_option maxHeartbeats 8000000 in
theorem c188 (s m : Bytes) (hs : s.length ≤ 1000000) : Fn PR 188 [.d (.str s), .d (.str m)] [] [.d (I (ixS s m))] [] := by
 refine fn_of_awp Tryz.func188 rfl (N := 143) rfl ?_
 refine awp_glob 900000 rfl (by decide) fun n => ?_
 refine xsr ?_
 refine las rfl rfl rfl rfl rfl ?_
 refine lendF ?_
 refine xsr ?_
 refine lmv rfl rfl rfl rfl rfl ?_
 refine xlz (op_lenS rfl rfl rfl ty9) ?_
 refine las rfl rfl rfl rfl rfl ?_
 refine lendF ?_
 refine awp_seq ?_
 refine awp_block ?_
 refine xsr ?_
 refine lmv rfl rfl rfl rfl rfl ?_
 refine xlz (op_binI rfl rfl rfl rfl rfl (.inl rfl) rfl) ?_
 refine lmv rfl rfl rfl rfl rfl ?_
 refine lsplit rfl (fun hg1 => ?_) (fun hg1 => ?_)
 ·
  have hm0 : 0 < m.length := by have := (g01 hg1); simp at this; exact List.length_pos_iff.2 this
  iterate 2 refine gmv hg1 rfl rfl rfl rfl rfl ?_
  refine lg (op_binS rfl rfl rfl rfl rfl (fun h => by first | cases h | (simp; omega)) rfl) rfl hg1 rfl rfl ?_
  refine xlz (o_pF rfl rfl (g01 hg1) rfl rfl) ?_
  refine las rfl rfl rfl rfl rfl ?_
  refine lendF ?_
  refine awp_cond rfl rfl (fun hc2 => ?_) (fun hc2 => ?_)
  ·
   have hms : m = s := by have := hc2; simpa using this
   refine xsr ?_
   refine las rfl rfl rfl rfl rfl ?_
   refine lendF ?_
   refine awp_ret ?_
   refine ⟨[_], ⟨rfl, trivial⟩, ?_⟩
   first | exact ent_i rfl (by rw [hT, if_pos hr]; omega) | exact ent_i rfl (by rw [hT, if_neg hr]) | exact ent_i rfl (ixS_found hiT hno2 hm).symm | exact ent_i rfl (ixS_none hnone).symm | exact ent_i rfl (by rw [hm0, ixS_nil]) | exact ent_i rfl (by rw [hms, ixS_self]) | exact ent_i rfl (by rw [ixS_one]) | exact ent_i rfl (ixS_long hge hms).symm | exact ent_i rfl rfl | exact ent_i rfl (ixS_none fun j hj => hno j (by omega)).symm
  ·
   have hms : ¬ m = s := by have := hc2; simpa using this
   refine xsr ?_
   refine lmv rfl rfl rfl rfl rfl ?_
   refine xlz (op_binI rfl rfl rfl rfl rfl (.inl rfl) rfl) ?_
   refine las rfl rfl rfl rfl rfl ?_
   refine lendF ?_
   refine awp_cond rfl rfl (fun hc3 => ?_) (fun hc3 => ?_)
   ·
    have h1 : m.length = 1 := by have := hc3; simp at this; omega
    obtain ⟨c, rfl⟩ : ∃ c, m = [c] := List.length_eq_one_iff.1 h1
    refine xsr ?_
    iterate 2 refine lmv rfl rfl rfl rfl rfl ?_
    refine xlz (o_idxS (0) rfl rfl rfl rfl ty9 (by first | rfl | omega | (simp; done) | (simp; omega)) rfl) ?_
    refine xlz (o_call (c195 s c) rfl rfl rfl ca195 rfl rfl) ?_
    refine las rfl rfl rfl rfl rfl ?_
    refine lendF ?_
    refine awp_ret ?_
    refine ⟨[_], ⟨rfl, trivial⟩, ?_⟩
    first | exact ent_i rfl (by rw [hT, if_pos hr]; omega) | exact ent_i rfl (by rw [hT, if_neg hr]) | exact ent_i rfl (ixS_found hiT hno2 hm).symm | exact ent_i rfl (ixS_none hnone).symm | exact ent_i rfl (by rw [hm0, ixS_nil]) | exact ent_i rfl (by rw [hms, ixS_self]) | exact ent_i rfl (by rw [ixS_one]) | exact ent_i rfl (ixS_long hge hms).symm | exact ent_i rfl rfl | exact ent_i rfl (ixS_none fun j hj => hno j (by omega)).symm
   ·
    have h2 : 2 ≤ m.length := by have := hc3; simp at this; omega
    refine xsr ?_
    iterate 2 refine lmv rfl rfl rfl rfl rfl ?_
    refine xlz (op_lenS rfl rfl rfl ty9) ?_
    refine xlz (op_binI rfl rfl rfl rfl rfl (.inl rfl) rfl) ?_
    refine las rfl rfl rfl rfl rfl ?_
    refine lendF ?_
    refine awp_cond rfl rfl (fun hc4 => ?_) (fun hc4 => ?_)
    ·
     have hge : m.length ≥ s.length := by have := hc4; simp at this; omega
     refine xsr ?_
     refine las rfl rfl rfl rfl rfl ?_
     refine lendF ?_
     refine awp_ret ?_
     refine ⟨[_], ⟨rfl, trivial⟩, ?_⟩
     first | exact ent_i rfl (by rw [hT, if_pos hr]; omega) | exact ent_i rfl (by rw [hT, if_neg hr]) | exact ent_i rfl (ixS_found hiT hno2 hm).symm | exact ent_i rfl (ixS_none hnone).symm | exact ent_i rfl (by rw [hm0, ixS_nil]) | exact ent_i rfl (by rw [hms, ixS_self]) | exact ent_i rfl (by rw [ixS_one]) | exact ent_i rfl (ixS_long hge hms).symm | exact ent_i rfl rfl | exact ent_i rfl (ixS_none fun j hj => hno j (by omega)).symm
    ·
     have hlt : m.length < s.length := by have := hc4; simp at this; omega
     obtain ⟨c0, hc0⟩ : ∃ c, m[0]? = some c := ⟨_, List.getElem?_eq_getElem (by omega)⟩
     obtain ⟨c1, hc1⟩ : ∃ c, m[1]? = some c := ⟨_, List.getElem?_eq_getElem (by omega)⟩
     refine xsr ?_
     refine lmv rfl rfl rfl rfl rfl ?_
     refine xlz (op_gload (X := 900000) rfl rfl ty3 rfl) ?_
     refine xlz (op_binI rfl rfl rfl rfl rfl (.inl rfl) rfl) ?_
     refine lmv rfl rfl rfl rfl rfl ?_
     refine lsplit rfl (fun hg5 => ?_) (fun hg5 => ?_)
     ·
      have hml : (m.length : Int) ≤ n := by have := (g11 hg5); simpa using this
      refine gmv hg5 rfl rfl rfl rfl rfl ?_
      refine lg (op_lenS rfl rfl rfl ty9) rfl hg5 rfl rfl ?_
      refine lg (op_binI rfl rfl rfl rfl rfl (.inl rfl) rfl) rfl hg5 rfl rfl ?_
      refine xlz (o_pT rfl rfl (g11 hg5) rfl rfl) ?_
      refine las rfl rfl rfl rfl rfl ?_
      refine lendF ?_
      refine awp_cond rfl rfl (fun hc6 => ?_) (fun hc6 => ?_)
      ·
       refine xsr ?_
       iterate 2 refine lmv rfl rfl rfl rfl rfl ?_
       refine xlz (op_ixS (X := 900000) rfl ext196 gix rfl rfl rfl h2 hml (by omega) rfl rfl) ?_
       refine las rfl rfl rfl rfl rfl ?_
       refine lendF ?_
       refine awp_ret ?_
       refine ⟨[_], ⟨rfl, trivial⟩, ?_⟩
       first | exact ent_i rfl (by rw [hT, if_pos hr]; omega) | exact ent_i rfl (by rw [hT, if_neg hr]) | exact ent_i rfl (ixS_found hiT hno2 hm).symm | exact ent_i rfl (ixS_none hnone).symm | exact ent_i rfl (by rw [hm0, ixS_nil]) | exact ent_i rfl (by rw [hms, ixS_self]) | exact ent_i rfl (by rw [ixS_one]) | exact ent_i rfl (ixS_long hge hms).symm | exact ent_i rfl rfl | exact ent_i rfl (ixS_none fun j hj => hno j (by omega)).symm
      ·
       refine awp_skip ?_
       refine xsr ?_
       refine lmv rfl rfl rfl rfl rfl ?_
       refine xlz (o_idxS (0) rfl rfl rfl rfl ty9 (by first | rfl | omega | (simp; done) | (simp; omega)) hc0) ?_
       refine las rfl rfl rfl rfl rfl ?_
       refine lendF ?_
       refine xsr ?_
       refine lmv rfl rfl rfl rfl rfl ?_
       refine xlz (o_idxS (1) rfl rfl rfl rfl ty9 (by first | rfl | omega | (simp; done) | (simp; omega)) hc1) ?_
       refine las rfl rfl rfl rfl rfl ?_
       refine lendF ?_
       refine xsr ?_
       refine las rfl rfl rfl rfl rfl ?_
       refine lendF ?_
       refine xsr ?_
       refine lmv rfl rfl rfl rfl rfl ?_
       refine xlz (op_lenS rfl rfl rfl ty9) ?_
       refine lmv rfl rfl rfl rfl rfl ?_
       refine xlz (o_sub rfl rfl rfl rfl (by first | omega | (simp; omega) | (simp at *; omega))) ?_
       refine xlz (o_add rfl rfl rfl rfl (by first | omega | (simp; omega) | (simp at *; omega))) ?_
       refine las rfl rfl rfl rfl rfl ?_
       refine lendF ?_
       refine xsr ?_
       refine las rfl rfl rfl rfl rfl ?_
       refine lendF ?_
       refine awp_seq ?_
       refine awp_block ?_
       refine awp_loop (fun x => ⟨143, [(8, .d (I (x.1 : Nat))), (10, .d (I (x.2 : Nat))), (0, .d (.str s)), (1, .d (.str m)), (5, .d (I m.length)), (6, .d (.int .u8 c0.toNat)), (7, .d (.int .u8 c1.toNat)), (9, .d (I ((s.length - m.length) + 1)))], [(900000, .glob n)]⟩) (fun x => s.length - x.1) (fun x => x.1 ≤ s.length ∧ x.2 ≤ x.1 ∧ ∀ j, j < x.1 → mAt s m j = false) (0, 0) ?_ ?_ ?_
       ·
        exact ent_k [] rfl rfl ((by repeat (first | exact .nil | refine xkc ?_))) (obs_cons rfl (o_eq rfl) obs_nil) rfl
       ·
        exact ⟨Nat.zero_le _, Nat.le_refl _, fun j hj => absurd hj (Nat.not_lt_zero _)⟩
       ·
        rintro ⟨i0, f⟩ ⟨hi, hf, hno⟩
        dsimp only at hi hf hno ⊢
        refine awp_seq ?_
        refine xsr ?_
        iterate 2 refine lmv rfl rfl rfl rfl rfl ?_
        refine xlz (op_binI rfl rfl rfl rfl rfl (.inl rfl) rfl) ?_
        refine lendF ?_
        refine awp_cond rfl rfl (fun hc7 => ?_) (fun hc7 => ?_)
        ·
         have hit : i0 < (s.length + 1 - m.length) := by have := hc7; simp at this; omega
         obtain ⟨x, hn⟩ : ∃ x, s[i0]? = some x := ⟨_, List.getElem?_eq_getElem (by omega)⟩
         refine awp_skip ?_
         refine awp_block ?_
         refine awp_joinX (fun i => ⟨143, [(8, .d (I (i : Nat))), (0, .d (.str s)), (1, .d (.str m)), (5, .d (I m.length)), (6, .d (.int .u8 c0.toNat)), (7, .d (.int .u8 c1.toNat)), (9, .d (I ((s.length - m.length) + 1))), (10, .d (I (f : Nat))), (57, .d (I (i0 : Nat))), (58, .d (I ((s.length - m.length) + 1)))], [(900000, .glob n)]⟩) (fun i => i0 ≤ i ∧ i < (s.length + 1 - m.length) ∧ ∀ j, j < i → mAt s m j = false) ?_ ?_
         ·
          refine xsr ?_
          iterate 2 refine lmv rfl rfl rfl rfl rfl ?_
          refine xlz (o_idxS (i0) rfl rfl rfl rfl ty9 (by first | rfl | omega | (simp; done) | (simp; omega)) hn) ?_
          refine lmv rfl rfl rfl rfl rfl ?_
          refine xlz (op_binI rfl rfl rfl rfl rfl (.inl rfl) rfl) ?_
          refine lendF ?_
          refine awp_cond rfl rfl (fun hc8 => ?_) (fun hc8 => ?_)
          ·
           have hx : ¬ x = c0 := by have := hc8; rw [neB] at this; simpa using this
           refine xsr ?_
           iterate 2 refine lmv rfl rfl rfl rfl rfl ?_
           refine xlz (o_add rfl rfl rfl rfl (by first | omega | (simp; omega) | (simp at *; omega))) ?_
           refine lmv rfl rfl rfl rfl rfl ?_
           refine xlz (o_slS rfl rfl rfl ty9 (.some rfl rfl (n := (i0 + 1)) (by first | rfl | omega | (simp; done) | (simp; omega))) (.some rfl rfl (n := (s.length + 1 - m.length)) (by first | rfl | omega | (simp; done) | (simp; omega))) (by first | omega | (simp; omega) | (simp at *; omega)) (by first | omega | (simp; omega) | (simp at *; omega))) ?_
           refine lmv rfl rfl rfl rfl rfl ?_
           refine xlz (o_call (c195 ((s.drop (i0 + 1)).take ((s.length + 1 - m.length) - (i0 + 1))) c0) rfl rfl rfl ca195 rfl rfl) ?_
           refine las rfl rfl rfl rfl rfl ?_
           refine lendF ?_
           refine awp_seq ?_
           refine xsr ?_
           refine lmv rfl rfl rfl rfl rfl ?_
           refine xlz (op_binI rfl rfl rfl rfl rfl (.inl rfl) rfl) ?_
           refine lendF ?_
           refine awp_cond rfl rfl (fun hc9 => ?_) (fun hc9 => ?_)
           ·
            have hnone : ∀ j, j < (s.length + 1 - m.length) → mAt s m j = false := fun j hj => by rcases Nat.lt_or_ge j i0 with h | h; (exact hno j h); (cases hh : mAt s m j with | false => rfl | true => (have h0 := mAt_head hc0 hh; rcases Nat.lt_or_ge i0 j with h3 | h3; (have h4 := ixB_none (by simpa using hc9) (j - (i0 + 1)); rw [List.getElem?_take, if_pos (by omega), List.getElem?_drop, show i0 + 1 + (j - (i0 + 1)) = j from by omega] at h4; exact absurd h0 h4); ((have : j = i0 := by omega); subst this; rw [hn] at h0; injection h0 with h0; exact absurd h0 hx)))
            refine xsr ?_
            refine las rfl rfl rfl rfl rfl ?_
            refine lendF ?_
            refine awp_ret ?_
            refine ⟨[_], ⟨rfl, trivial⟩, ?_⟩
            first | exact ent_i rfl (by rw [hT, if_pos hr]; omega) | exact ent_i rfl (by rw [hT, if_neg hr]) | exact ent_i rfl (ixS_found hiT hno2 hm).symm | exact ent_i rfl (ixS_none hnone).symm | exact ent_i rfl (by rw [hm0, ixS_nil]) | exact ent_i rfl (by rw [hms, ixS_self]) | exact ent_i rfl (by rw [ixS_one]) | exact ent_i rfl (ixS_long hge hms).symm | exact ent_i rfl rfl | exact ent_i rfl (ixS_none fun j hj => hno j (by omega)).symm
           ·
            obtain ⟨o, ho, ho2, ho3⟩ := ixB_some (by have := hc9; simp at this; exact this)
            have hol := rng_le ho2
            rw [List.length_take, List.length_drop] at hol
            have hno2 : ∀ j, j < i0 + o + 1 → mAt s m j = false := fun j hj => by rcases Nat.lt_or_ge j i0 with h | h; (exact hno j h); (cases hh : mAt s m j with | false => rfl | true => (have h0 := mAt_head hc0 hh; rcases Nat.lt_or_ge i0 j with h3 | h3; (have h4 := ho3 (j - (i0 + 1)) (by omega); rw [List.getElem?_take, if_pos (by omega), List.getElem?_drop, show i0 + 1 + (j - (i0 + 1)) = j from by omega] at h4; exact absurd h0 h4); ((have : j = i0 := by omega); subst this; rw [hn] at h0; injection h0 with h0; exact absurd h0 hx)))
            refine awp_skip ?_
            refine awp_region mixed ?_
            iterate 2 refine lmv rfl rfl rfl rfl rfl ?_
            refine xlz (o_add rfl rfl rfl rfl (by rw [ho]; omega)) ?_
            refine xlz (o_add rfl rfl rfl rfl (by rw [ho]; omega)) ?_
            refine las rfl rfl rfl rfl rfl ?_
            refine lendF ?_
            refine ⟨(i0 + o + 1), ?_, ?_⟩
            ·
             exact ⟨by omega, by omega, hno2⟩
            ·
             exact ent_k [] rfl rfl (.cons rfl (k_i (by rw [ho]; omega)) <| (by repeat (first | exact .nil | refine xkc ?_))) (obs_cons rfl (o_eq rfl) obs_nil) rfl
          ·
           have hx : x = c0 := by have := hc8; rw [neB] at this; simpa using this
           refine awp_skip ?_
           refine ⟨i0, ?_, ?_⟩
           ·
            exact ⟨Nat.le_refl _, hit, hno⟩
           ·
            exact ent_k [] rfl rfl (.cons rfl (k_i rfl) <| (by repeat (first | exact .nil | refine xkc ?_))) (obs_cons rfl (o_eq rfl) obs_nil) rfl
         ·
          rintro i ⟨hii, hiT, hno2⟩
          refine awp_seq ?_
          refine awp_joinX (fun _ : Unit => ⟨143, [(93, .d (.bool (mAt s m i))), (0, .d (.str s)), (1, .d (.str m)), (5, .d (I m.length)), (6, .d (.int .u8 c0.toNat)), (7, .d (.int .u8 c1.toNat)), (8, .d (I (i : Nat))), (9, .d (I ((s.length - m.length) + 1))), (10, .d (I (f : Nat))), (57, .d (I (i0 : Nat))), (58, .d (I ((s.length - m.length) + 1)))], [(900000, .glob n)]⟩) (fun _ : Unit => True) ?_ ?_
          ·
           obtain ⟨y, hn1⟩ : ∃ y, s[i + 1]? = some y := ⟨_, List.getElem?_eq_getElem (by omega)⟩
           refine awp_region mixed ?_
           iterate 2 refine lmv rfl rfl rfl rfl rfl ?_
           refine xlz (o_add rfl rfl rfl rfl (by first | omega | (simp; omega) | (simp at *; omega))) ?_
           refine xlz (o_idxS ((i + 1)) rfl rfl rfl rfl ty9 (by first | rfl | omega | (simp; done) | (simp; omega)) hn1) ?_
           refine lmv rfl rfl rfl rfl rfl ?_
           refine xlz (op_binI rfl rfl rfl rfl rfl (.inl rfl) rfl) ?_
           refine lmv rfl rfl rfl rfl rfl ?_
           refine lsplit rfl (fun hg10 => ?_) (fun hg10 => ?_)
           ·
            iterate 4 refine gmv hg10 rfl rfl rfl rfl rfl ?_
            refine lg (o_add rfl rfl rfl rfl (by first | omega | (simp; omega) | (simp at *; omega))) rfl hg10 rfl rfl ?_
            refine lg (o_eqS (o_slS rfl rfl rfl ty9 (.some rfl rfl (n := i) (by first | rfl | omega | (simp; done) | (simp; omega))) (.some rfl rfl (n := (i + m.length)) (by first | rfl | omega | (simp; done) | (simp; omega))) (by first | omega | (simp; omega) | (simp at *; omega)) (by first | omega | (simp; omega) | (simp at *; omega))) (l' := (s.drop i).take m.length) (by rw [Nat.add_sub_cancel_left])) rfl hg10 rfl rfl ?_
            refine gmv hg10 rfl rfl rfl rfl rfl ?_
            refine lg (op_binS rfl rfl rfl rfl rfl (fun h => by first | cases h | (simp; omega)) rfl) rfl hg10 rfl rfl ?_
            refine xlz (o_pT rfl rfl (g11 hg10) rfl rfl) ?_
            refine lendF ?_
            refine ⟨(), ?_, ?_⟩
            ·
             exact True.intro
            ·
             exact ent_k [] rfl rfl (.cons rfl (k_b rfl) <| (by repeat (first | exact .nil | refine xkc ?_))) (obs_cons rfl (o_eq rfl) obs_nil) rfl
           ·
            have hnm : mAt s m i = false := by cases hh : mAt s m i with | false => rfl | true => (have h2 := mAt_second hc1 hh); rw [hn1] at h2; injection h2 with h2; subst h2; have := (g10 hg10); simp at this
            iterate 8 refine lskip rfl hg10 rfl ?_
            refine xlz (o_pF rfl rfl (g10 hg10) rfl rfl) ?_
            refine lendF ?_
            refine ⟨(), ?_, ?_⟩
            ·
             exact True.intro
            ·
             exact ent_k [] rfl rfl (.cons rfl (k_b hnm.symm) <| (by repeat (first | exact .nil | refine xkc ?_))) (obs_cons rfl (o_eq rfl) obs_nil) rfl
          ·
           rintro _ _
           refine awp_cond rfl rfl (fun hc11 => ?_) (fun hc11 => ?_)
           ·
            have hm : mAt s m i = true := hc11
            refine xsr ?_
            refine lmv rfl rfl rfl rfl rfl ?_
            refine las rfl rfl rfl rfl rfl ?_
            refine lendF ?_
            refine awp_ret ?_
            refine ⟨[_], ⟨rfl, trivial⟩, ?_⟩
            first | exact ent_i rfl (by rw [hT, if_pos hr]; omega) | exact ent_i rfl (by rw [hT, if_neg hr]) | exact ent_i rfl (ixS_found hiT hno2 hm).symm | exact ent_i rfl (ixS_none hnone).symm | exact ent_i rfl (by rw [hm0, ixS_nil]) | exact ent_i rfl (by rw [hms, ixS_self]) | exact ent_i rfl (by rw [ixS_one]) | exact ent_i rfl (ixS_long hge hms).symm | exact ent_i rfl rfl | exact ent_i rfl (ixS_none fun j hj => hno j (by omega)).symm
           ·
            have hnm : mAt s m i = false := hc11
            refine awp_skip ?_
            refine awp_seq ?_
            have hno3 : ∀ j, j < i + 1 → mAt s m j = false := fun j hj => by rcases Nat.lt_or_ge j i with h | h; (exact hno2 j h); ((have : j = i := by omega); subst this; exact hnm)
            have hT := ixS_tail (l := s) (m := m) hno3 (by omega) hm0
            refine awp_region mixed ?_
            refine lmv rfl rfl rfl rfl rfl ?_
            refine xlz (o_add rfl rfl rfl rfl (by first | omega | (simp; omega) | (simp at *; omega))) ?_
            refine las rfl rfl rfl rfl rfl ?_
            refine lendF ?_
            refine xsr ?_
            refine lmv rfl rfl rfl rfl rfl ?_
            refine xlz (o_add rfl rfl rfl rfl (by first | omega | (simp; omega) | (simp at *; omega))) ?_
            refine las rfl rfl rfl rfl rfl ?_
            refine lendF ?_
            refine awp_joinX (fun _ : Unit => ⟨143, [(107, .d (.bool (decide ((m.length : Int) ≤ n) && decide (((f : Nat) : Int) + 1 > (((i : Nat) : Int) + 1 + 16) / 8)))), (0, .d (.str s)), (1, .d (.str m)), (5, .d (I m.length)), (6, .d (.int .u8 c0.toNat)), (7, .d (.int .u8 c1.toNat)), (8, .d (I ((i : Nat) + 1))), (9, .d (I ((s.length - m.length) + 1))), (10, .d (I ((f : Nat) + 1))), (57, .d (I (i0 : Nat))), (58, .d (I ((s.length - m.length) + 1))), (93, .d (.bool (mAt s m i))), (95, .d (I (i : Nat))), (96, .d (I ((i : Nat) + 1))), (97, .d (I (f : Nat))), (98, .d (I ((f : Nat) + 1)))], [(900000, .glob n)]⟩) (fun _ : Unit => True) ?_ ?_
            ·
             refine awp_region mixed ?_
             refine lmv rfl rfl rfl rfl rfl ?_
             refine xlz (op_gload (X := 900000) rfl rfl ty3 rfl) ?_
             refine xlz (op_binI rfl rfl rfl rfl rfl (.inl rfl) rfl) ?_
             refine lmv rfl rfl rfl rfl rfl ?_
             refine lsplit rfl (fun hg12 => ?_) (fun hg12 => ?_)
             ·
              have hml : (m.length : Int) ≤ n := by have := (g11 hg12); simpa using this
              iterate 2 refine gmv hg12 rfl rfl rfl rfl rfl ?_
              refine lg (o_call (c197 (((i : Nat) : Int) + 1) (by omega) (by omega)) rfl rfl rfl ca197 rfl rfl) rfl hg12 rfl rfl ?_
              refine lg (op_binI rfl rfl rfl rfl rfl (.inl rfl) rfl) rfl hg12 rfl rfl ?_
              refine xlz (o_pT rfl rfl (g11 hg12) rfl rfl) ?_
              refine lendF ?_
              refine ⟨(), ?_, ?_⟩
              ·
               exact True.intro
              ·
               exact ent_k [] rfl rfl (.cons rfl (k_b (by first | (simp_all; done) | (simp_all <;> (intros; omega)))) <| (by repeat (first | exact .nil | refine xkc ?_))) (obs_cons rfl (o_eq rfl) obs_nil) rfl
             ·
              iterate 4 refine lskip rfl hg12 rfl ?_
              refine xlz (o_pF rfl rfl (g10 hg12) rfl rfl) ?_
              refine lendF ?_
              refine ⟨(), ?_, ?_⟩
              ·
               exact True.intro
              ·
               exact ent_k [] rfl rfl (.cons rfl (k_b (by first | (simp_all; done) | (simp_all <;> (intros; omega)))) <| (by repeat (first | exact .nil | refine xkc ?_))) (obs_cons rfl (o_eq rfl) obs_nil) rfl
            ·
             rintro _ _
             refine awp_cond rfl rfl (fun hc13 => ?_) (fun hc13 => ?_)
             ·
              have hml : (m.length : Int) ≤ n := by have := hc13; simp at this; omega
              refine xsr ?_
              iterate 2 refine lmv rfl rfl rfl rfl rfl ?_
              refine xlz (o_eqS (o_slS rfl rfl rfl ty9 (.some rfl rfl (n := (i + 1)) (by first | rfl | omega | (simp; done) | (simp; omega))) .none (by first | omega | (simp; omega) | (simp at *; omega)) (by first | omega | (simp; omega) | (simp at *; omega))) (l' := s.drop (i + 1)) (by simp [List.take_of_length_le])) ?_
              refine lmv rfl rfl rfl rfl rfl ?_
              refine xlz (op_ixS (X := 900000) rfl ext196 gix rfl rfl rfl h2 hml (by simp; omega) rfl rfl) ?_
              refine las rfl rfl rfl rfl rfl ?_
              refine lendF ?_
              refine awp_seq ?_
              refine xsr ?_
              refine lmv rfl rfl rfl rfl rfl ?_
              refine xlz (op_binI rfl rfl rfl rfl rfl (.inl rfl) rfl) ?_
              refine lendF ?_
              refine awp_cond rfl rfl (fun hc14 => ?_) (fun hc14 => ?_)
              ·
               have hr : ixS (s.drop (i + 1)) m ≥ 0 := by simpa using hc14
               refine xsr ?_
               iterate 2 refine lmv rfl rfl rfl rfl rfl ?_
               refine xlz (o_add rfl rfl rfl rfl (by have := ixS_ge (s.drop (i + 1)) m; have h9 := ixS_le (s.drop (i + 1)) m; rw [List.length_drop] at h9; omega)) ?_
               refine las rfl rfl rfl rfl rfl ?_
               refine lendF ?_
               refine awp_ret ?_
               refine ⟨[_], ⟨rfl, trivial⟩, ?_⟩
               first | exact ent_i rfl (by rw [hT, if_pos hr]; omega) | exact ent_i rfl (by rw [hT, if_neg hr]) | exact ent_i rfl (ixS_found hiT hno2 hm).symm | exact ent_i rfl (ixS_none hnone).symm | exact ent_i rfl (by rw [hm0, ixS_nil]) | exact ent_i rfl (by rw [hms, ixS_self]) | exact ent_i rfl (by rw [ixS_one]) | exact ent_i rfl (ixS_long hge hms).symm | exact ent_i rfl rfl | exact ent_i rfl (ixS_none fun j hj => hno j (by omega)).symm
              ·
               have hr : ¬ ixS (s.drop (i + 1)) m ≥ 0 := by have := hc14; simp at this; omega
               refine awp_skip ?_
               refine xsr ?_
               refine las rfl rfl rfl rfl rfl ?_
               refine lendF ?_
               refine awp_ret ?_
               refine ⟨[_], ⟨rfl, trivial⟩, ?_⟩
               first | exact ent_i rfl (by rw [hT, if_pos hr]; omega) | exact ent_i rfl (by rw [hT, if_neg hr]) | exact ent_i rfl (ixS_found hiT hno2 hm).symm | exact ent_i rfl (ixS_none hnone).symm | exact ent_i rfl (by rw [hm0, ixS_nil]) | exact ent_i rfl (by rw [hms, ixS_self]) | exact ent_i rfl (by rw [ixS_one]) | exact ent_i rfl (ixS_long hge hms).symm | exact ent_i rfl rfl | exact ent_i rfl (ixS_none fun j hj => hno j (by omega)).symm
             ·
              refine awp_joinX (fun _ : Unit => ⟨143, [(132, .d (.bool (decide ((m.length : Int) > n) && decide (((f : Nat) : Int) + 1 ≥ 4 + (((i + 1) / 16 : Nat) : Int)) && decide (((i : Nat) : Int) + 1 < (s.length : Int) - (m.length : Int) + 1)))), (0, .d (.str s)), (1, .d (.str m)), (5, .d (I m.length)), (6, .d (.int .u8 c0.toNat)), (7, .d (.int .u8 c1.toNat)), (8, .d (I ((i : Nat) + 1))), (9, .d (I ((s.length - m.length) + 1))), (10, .d (I ((f : Nat) + 1))), (57, .d (I (i0 : Nat))), (58, .d (I ((s.length - m.length) + 1))), (93, .d (.bool (mAt s m i))), (95, .d (I (i : Nat))), (96, .d (I ((i : Nat) + 1))), (97, .d (I (f : Nat))), (98, .d (I ((f : Nat) + 1))), (107, .d (.bool (decide ((m.length : Int) ≤ n) && decide (((f : Nat) : Int) + 1 > (((i : Nat) : Int) + 1 + 16) / 8))))], [(900000, .glob n)]⟩) (fun _ : Unit => True) ?_ ?_
              ·
               refine awp_region mixed ?_
               refine lmv rfl rfl rfl rfl rfl ?_
               refine xlz (op_gload (X := 900000) rfl rfl ty3 rfl) ?_
               refine xlz (op_binI rfl rfl rfl rfl rfl (.inl rfl) rfl) ?_
               refine lmv rfl rfl rfl rfl rfl ?_
               refine lsplit rfl (fun hg15 => ?_) (fun hg15 => ?_)
               ·
                iterate 2 refine gmv hg15 rfl rfl rfl rfl rfl ?_
                refine lg (o_eqI (op_binI rfl rfl rfl rfl rfl (.inr (.inr rfl)) rfl) (m' := (((i + 1) / 16 : Nat) : Int)) (shr4 (i + 1))) rfl hg15 rfl rfl ?_
                refine lg (o_add rfl rfl rfl rfl (by first | omega | (simp; omega) | (simp at *; omega))) rfl hg15 rfl rfl ?_
                refine lg (op_binI rfl rfl rfl rfl rfl (.inl rfl) rfl) rfl hg15 rfl rfl ?_
                refine xlz (o_pT rfl rfl (g11 hg15) rfl rfl) ?_
                refine lmv rfl rfl rfl rfl rfl ?_
                refine lsplit rfl (fun hg16 => ?_) (fun hg16 => ?_)
                ·
                 iterate 2 refine gmv hg16 rfl rfl rfl rfl rfl ?_
                 refine lg (op_binI rfl rfl rfl rfl rfl (.inl rfl) rfl) rfl hg16 rfl rfl ?_
                 refine xlz (o_pT rfl rfl (g11 hg16) rfl rfl) ?_
                 refine lendF ?_
                 refine ⟨(), ?_, ?_⟩
                 ·
                  exact True.intro
                 ·
                  exact ent_k [] rfl rfl (.cons rfl (k_b (by first | (simp_all; done) | (simp_all <;> (intros; omega)))) <| (by repeat (first | exact .nil | refine xkc ?_))) (obs_cons rfl (o_eq rfl) obs_nil) rfl
                ·
                 iterate 3 refine lskip rfl hg16 rfl ?_
                 refine xlz (o_pF rfl rfl (g10 hg16) rfl rfl) ?_
                 refine lendF ?_
                 refine ⟨(), ?_, ?_⟩
                 ·
                  exact True.intro
                 ·
                  exact ent_k [] rfl rfl (.cons rfl (k_b (by first | (simp_all; done) | (simp_all <;> (intros; omega)))) <| (by repeat (first | exact .nil | refine xkc ?_))) (obs_cons rfl (o_eq rfl) obs_nil) rfl
               ·
                iterate 5 refine lskip rfl hg15 rfl ?_
                refine xlz (o_pF rfl rfl (g10 hg15) rfl rfl) ?_
                refine lmv rfl rfl rfl rfl rfl ?_
                iterate 3 refine lskip rfl rfl rfl ?_
                refine xlz (o_pF rfl rfl rfl rfl rfl) ?_
                refine lendF ?_
                refine ⟨(), ?_, ?_⟩
                ·
                 exact True.intro
                ·
                 exact ent_k [] rfl rfl (.cons rfl (k_b (by first | (simp_all; done) | (simp_all <;> (intros; omega)))) <| (by repeat (first | exact .nil | refine xkc ?_))) (obs_cons rfl (o_eq rfl) obs_nil) rfl
              ·
               rintro _ _
               refine awp_cond rfl rfl (fun hc17 => ?_) (fun hc17 => ?_)
               ·
                have hrk : m.length ≤ (s.drop (i + 1)).length := by have := hc17; simp at this; rw [List.length_drop]; omega
                refine xsr ?_
                iterate 2 refine lmv rfl rfl rfl rfl rfl ?_
                refine xlz (o_eqS (o_slS rfl rfl rfl ty9 (.some rfl rfl (n := (i + 1)) (by first | rfl | omega | (simp; done) | (simp; omega))) .none (by first | omega | (simp; omega) | (simp at *; omega)) (by first | omega | (simp; omega) | (simp at *; omega))) (l' := s.drop (i + 1)) (by simp [List.take_of_length_le])) ?_
                refine lmv rfl rfl rfl rfl rfl ?_
                refine xlz (o_call (c198 (s.drop (i + 1)) m (by simp; omega) hm0 hrk) rfl rfl rfl ca198 rfl rfl) ?_
                refine las rfl rfl rfl rfl rfl ?_
                refine lendF ?_
                refine awp_seq ?_
                refine xsr ?_
                refine lmv rfl rfl rfl rfl rfl ?_
                refine xlz (op_binI rfl rfl rfl rfl rfl (.inl rfl) rfl) ?_
                refine lendF ?_
                refine awp_cond rfl rfl (fun hc18 => ?_) (fun hc18 => ?_)
                ·
                 have hr : ¬ ixS (s.drop (i + 1)) m ≥ 0 := by have := hc18; simp at this; omega
                 refine xsr ?_
                 refine las rfl rfl rfl rfl rfl ?_
                 refine lendF ?_
                 refine awp_ret ?_
                 refine ⟨[_], ⟨rfl, trivial⟩, ?_⟩
                 first | exact ent_i rfl (by rw [hT, if_pos hr]; omega) | exact ent_i rfl (by rw [hT, if_neg hr]) | exact ent_i rfl (ixS_found hiT hno2 hm).symm | exact ent_i rfl (ixS_none hnone).symm | exact ent_i rfl (by rw [hm0, ixS_nil]) | exact ent_i rfl (by rw [hms, ixS_self]) | exact ent_i rfl (by rw [ixS_one]) | exact ent_i rfl (ixS_long hge hms).symm | exact ent_i rfl rfl | exact ent_i rfl (ixS_none fun j hj => hno j (by omega)).symm
                ·
                 have hr : ixS (s.drop (i + 1)) m ≥ 0 := by have := hc18; simp at this; omega
                 refine awp_skip ?_
                 refine xsr ?_
                 iterate 2 refine lmv rfl rfl rfl rfl rfl ?_
                 refine xlz (o_add rfl rfl rfl rfl (by have := ixS_ge (s.drop (i + 1)) m; have h9 := ixS_le (s.drop (i + 1)) m; rw [List.length_drop] at h9; omega)) ?_
                 refine las rfl rfl rfl rfl rfl ?_
                 refine lendF ?_
                 refine awp_ret ?_
                 refine ⟨[_], ⟨rfl, trivial⟩, ?_⟩
                 first | exact ent_i rfl (by rw [hT, if_pos hr]; omega) | exact ent_i rfl (by rw [hT, if_neg hr]) | exact ent_i rfl (ixS_found hiT hno2 hm).symm | exact ent_i rfl (ixS_none hnone).symm | exact ent_i rfl (by rw [hm0, ixS_nil]) | exact ent_i rfl (by rw [hms, ixS_self]) | exact ent_i rfl (by rw [ixS_one]) | exact ent_i rfl (ixS_long hge hms).symm | exact ent_i rfl rfl | exact ent_i rfl (ixS_none fun j hj => hno j (by omega)).symm
               ·
                refine awp_skip ?_
                refine ⟨(i + 1, f + 1), ?_, ?_, ?_⟩
                ·
                 exact ⟨by show i + 1 ≤ s.length; omega, by show f + 1 ≤ i + 1; omega, hno3⟩
                ·
                 exact ent_k [] rfl rfl ((by repeat (first | exact .nil | refine xkc ?_))) (obs_cons rfl (o_eq rfl) obs_nil) rfl
                ·
                 show s.length - (i + 1) < s.length - i0; omega
        ·
         have hit : (s.length + 1 - m.length) ≤ i0 := by have := hc7; simp at this; omega
         refine awp_exit ?_
         refine xsr ?_
         refine las rfl rfl rfl rfl rfl ?_
         refine lendF ?_
         refine awp_ret ?_
         refine ⟨[_], ⟨rfl, trivial⟩, ?_⟩
         first | exact ent_i rfl (by rw [hT, if_pos hr]; omega) | exact ent_i rfl (by rw [hT, if_neg hr]) | exact ent_i rfl (ixS_found hiT hno2 hm).symm | exact ent_i rfl (ixS_none hnone).symm | exact ent_i rfl (by rw [hm0, ixS_nil]) | exact ent_i rfl (by rw [hms, ixS_self]) | exact ent_i rfl (by rw [ixS_one]) | exact ent_i rfl (ixS_long hge hms).symm | exact ent_i rfl rfl | exact ent_i rfl (ixS_none fun j hj => hno j (by omega)).symm
     ·
      iterate 3 refine lskip rfl hg5 rfl ?_
      refine xlz (o_pF rfl rfl (g10 hg5) rfl rfl) ?_
      refine las rfl rfl rfl rfl rfl ?_
      refine lendF ?_
      refine awp_condF rfl rfl rfl ?_
      refine awp_skip ?_
      refine xsr ?_
      refine lmv rfl rfl rfl rfl rfl ?_
      refine xlz (o_idxS (0) rfl rfl rfl rfl ty9 (by first | rfl | omega | (simp; done) | (simp; omega)) hc0) ?_
      refine las rfl rfl rfl rfl rfl ?_
      refine lendF ?_
      refine xsr ?_
      refine lmv rfl rfl rfl rfl rfl ?_
      refine xlz (o_idxS (1) rfl rfl rfl rfl ty9 (by first | rfl | omega | (simp; done) | (simp; omega)) hc1) ?_
      refine las rfl rfl rfl rfl rfl ?_
      refine lendF ?_
      refine xsr ?_
      refine las rfl rfl rfl rfl rfl ?_
      refine lendF ?_
      refine xsr ?_
      refine lmv rfl rfl rfl rfl rfl ?_
      refine xlz (op_lenS rfl rfl rfl ty9) ?_
      refine lmv rfl rfl rfl rfl rfl ?_
      refine xlz (o_sub rfl rfl rfl rfl (by first | omega | (simp; omega) | (simp at *; omega))) ?_
      refine xlz (o_add rfl rfl rfl rfl (by first | omega | (simp; omega) | (simp at *; omega))) ?_
      refine las rfl rfl rfl rfl rfl ?_
      refine lendF ?_
      refine xsr ?_
      refine las rfl rfl rfl rfl rfl ?_
      refine lendF ?_
      refine awp_seq ?_
      refine awp_block ?_
      refine awp_loop (fun x => ⟨143, [(8, .d (I (x.1 : Nat))), (10, .d (I (x.2 : Nat))), (0, .d (.str s)), (1, .d (.str m)), (5, .d (I m.length)), (6, .d (.int .u8 c0.toNat)), (7, .d (.int .u8 c1.toNat)), (9, .d (I ((s.length - m.length) + 1)))], [(900000, .glob n)]⟩) (fun x => s.length - x.1) (fun x => x.1 ≤ s.length ∧ x.2 ≤ x.1 ∧ ∀ j, j < x.1 → mAt s m j = false) (0, 0) ?_ ?_ ?_
      ·
       exact ent_k [] rfl rfl ((by repeat (first | exact .nil | refine xkc ?_))) (obs_cons rfl (o_eq rfl) obs_nil) rfl
      ·
       exact ⟨Nat.zero_le _, Nat.le_refl _, fun j hj => absurd hj (Nat.not_lt_zero _)⟩
      ·
       rintro ⟨i0, f⟩ ⟨hi, hf, hno⟩
       dsimp only at hi hf hno ⊢
       refine awp_seq ?_
       refine xsr ?_
       iterate 2 refine lmv rfl rfl rfl rfl rfl ?_
       refine xlz (op_binI rfl rfl rfl rfl rfl (.inl rfl) rfl) ?_
       refine lendF ?_
       refine awp_cond rfl rfl (fun hc20 => ?_) (fun hc20 => ?_)
       ·
        have hit : i0 < (s.length + 1 - m.length) := by have := hc20; simp at this; omega
        obtain ⟨x, hn⟩ : ∃ x, s[i0]? = some x := ⟨_, List.getElem?_eq_getElem (by omega)⟩
        refine awp_skip ?_
        refine awp_block ?_
        refine awp_joinX (fun i => ⟨143, [(8, .d (I (i : Nat))), (0, .d (.str s)), (1, .d (.str m)), (5, .d (I m.length)), (6, .d (.int .u8 c0.toNat)), (7, .d (.int .u8 c1.toNat)), (9, .d (I ((s.length - m.length) + 1))), (10, .d (I (f : Nat))), (57, .d (I (i0 : Nat))), (58, .d (I ((s.length - m.length) + 1)))], [(900000, .glob n)]⟩) (fun i => i0 ≤ i ∧ i < (s.length + 1 - m.length) ∧ ∀ j, j < i → mAt s m j = false) ?_ ?_
        ·
         refine xsr ?_
         iterate 2 refine lmv rfl rfl rfl rfl rfl ?_
         refine xlz (o_idxS (i0) rfl rfl rfl rfl ty9 (by first | rfl | omega | (simp; done) | (simp; omega)) hn) ?_
         refine lmv rfl rfl rfl rfl rfl ?_
         refine xlz (op_binI rfl rfl rfl rfl rfl (.inl rfl) rfl) ?_
         refine lendF ?_
         refine awp_cond rfl rfl (fun hc21 => ?_) (fun hc21 => ?_)
         ·
          have hx : ¬ x = c0 := by have := hc21; rw [neB] at this; simpa using this
          refine xsr ?_
          iterate 2 refine lmv rfl rfl rfl rfl rfl ?_
          refine xlz (o_add rfl rfl rfl rfl (by first | omega | (simp; omega) | (simp at *; omega))) ?_
          refine lmv rfl rfl rfl rfl rfl ?_
          refine xlz (o_slS rfl rfl rfl ty9 (.some rfl rfl (n := (i0 + 1)) (by first | rfl | omega | (simp; done) | (simp; omega))) (.some rfl rfl (n := (s.length + 1 - m.length)) (by first | rfl | omega | (simp; done) | (simp; omega))) (by first | omega | (simp; omega) | (simp at *; omega)) (by first | omega | (simp; omega) | (simp at *; omega))) ?_
          refine lmv rfl rfl rfl rfl rfl ?_
          refine xlz (o_call (c195 ((s.drop (i0 + 1)).take ((s.length + 1 - m.length) - (i0 + 1))) c0) rfl rfl rfl ca195 rfl rfl) ?_
          refine las rfl rfl rfl rfl rfl ?_
          refine lendF ?_
          refine awp_seq ?_
          refine xsr ?_
          refine lmv rfl rfl rfl rfl rfl ?_
          refine xlz (op_binI rfl rfl rfl rfl rfl (.inl rfl) rfl) ?_
          refine lendF ?_
          refine awp_cond rfl rfl (fun hc22 => ?_) (fun hc22 => ?_)
          ·
           have hnone : ∀ j, j < (s.length + 1 - m.length) → mAt s m j = false := fun j hj => by rcases Nat.lt_or_ge j i0 with h | h; (exact hno j h); (cases hh : mAt s m j with | false => rfl | true => (have h0 := mAt_head hc0 hh; rcases Nat.lt_or_ge i0 j with h3 | h3; (have h4 := ixB_none (by simpa using hc22) (j - (i0 + 1)); rw [List.getElem?_take, if_pos (by omega), List.getElem?_drop, show i0 + 1 + (j - (i0 + 1)) = j from by omega] at h4; exact absurd h0 h4); ((have : j = i0 := by omega); subst this; rw [hn] at h0; injection h0 with h0; exact absurd h0 hx)))
           refine xsr ?_
           refine las rfl rfl rfl rfl rfl ?_
           refine lendF ?_
           refine awp_ret ?_
           refine ⟨[_], ⟨rfl, trivial⟩, ?_⟩
           first | exact ent_i rfl (by rw [hT, if_pos hr]; omega) | exact ent_i rfl (by rw [hT, if_neg hr]) | exact ent_i rfl (ixS_found hiT hno2 hm).symm | exact ent_i rfl (ixS_none hnone).symm | exact ent_i rfl (by rw [hm0, ixS_nil]) | exact ent_i rfl (by rw [hms, ixS_self]) | exact ent_i rfl (by rw [ixS_one]) | exact ent_i rfl (ixS_long hge hms).symm | exact ent_i rfl rfl | exact ent_i rfl (ixS_none fun j hj => hno j (by omega)).symm
          ·
           obtain ⟨o, ho, ho2, ho3⟩ := ixB_some (by have := hc22; simp at this; exact this)
           have hol := rng_le ho2
           rw [List.length_take, List.length_drop] at hol
           have hno2 : ∀ j, j < i0 + o + 1 → mAt s m j = false := fun j hj => by rcases Nat.lt_or_ge j i0 with h | h; (exact hno j h); (cases hh : mAt s m j with | false => rfl | true => (have h0 := mAt_head hc0 hh; rcases Nat.lt_or_ge i0 j with h3 | h3; (have h4 := ho3 (j - (i0 + 1)) (by omega); rw [List.getElem?_take, if_pos (by omega), List.getElem?_drop, show i0 + 1 + (j - (i0 + 1)) = j from by omega] at h4; exact absurd h0 h4); ((have : j = i0 := by omega); subst this; rw [hn] at h0; injection h0 with h0; exact absurd h0 hx)))
           refine awp_skip ?_
           refine awp_region mixed ?_
           iterate 2 refine lmv rfl rfl rfl rfl rfl ?_
           refine xlz (o_add rfl rfl rfl rfl (by rw [ho]; omega)) ?_
           refine xlz (o_add rfl rfl rfl rfl (by rw [ho]; omega)) ?_
           refine las rfl rfl rfl rfl rfl ?_
           refine lendF ?_
           refine ⟨(i0 + o + 1), ?_, ?_⟩
           ·
            exact ⟨by omega, by omega, hno2⟩
           ·
            exact ent_k [] rfl rfl (.cons rfl (k_i (by rw [ho]; omega)) <| (by repeat (first | exact .nil | refine xkc ?_))) (obs_cons rfl (o_eq rfl) obs_nil) rfl
         ·
          have hx : x = c0 := by have := hc21; rw [neB] at this; simpa using this
          refine awp_skip ?_
          refine ⟨i0, ?_, ?_⟩
          ·
           exact ⟨Nat.le_refl _, hit, hno⟩
          ·
           exact ent_k [] rfl rfl (.cons rfl (k_i rfl) <| (by repeat (first | exact .nil | refine xkc ?_))) (obs_cons rfl (o_eq rfl) obs_nil) rfl
        ·
         rintro i ⟨hii, hiT, hno2⟩
         refine awp_seq ?_
         refine awp_joinX (fun _ : Unit => ⟨143, [(93, .d (.bool (mAt s m i))), (0, .d (.str s)), (1, .d (.str m)), (5, .d (I m.length)), (6, .d (.int .u8 c0.toNat)), (7, .d (.int .u8 c1.toNat)), (8, .d (I (i : Nat))), (9, .d (I ((s.length - m.length) + 1))), (10, .d (I (f : Nat))), (57, .d (I (i0 : Nat))), (58, .d (I ((s.length - m.length) + 1)))], [(900000, .glob n)]⟩) (fun _ : Unit => True) ?_ ?_
         ·
          obtain ⟨y, hn1⟩ : ∃ y, s[i + 1]? = some y := ⟨_, List.getElem?_eq_getElem (by omega)⟩
          refine awp_region mixed ?_
          iterate 2 refine lmv rfl rfl rfl rfl rfl ?_
          refine xlz (o_add rfl rfl rfl rfl (by first | omega | (simp; omega) | (simp at *; omega))) ?_
          refine xlz (o_idxS ((i + 1)) rfl rfl rfl rfl ty9 (by first | rfl | omega | (simp; done) | (simp; omega)) hn1) ?_
          refine lmv rfl rfl rfl rfl rfl ?_
          refine xlz (op_binI rfl rfl rfl rfl rfl (.inl rfl) rfl) ?_
          refine lmv rfl rfl rfl rfl rfl ?_
          refine lsplit rfl (fun hg23 => ?_) (fun hg23 => ?_)
          ·
           iterate 4 refine gmv hg23 rfl rfl rfl rfl rfl ?_
           refine lg (o_add rfl rfl rfl rfl (by first | omega | (simp; omega) | (simp at *; omega))) rfl hg23 rfl rfl ?_
           refine lg (o_eqS (o_slS rfl rfl rfl ty9 (.some rfl rfl (n := i) (by first | rfl | omega | (simp; done) | (simp; omega))) (.some rfl rfl (n := (i + m.length)) (by first | rfl | omega | (simp; done) | (simp; omega))) (by first | omega | (simp; omega) | (simp at *; omega)) (by first | omega | (simp; omega) | (simp at *; omega))) (l' := (s.drop i).take m.length) (by rw [Nat.add_sub_cancel_left])) rfl hg23 rfl rfl ?_
           refine gmv hg23 rfl rfl rfl rfl rfl ?_
           refine lg (op_binS rfl rfl rfl rfl rfl (fun h => by first | cases h | (simp; omega)) rfl) rfl hg23 rfl rfl ?_
           refine xlz (o_pT rfl rfl (g11 hg23) rfl rfl) ?_
           refine lendF ?_
           refine ⟨(), ?_, ?_⟩
           ·
            exact True.intro
           ·
            exact ent_k [] rfl rfl (.cons rfl (k_b rfl) <| (by repeat (first | exact .nil | refine xkc ?_))) (obs_cons rfl (o_eq rfl) obs_nil) rfl
          ·
           have hnm : mAt s m i = false := by cases hh : mAt s m i with | false => rfl | true => (have h2 := mAt_second hc1 hh); rw [hn1] at h2; injection h2 with h2; subst h2; have := (g10 hg23); simp at this
           iterate 8 refine lskip rfl hg23 rfl ?_
           refine xlz (o_pF rfl rfl (g10 hg23) rfl rfl) ?_
           refine lendF ?_
           refine ⟨(), ?_, ?_⟩
           ·
            exact True.intro
           ·
            exact ent_k [] rfl rfl (.cons rfl (k_b hnm.symm) <| (by repeat (first | exact .nil | refine xkc ?_))) (obs_cons rfl (o_eq rfl) obs_nil) rfl
         ·
          rintro _ _
          refine awp_cond rfl rfl (fun hc24 => ?_) (fun hc24 => ?_)
          ·
           have hm : mAt s m i = true := hc24
           refine xsr ?_
           refine lmv rfl rfl rfl rfl rfl ?_
           refine las rfl rfl rfl rfl rfl ?_
           refine lendF ?_
           refine awp_ret ?_
           refine ⟨[_], ⟨rfl, trivial⟩, ?_⟩
           first | exact ent_i rfl (by rw [hT, if_pos hr]; omega) | exact ent_i rfl (by rw [hT, if_neg hr]) | exact ent_i rfl (ixS_found hiT hno2 hm).symm | exact ent_i rfl (ixS_none hnone).symm | exact ent_i rfl (by rw [hm0, ixS_nil]) | exact ent_i rfl (by rw [hms, ixS_self]) | exact ent_i rfl (by rw [ixS_one]) | exact ent_i rfl (ixS_long hge hms).symm | exact ent_i rfl rfl | exact ent_i rfl (ixS_none fun j hj => hno j (by omega)).symm
          ·
           have hnm : mAt s m i = false := hc24
           refine awp_skip ?_
           refine awp_seq ?_
           have hno3 : ∀ j, j < i + 1 → mAt s m j = false := fun j hj => by rcases Nat.lt_or_ge j i with h | h; (exact hno2 j h); ((have : j = i := by omega); subst this; exact hnm)
           have hT := ixS_tail (l := s) (m := m) hno3 (by omega) hm0
           refine awp_region mixed ?_
           refine lmv rfl rfl rfl rfl rfl ?_
           refine xlz (o_add rfl rfl rfl rfl (by first | omega | (simp; omega) | (simp at *; omega))) ?_
           refine las rfl rfl rfl rfl rfl ?_
           refine lendF ?_
           refine xsr ?_
           refine lmv rfl rfl rfl rfl rfl ?_
           refine xlz (o_add rfl rfl rfl rfl (by first | omega | (simp; omega) | (simp at *; omega))) ?_
           refine las rfl rfl rfl rfl rfl ?_
           refine lendF ?_
           refine awp_joinX (fun _ : Unit => ⟨143, [(107, .d (.bool (decide ((m.length : Int) ≤ n) && decide (((f : Nat) : Int) + 1 > (((i : Nat) : Int) + 1 + 16) / 8)))), (0, .d (.str s)), (1, .d (.str m)), (5, .d (I m.length)), (6, .d (.int .u8 c0.toNat)), (7, .d (.int .u8 c1.toNat)), (8, .d (I ((i : Nat) + 1))), (9, .d (I ((s.length - m.length) + 1))), (10, .d (I ((f : Nat) + 1))), (57, .d (I (i0 : Nat))), (58, .d (I ((s.length - m.length) + 1))), (93, .d (.bool (mAt s m i))), (95, .d (I (i : Nat))), (96, .d (I ((i : Nat) + 1))), (97, .d (I (f : Nat))), (98, .d (I ((f : Nat) + 1)))], [(900000, .glob n)]⟩) (fun _ : Unit => True) ?_ ?_
           ·
            refine awp_region mixed ?_
            refine lmv rfl rfl rfl rfl rfl ?_
            refine xlz (op_gload (X := 900000) rfl rfl ty3 rfl) ?_
            refine xlz (op_binI rfl rfl rfl rfl rfl (.inl rfl) rfl) ?_
            refine lmv rfl rfl rfl rfl rfl ?_
            refine lsplit rfl (fun hg25 => ?_) (fun hg25 => ?_)
            ·
             have hml : (m.length : Int) ≤ n := by have := (g11 hg25); simpa using this
             iterate 2 refine gmv hg25 rfl rfl rfl rfl rfl ?_
             refine lg (o_call (c197 (((i : Nat) : Int) + 1) (by omega) (by omega)) rfl rfl rfl ca197 rfl rfl) rfl hg25 rfl rfl ?_
             refine lg (op_binI rfl rfl rfl rfl rfl (.inl rfl) rfl) rfl hg25 rfl rfl ?_
             refine xlz (o_pT rfl rfl (g11 hg25) rfl rfl) ?_
             refine lendF ?_
             refine ⟨(), ?_, ?_⟩
             ·
              exact True.intro
             ·
              exact ent_k [] rfl rfl (.cons rfl (k_b (by first | (simp_all; done) | (simp_all <;> (intros; omega)))) <| (by repeat (first | exact .nil | refine xkc ?_))) (obs_cons rfl (o_eq rfl) obs_nil) rfl
            ·
             iterate 4 refine lskip rfl hg25 rfl ?_
             refine xlz (o_pF rfl rfl (g10 hg25) rfl rfl) ?_
             refine lendF ?_
             refine ⟨(), ?_, ?_⟩
             ·
              exact True.intro
             ·
              exact ent_k [] rfl rfl (.cons rfl (k_b (by first | (simp_all; done) | (simp_all <;> (intros; omega)))) <| (by repeat (first | exact .nil | refine xkc ?_))) (obs_cons rfl (o_eq rfl) obs_nil) rfl
           ·
            rintro _ _
            refine awp_cond rfl rfl (fun hc26 => ?_) (fun hc26 => ?_)
            ·
             have hml : (m.length : Int) ≤ n := by have := hc26; simp at this; omega
             refine xsr ?_
             iterate 2 refine lmv rfl rfl rfl rfl rfl ?_
             refine xlz (o_eqS (o_slS rfl rfl rfl ty9 (.some rfl rfl (n := (i + 1)) (by first | rfl | omega | (simp; done) | (simp; omega))) .none (by first | omega | (simp; omega) | (simp at *; omega)) (by first | omega | (simp; omega) | (simp at *; omega))) (l' := s.drop (i + 1)) (by simp [List.take_of_length_le])) ?_
             refine lmv rfl rfl rfl rfl rfl ?_
             refine xlz (op_ixS (X := 900000) rfl ext196 gix rfl rfl rfl h2 hml (by simp; omega) rfl rfl) ?_
             refine las rfl rfl rfl rfl rfl ?_
             refine lendF ?_
             refine awp_seq ?_
             refine xsr ?_
             refine lmv rfl rfl rfl rfl rfl ?_
             refine xlz (op_binI rfl rfl rfl rfl rfl (.inl rfl) rfl) ?_
             refine lendF ?_
             refine awp_cond rfl rfl (fun hc27 => ?_) (fun hc27 => ?_)
             ·
              have hr : ixS (s.drop (i + 1)) m ≥ 0 := by simpa using hc27
              refine xsr ?_
              iterate 2 refine lmv rfl rfl rfl rfl rfl ?_
              refine xlz (o_add rfl rfl rfl rfl (by have := ixS_ge (s.drop (i + 1)) m; have h9 := ixS_le (s.drop (i + 1)) m; rw [List.length_drop] at h9; omega)) ?_
              refine las rfl rfl rfl rfl rfl ?_
              refine lendF ?_
              refine awp_ret ?_
              refine ⟨[_], ⟨rfl, trivial⟩, ?_⟩
              first | exact ent_i rfl (by rw [hT, if_pos hr]; omega) | exact ent_i rfl (by rw [hT, if_neg hr]) | exact ent_i rfl (ixS_found hiT hno2 hm).symm | exact ent_i rfl (ixS_none hnone).symm | exact ent_i rfl (by rw [hm0, ixS_nil]) | exact ent_i rfl (by rw [hms, ixS_self]) | exact ent_i rfl (by rw [ixS_one]) | exact ent_i rfl (ixS_long hge hms).symm | exact ent_i rfl rfl | exact ent_i rfl (ixS_none fun j hj => hno j (by omega)).symm
             ·
              have hr : ¬ ixS (s.drop (i + 1)) m ≥ 0 := by have := hc27; simp at this; omega
              refine awp_skip ?_
              refine xsr ?_
              refine las rfl rfl rfl rfl rfl ?_
              refine lendF ?_
              refine awp_ret ?_
              refine ⟨[_], ⟨rfl, trivial⟩, ?_⟩
              first | exact ent_i rfl (by rw [hT, if_pos hr]; omega) | exact ent_i rfl (by rw [hT, if_neg hr]) | exact ent_i rfl (ixS_found hiT hno2 hm).symm | exact ent_i rfl (ixS_none hnone).symm | exact ent_i rfl (by rw [hm0, ixS_nil]) | exact ent_i rfl (by rw [hms, ixS_self]) | exact ent_i rfl (by rw [ixS_one]) | exact ent_i rfl (ixS_long hge hms).symm | exact ent_i rfl rfl | exact ent_i rfl (ixS_none fun j hj => hno j (by omega)).symm
            ·
             refine awp_joinX (fun _ : Unit => ⟨143, [(132, .d (.bool (decide ((m.length : Int) > n) && decide (((f : Nat) : Int) + 1 ≥ 4 + (((i + 1) / 16 : Nat) : Int)) && decide (((i : Nat) : Int) + 1 < (s.length : Int) - (m.length : Int) + 1)))), (0, .d (.str s)), (1, .d (.str m)), (5, .d (I m.length)), (6, .d (.int .u8 c0.toNat)), (7, .d (.int .u8 c1.toNat)), (8, .d (I ((i : Nat) + 1))), (9, .d (I ((s.length - m.length) + 1))), (10, .d (I ((f : Nat) + 1))), (57, .d (I (i0 : Nat))), (58, .d (I ((s.length - m.length) + 1))), (93, .d (.bool (mAt s m i))), (95, .d (I (i : Nat))), (96, .d (I ((i : Nat) + 1))), (97, .d (I (f : Nat))), (98, .d (I ((f : Nat) + 1))), (107, .d (.bool (decide ((m.length : Int) ≤ n) && decide (((f : Nat) : Int) + 1 > (((i : Nat) : Int) + 1 + 16) / 8))))], [(900000, .glob n)]⟩) (fun _ : Unit => True) ?_ ?_
             ·
              refine awp_region mixed ?_
              refine lmv rfl rfl rfl rfl rfl ?_
              refine xlz (op_gload (X := 900000) rfl rfl ty3 rfl) ?_
              refine xlz (op_binI rfl rfl rfl rfl rfl (.inl rfl) rfl) ?_
              refine lmv rfl rfl rfl rfl rfl ?_
              refine lsplit rfl (fun hg28 => ?_) (fun hg28 => ?_)
              ·
               iterate 2 refine gmv hg28 rfl rfl rfl rfl rfl ?_
               refine lg (o_eqI (op_binI rfl rfl rfl rfl rfl (.inr (.inr rfl)) rfl) (m' := (((i + 1) / 16 : Nat) : Int)) (shr4 (i + 1))) rfl hg28 rfl rfl ?_
               refine lg (o_add rfl rfl rfl rfl (by first | omega | (simp; omega) | (simp at *; omega))) rfl hg28 rfl rfl ?_
               refine lg (op_binI rfl rfl rfl rfl rfl (.inl rfl) rfl) rfl hg28 rfl rfl ?_
               refine xlz (o_pT rfl rfl (g11 hg28) rfl rfl) ?_
               refine lmv rfl rfl rfl rfl rfl ?_
               refine lsplit rfl (fun hg29 => ?_) (fun hg29 => ?_)
               ·
                iterate 2 refine gmv hg29 rfl rfl rfl rfl rfl ?_
                refine lg (op_binI rfl rfl rfl rfl rfl (.inl rfl) rfl) rfl hg29 rfl rfl ?_
                refine xlz (o_pT rfl rfl (g11 hg29) rfl rfl) ?_
                refine lendF ?_
                refine ⟨(), ?_, ?_⟩
                ·
                 exact True.intro
                ·
                 exact ent_k [] rfl rfl (.cons rfl (k_b (by first | (simp_all; done) | (simp_all <;> (intros; omega)))) <| (by repeat (first | exact .nil | refine xkc ?_))) (obs_cons rfl (o_eq rfl) obs_nil) rfl
               ·
                iterate 3 refine lskip rfl hg29 rfl ?_
                refine xlz (o_pF rfl rfl (g10 hg29) rfl rfl) ?_
                refine lendF ?_
                refine ⟨(), ?_, ?_⟩
                ·
                 exact True.intro
                ·
                 exact ent_k [] rfl rfl (.cons rfl (k_b (by first | (simp_all; done) | (simp_all <;> (intros; omega)))) <| (by repeat (first | exact .nil | refine xkc ?_))) (obs_cons rfl (o_eq rfl) obs_nil) rfl
              ·
               iterate 5 refine lskip rfl hg28 rfl ?_
               refine xlz (o_pF rfl rfl (g10 hg28) rfl rfl) ?_
               refine lmv rfl rfl rfl rfl rfl ?_
               iterate 3 refine lskip rfl rfl rfl ?_
               refine xlz (o_pF rfl rfl rfl rfl rfl) ?_
               refine lendF ?_
               refine ⟨(), ?_, ?_⟩
               ·
                exact True.intro
               ·
                exact ent_k [] rfl rfl (.cons rfl (k_b (by first | (simp_all; done) | (simp_all <;> (intros; omega)))) <| (by repeat (first | exact .nil | refine xkc ?_))) (obs_cons rfl (o_eq rfl) obs_nil) rfl
             ·
              rintro _ _
              refine awp_cond rfl rfl (fun hc30 => ?_) (fun hc30 => ?_)
              ·
               have hrk : m.length ≤ (s.drop (i + 1)).length := by have := hc30; simp at this; rw [List.length_drop]; omega
               refine xsr ?_
               iterate 2 refine lmv rfl rfl rfl rfl rfl ?_
               refine xlz (o_eqS (o_slS rfl rfl rfl ty9 (.some rfl rfl (n := (i + 1)) (by first | rfl | omega | (simp; done) | (simp; omega))) .none (by first | omega | (simp; omega) | (simp at *; omega)) (by first | omega | (simp; omega) | (simp at *; omega))) (l' := s.drop (i + 1)) (by simp [List.take_of_length_le])) ?_
               refine lmv rfl rfl rfl rfl rfl ?_
               refine xlz (o_call (c198 (s.drop (i + 1)) m (by simp; omega) hm0 hrk) rfl rfl rfl ca198 rfl rfl) ?_
               refine las rfl rfl rfl rfl rfl ?_
               refine lendF ?_
               refine awp_seq ?_
               refine xsr ?_
               refine lmv rfl rfl rfl rfl rfl ?_
               refine xlz (op_binI rfl rfl rfl rfl rfl (.inl rfl) rfl) ?_
               refine lendF ?_
               refine awp_cond rfl rfl (fun hc31 => ?_) (fun hc31 => ?_)
               ·
                have hr : ¬ ixS (s.drop (i + 1)) m ≥ 0 := by have := hc31; simp at this; omega
                refine xsr ?_
                refine las rfl rfl rfl rfl rfl ?_
                refine lendF ?_
                refine awp_ret ?_
                refine ⟨[_], ⟨rfl, trivial⟩, ?_⟩
                first | exact ent_i rfl (by rw [hT, if_pos hr]; omega) | exact ent_i rfl (by rw [hT, if_neg hr]) | exact ent_i rfl (ixS_found hiT hno2 hm).symm | exact ent_i rfl (ixS_none hnone).symm | exact ent_i rfl (by rw [hm0, ixS_nil]) | exact ent_i rfl (by rw [hms, ixS_self]) | exact ent_i rfl (by rw [ixS_one]) | exact ent_i rfl (ixS_long hge hms).symm | exact ent_i rfl rfl | exact ent_i rfl (ixS_none fun j hj => hno j (by omega)).symm
               ·
                have hr : ixS (s.drop (i + 1)) m ≥ 0 := by have := hc31; simp at this; omega
                refine awp_skip ?_
                refine xsr ?_
                iterate 2 refine lmv rfl rfl rfl rfl rfl ?_
                refine xlz (o_add rfl rfl rfl rfl (by have := ixS_ge (s.drop (i + 1)) m; have h9 := ixS_le (s.drop (i + 1)) m; rw [List.length_drop] at h9; omega)) ?_
                refine las rfl rfl rfl rfl rfl ?_
                refine lendF ?_
                refine awp_ret ?_
                refine ⟨[_], ⟨rfl, trivial⟩, ?_⟩
                first | exact ent_i rfl (by rw [hT, if_pos hr]; omega) | exact ent_i rfl (by rw [hT, if_neg hr]) | exact ent_i rfl (ixS_found hiT hno2 hm).symm | exact ent_i rfl (ixS_none hnone).symm | exact ent_i rfl (by rw [hm0, ixS_nil]) | exact ent_i rfl (by rw [hms, ixS_self]) | exact ent_i rfl (by rw [ixS_one]) | exact ent_i rfl (ixS_long hge hms).symm | exact ent_i rfl rfl | exact ent_i rfl (ixS_none fun j hj => hno j (by omega)).symm
              ·
               refine awp_skip ?_
               refine ⟨(i + 1, f + 1), ?_, ?_, ?_⟩
               ·
                exact ⟨by show i + 1 ≤ s.length; omega, by show f + 1 ≤ i + 1; omega, hno3⟩
               ·
                exact ent_k [] rfl rfl ((by repeat (first | exact .nil | refine xkc ?_))) (obs_cons rfl (o_eq rfl) obs_nil) rfl
               ·
                show s.length - (i + 1) < s.length - i0; omega
       ·
        have hit : (s.length + 1 - m.length) ≤ i0 := by have := hc20; simp at this; omega
        refine awp_exit ?_
        refine xsr ?_
        refine las rfl rfl rfl rfl rfl ?_
        refine lendF ?_
        refine awp_ret ?_
        refine ⟨[_], ⟨rfl, trivial⟩, ?_⟩
        first | exact ent_i rfl (by rw [hT, if_pos hr]; omega) | exact ent_i rfl (by rw [hT, if_neg hr]) | exact ent_i rfl (ixS_found hiT hno2 hm).symm | exact ent_i rfl (ixS_none hnone).symm | exact ent_i rfl (by rw [hm0, ixS_nil]) | exact ent_i rfl (by rw [hms, ixS_self]) | exact ent_i rfl (by rw [ixS_one]) | exact ent_i rfl (ixS_long hge hms).symm | exact ent_i rfl rfl | exact ent_i rfl (ixS_none fun j hj => hno j (by omega)).symm
 ·
  have hm0 : m = [] := by have := (g00 hg1); simp at this; exact this
  iterate 3 refine lskip rfl hg1 rfl ?_
  refine xlz (o_pT rfl rfl (g00 hg1) rfl rfl) ?_
  refine las rfl rfl rfl rfl rfl ?_
  refine lendF ?_
  refine awp_condT rfl rfl rfl ?_
  refine xsr ?_
  refine las rfl rfl rfl rfl rfl ?_
  refine lendF ?_
  refine awp_ret ?_
  refine ⟨[_], ⟨rfl, trivial⟩, ?_⟩
  first | exact ent_i rfl (by rw [hT, if_pos hr]; omega) | exact ent_i rfl (by rw [hT, if_neg hr]) | exact ent_i rfl (ixS_found hiT hno2 hm).symm | exact ent_i rfl (ixS_none hnone).symm | exact ent_i rfl (by rw [hm0, ixS_nil]) | exact ent_i rfl (by rw [hms, ixS_self]) | exact ent_i rfl (by rw [ixS_one]) | exact ent_i rfl (ixS_long hge hms).symm | exact ent_i rfl rfl | exact ent_i rfl (ixS_none fun j hj => hno j (by omega)).symm

set_option maxRecDepth 10000 in
theorem c174 (s m : Bytes) (hs : s.length ≤ 1000000) : Fn PR 174 [.d (.str s), .d (.str m)] [] [.d (I (ixS s m))] [] := by
 refine fn_of_awp Tryz.func174 rfl (N := 8) rfl ?_
 refine xsr ?_
 refine las rfl rfl rfl rfl rfl ?_
 refine lendF ?_
 refine xsr ?_
 iterate 2 refine lmv rfl rfl rfl rfl rfl ?_
 refine xlz (o_call (c188 s m hs) rfl rfl rfl ca188 rfl rfl) ?_
 refine las rfl rfl rfl rfl rfl ?_
 refine lendF ?_
 refine awp_ret ?_
 refine ⟨[_], ⟨rfl, trivial⟩, ?_⟩
 exact ent_d1 rfl (by first | rfl | simp_all)

set_option maxRecDepth 10000 in
theorem c177 (s m : Bytes) (hs : s.length ≤ 1000000) : Fn PR 177 [.d (.str s), .d (.str m)] [] [.d (.bool (decide (ixS s m ≥ 0)))] [] := by
 refine fn_of_awp Tryz.func177 rfl (N := 9) rfl ?_
 refine xsr ?_
 refine las rfl rfl rfl rfl rfl ?_
 refine lendF ?_
 refine xsr ?_
 iterate 2 refine lmv rfl rfl rfl rfl rfl ?_
 refine xlz (o_call (c174 s m hs) rfl rfl rfl ca174 rfl rfl) ?_
 refine xlz (op_binI rfl rfl rfl rfl rfl (.inl rfl) rfl) ?_
 refine las rfl rfl rfl rfl rfl ?_
 refine lendF ?_
 refine awp_ret ?_
 refine ⟨[_], ⟨rfl, trivial⟩, ?_⟩
 exact ent_d1 rfl (by first | rfl | simp_all)

end Go.Pm

namespace Go.Pm
open Go.Proofs

set_option maxRecDepth 10000 in
theorem c152 (s : Bytes) (hs : s.length ≤ 100000) : Fn PR 152 [.d (.str s)] [] [.d (.bool (decide (ixS KW ([32] ++ s ++ [32]) ≥ 0)))] [] := by
 refine fn_of_awp Tryz.func152 rfl (N := 7) rfl ?_
 refine xsr ?_
 refine las rfl rfl rfl rfl rfl ?_
 refine lendF ?_
 refine xsr ?_
 refine lmv rfl rfl rfl rfl rfl ?_
 refine xlz (op_binS rfl rfl rfl rfl rfl (fun _ => by simp; omega) rfl) ?_
 refine xlz (op_binS rfl rfl rfl rfl rfl (fun _ => by simp; omega) rfl) ?_
 refine xlz (o_call (c177 KW ([32] ++ s ++ [32]) (by decide)) rfl rfl rfl ca177 rfl rfl) ?_
 refine las rfl rfl rfl rfl rfl ?_
 refine lendF ?_
 refine awp_ret ?_
 refine ⟨[_], ⟨rfl, trivial⟩, ?_⟩
 exact ent_d1 rfl (by first | rfl | simp_all)

set_option maxRecDepth 10000 in
theorem c124 (s : Bytes) (hs : s.length ≤ 100000) : Fn PR 124 [.d (.str s)] [] [.d (.bool (isName s))] [] := by
 refine fn_of_awp Tryz.func124 rfl (N := 24) rfl ?_
 refine xsr ?_
 refine las rfl rfl rfl rfl rfl ?_
 refine lendF ?_
 refine xsr ?_
 refine lmv rfl rfl rfl rfl rfl ?_
 refine xlz (op_binS rfl rfl rfl rfl rfl (fun h => by first | cases h | (simp; omega)) rfl) ?_
 refine lmv rfl rfl rfl rfl rfl ?_
 refine lsplit rfl (fun hg1 => ?_) (fun hg1 => ?_)
 ·
  refine gmv hg1 rfl rfl rfl rfl rfl ?_
  refine lg (op_lenS rfl rfl rfl ty9) rfl hg1 rfl rfl ?_
  refine lg (op_binI rfl rfl rfl rfl rfl (.inl rfl) rfl) rfl hg1 rfl rfl ?_
  refine xlz (o_pT rfl rfl (g11 hg1) rfl rfl) ?_
  refine lmv rfl rfl rfl rfl rfl ?_
  refine lsplit rfl (fun hg2 => ?_) (fun hg2 => ?_)
  ·
   refine gmv hg2 rfl rfl rfl rfl rfl ?_
   have h0 : 0 < s.length := by have := hg1; simp at this; exact List.length_pos_iff.2 this
   obtain ⟨c, hc0⟩ : ∃ c, s[0]? = some c := ⟨s[0], List.getElem?_eq_getElem h0⟩
   have hhd : s.head? = some c := by rw [List.head?_eq_getElem?]; exact hc0
   refine lg (o_idxS (0) rfl rfl rfl rfl ty9 (by first | rfl | omega | (simp; done) | (simp; omega)) hc0) rfl hg2 rfl rfl ?_
   refine lg (o_call (c127 c) rfl rfl rfl ca127 rfl rfl) rfl hg2 rfl rfl ?_
   refine xlz (o_pT rfl rfl (g11 hg2) rfl rfl) ?_
   refine lmv rfl rfl rfl rfl rfl ?_
   refine lsplit rfl (fun hg3 => ?_) (fun hg3 => ?_)
   ·
    refine gmv hg3 rfl rfl rfl rfl rfl ?_
    refine lg (o_call (c125 151 wordB ca151 c151 s (by omega)) rfl rfl rfl ca125 rfl rfl) rfl hg3 rfl rfl ?_
    refine xlz (o_pT rfl rfl (g11 hg3) rfl rfl) ?_
    refine lmv rfl rfl rfl rfl rfl ?_
    refine lsplit rfl (fun hg4 => ?_) (fun hg4 => ?_)
    ·
     have hkw := kw_iff (s := s) (g11 hg4)
     refine gmv hg4 rfl rfl rfl rfl rfl ?_
     refine lg (o_call (c152 s hs) rfl rfl rfl ca152 rfl rfl) rfl hg4 rfl rfl ?_
     refine lg (op_not rfl rfl rfl) rfl hg4 rfl rfl ?_
     refine xlz (o_pT rfl rfl (g11 hg4) rfl rfl) ?_
     refine las rfl rfl rfl rfl rfl ?_
     refine lendF ?_
     refine awp_ret ?_
     refine ⟨[_], ⟨rfl, trivial⟩, ?_⟩
     exact ent_b rfl (by simp_all [isName] <;> first | done | omega | (intros; omega) | grind)
    ·
     iterate 3 refine lskip rfl hg4 rfl ?_
     refine xlz (o_pF rfl rfl (g10 hg4) rfl rfl) ?_
     refine las rfl rfl rfl rfl rfl ?_
     refine lendF ?_
     refine awp_ret ?_
     refine ⟨[_], ⟨rfl, trivial⟩, ?_⟩
     exact ent_b rfl (by simp_all [isName] <;> first | done | omega | (intros; omega) | grind)
   ·
    iterate 2 refine lskip rfl hg3 rfl ?_
    refine xlz (o_pF rfl rfl (g10 hg3) rfl rfl) ?_
    refine lmv rfl rfl rfl rfl rfl ?_
    iterate 3 refine lskip rfl rfl rfl ?_
    refine xlz (o_pF rfl rfl rfl rfl rfl) ?_
    refine las rfl rfl rfl rfl rfl ?_
    refine lendF ?_
    refine awp_ret ?_
    refine ⟨[_], ⟨rfl, trivial⟩, ?_⟩
    exact ent_b rfl (by simp_all [isName] <;> first | done | omega | (intros; omega) | grind)
  ·
   iterate 3 refine lskip rfl hg2 rfl ?_
   refine xlz (o_pF rfl rfl (g10 hg2) rfl rfl) ?_
   refine lmv rfl rfl rfl rfl rfl ?_
   iterate 2 refine lskip rfl rfl rfl ?_
   refine xlz (o_pF rfl rfl rfl rfl rfl) ?_
   refine lmv rfl rfl rfl rfl rfl ?_
   iterate 3 refine lskip rfl rfl rfl ?_
   refine xlz (o_pF rfl rfl rfl rfl rfl) ?_
   refine las rfl rfl rfl rfl rfl ?_
   refine lendF ?_
   refine awp_ret ?_
   refine ⟨[_], ⟨rfl, trivial⟩, ?_⟩
   exact ent_b rfl (by simp_all [isName] <;> first | done | omega | (intros; omega) | grind)
 ·
  iterate 3 refine lskip rfl hg1 rfl ?_
  refine xlz (o_pF rfl rfl (g10 hg1) rfl rfl) ?_
  refine lmv rfl rfl rfl rfl rfl ?_
  iterate 3 refine lskip rfl rfl rfl ?_
  refine xlz (o_pF rfl rfl rfl rfl rfl) ?_
  refine lmv rfl rfl rfl rfl rfl ?_
  iterate 2 refine lskip rfl rfl rfl ?_
  refine xlz (o_pF rfl rfl rfl rfl rfl) ?_
  refine lmv rfl rfl rfl rfl rfl ?_
  iterate 3 refine lskip rfl rfl rfl ?_
  refine xlz (o_pF rfl rfl rfl rfl rfl) ?_
  refine las rfl rfl rfl rfl rfl ?_
  refine lendF ?_
  refine awp_ret ?_
  refine ⟨[_], ⟨rfl, trivial⟩, ?_⟩
  exact ent_b rfl (by simp_all [isName] <;> first | done | omega | (intros; omega) | grind)

set_option maxRecDepth 10000 in
theorem c189 (s m : Bytes) (hs : s.length ≤ 100000) (hm : m.length ≤ 100000) : Fn PR 189 [.d (.str s), .d (.str m)] [] [.d (.bool (s.take m.length == m && decide (m.length ≤ s.length)))] [] := by
 refine fn_of_awp Tryz.func189 rfl (N := 18) rfl ?_
 refine xsr ?_
 refine las rfl rfl rfl rfl rfl ?_
 refine lendF ?_
 refine xsr ?_
 refine lmv rfl rfl rfl rfl rfl ?_
 refine xlz (op_lenS rfl rfl rfl ty9) ?_
 refine lmv rfl rfl rfl rfl rfl ?_
 refine xlz (op_lenS rfl rfl rfl ty9) ?_
 refine xlz (op_binI rfl rfl rfl rfl rfl (.inl rfl) rfl) ?_
 refine lmv rfl rfl rfl rfl rfl ?_
 refine lsplit rfl (fun hg1 => ?_) (fun hg1 => ?_)
 ·
  iterate 2 refine gmv hg1 rfl rfl rfl rfl rfl ?_
  refine lg (op_lenS rfl rfl rfl ty9) rfl hg1 rfl rfl ?_
  refine lg (o_slS rfl rfl rfl ty9 .none (.some rfl rfl (n := m.length) (by first | rfl | omega | (simp; done) | (simp; omega))) (Nat.zero_le _) (by have := hg1; simp at this; omega)) rfl hg1 rfl rfl ?_
  refine gmv hg1 rfl rfl rfl rfl rfl ?_
  refine lg (op_binS rfl rfl rfl rfl rfl (fun h => by first | cases h | (simp; omega)) rfl) rfl hg1 rfl rfl ?_
  refine xlz (o_pT rfl rfl (g11 hg1) rfl rfl) ?_
  refine las rfl rfl rfl rfl rfl ?_
  refine lendF ?_
  refine awp_ret ?_
  refine ⟨[_], ⟨rfl, trivial⟩, ?_⟩
  exact ent_b rfl (by simp_all)
 ·
  iterate 6 refine lskip rfl hg1 rfl ?_
  refine xlz (o_pF rfl rfl (g10 hg1) rfl rfl) ?_
  refine las rfl rfl rfl rfl rfl ?_
  refine lendF ?_
  refine awp_ret ?_
  refine ⟨[_], ⟨rfl, trivial⟩, ?_⟩
  exact ent_b rfl (by simp_all)

set_option maxRecDepth 10000 in
theorem c175 (s m : Bytes) (hs : s.length ≤ 100000) (hm : m.length ≤ 100000) : Fn PR 175 [.d (.str s), .d (.str m)] [] [.d (.str (cutP s m).1), .d (.bool (cutP s m).2)] [] := by
 refine fn_of_awp Tryz.func175 rfl (N := 15) rfl ?_
 refine xsr ?_
 iterate 2 refine las rfl rfl rfl rfl rfl ?_
 refine lendF ?_
 refine awp_seq ?_
 refine xsr ?_
 iterate 2 refine lmv rfl rfl rfl rfl rfl ?_
 refine xlz (o_call (c189 s m hs hm) rfl rfl rfl ca189 rfl rfl) ?_
 refine xlz (op_not rfl rfl rfl) ?_
 refine lendF ?_
 refine awp_cond rfl rfl (fun hc1 => ?_) (fun hc1 => ?_)
 ·
  have hb : (s.take m.length == m && decide (m.length ≤ s.length)) = false := by (have h := hc1); rw [Bool.not_eq_true'] at h; exact h
  have hc : cutP s m = (s, false) := by simp only [cutP, hb]; rfl
  refine xsr ?_
  refine lmv rfl rfl rfl rfl rfl ?_
  iterate 2 refine las rfl rfl rfl rfl rfl ?_
  refine lendF ?_
  refine awp_ret ?_
  refine ⟨[_, _], ⟨rfl, rfl, trivial⟩, ?_⟩
  rw [hc]
  exact ent_d2 rfl (by simp [List.take_of_length_le]) rfl rfl
 ·
  have hb : (s.take m.length == m && decide (m.length ≤ s.length)) = true := by (have h := hc1); rw [Bool.not_eq_false'] at h; exact h
  have hc : cutP s m = (s.drop m.length, true) := by simp only [cutP, hb]; rfl
  have hl : m.length ≤ s.length := by have := hc1; simp at this; exact this.2
  refine awp_skip ?_
  refine xsr ?_
  iterate 2 refine lmv rfl rfl rfl rfl rfl ?_
  refine xlz (op_lenS rfl rfl rfl ty9) ?_
  refine xlz (o_slS rfl rfl rfl ty9 (.some rfl rfl (n := m.length) (by first | rfl | omega | (simp; done) | (simp; omega))) .none (by first | omega | (simp; omega) | (simp at *; omega)) (by first | omega | (simp; omega) | (simp at *; omega))) ?_
  iterate 2 refine las rfl rfl rfl rfl rfl ?_
  refine lendF ?_
  refine awp_ret ?_
  refine ⟨[_, _], ⟨rfl, rfl, trivial⟩, ?_⟩
  rw [hc]
  exact ent_d2 rfl (by simp [List.take_of_length_le]) rfl rfl

set_option maxRecDepth 10000 in
theorem c150 (s m : Bytes) (hs : s.length ≤ 100000) (hm : m.length ≤ 100000) : Fn PR 150 [.d (.str s), .d (.str m)] [] [.d (.str (cutP s m).1), .d (.bool (cutP s m).2)] [] := by
 refine fn_of_awp Tryz.func150 rfl (N := 11) rfl ?_
 refine xsr ?_
 iterate 2 refine las rfl rfl rfl rfl rfl ?_
 refine lendF ?_
 refine xsr ?_
 iterate 2 refine lmv rfl rfl rfl rfl rfl ?_
 refine xlz (o_call (c175 s m hs hm) rfl rfl rfl ca175 rfl rfl) ?_
 refine xlz (op_extract rfl rfl rfl rfl) ?_
 refine xlz (op_extract rfl rfl rfl rfl) ?_
 iterate 2 refine las rfl rfl rfl rfl rfl ?_
 refine lendF ?_
 refine awp_ret ?_
 refine ⟨[_, _], ⟨rfl, rfl, trivial⟩, ?_⟩
 exact ent_d2 rfl (by first | rfl | simp_all) rfl (by first | rfl | simp_all)

set_option maxRecDepth 10000 in
theorem c173 (s : Bytes) (c : UInt8) : Fn PR 173 [.d (.str s), .d (.str [c])] [] [.d (I ((s.count c : Nat) : Int))] [] := by
 refine fn_of_awp Tryz.func173 rfl (N := 34) rfl ?_
 refine xsr ?_
 refine las rfl rfl rfl rfl rfl ?_
 refine lendF ?_
 refine awp_seq ?_
 refine xsr ?_
 refine lmv rfl rfl rfl rfl rfl ?_
 refine xlz (op_lenS rfl rfl rfl ty9) ?_
 refine xlz (op_binI rfl rfl rfl rfl rfl (.inl rfl) rfl) ?_
 refine lendF ?_
 refine awp_condF rfl rfl rfl ?_
 refine awp_skip ?_
 refine awp_seq ?_
 refine xsr ?_
 refine lmv rfl rfl rfl rfl rfl ?_
 refine xlz (op_lenS rfl rfl rfl ty9) ?_
 refine xlz (op_binI rfl rfl rfl rfl rfl (.inl rfl) rfl) ?_
 refine lendF ?_
 refine awp_condT rfl rfl rfl ?_
 refine xsr ?_
 iterate 2 refine lmv rfl rfl rfl rfl rfl ?_
 refine xlz (o_idxS (0) rfl rfl rfl rfl ty9 (by first | rfl | omega | (simp; done) | (simp; omega)) (show [c][0]? = some c from rfl)) ?_
 refine xlz (op_countS rfl ext187 rfl rfl rfl rfl rfl) ?_
 refine las rfl rfl rfl rfl rfl ?_
 refine lendF ?_
 refine awp_ret ?_
 refine ⟨[_], ⟨rfl, trivial⟩, ?_⟩
 exact ent_d1 rfl (by first | rfl | simp_all)

set_option maxRecDepth 10000 in
theorem c129 (s : Bytes) (c : UInt8) (hs : s.length ≤ 100000) : Fn PR 129 [.d (.str s), .d (.int .u8 c.toNat)] [] [.d (I (lastIx s c s.length))] [] := by
 refine fn_of_awp Tryz.func129 rfl (N := 19) rfl ?_
 refine xsr ?_
 refine las rfl rfl rfl rfl rfl ?_
 refine lendF ?_
 refine awp_seq ?_
 refine xsr ?_
 refine lmv rfl rfl rfl rfl rfl ?_
 refine xlz (op_lenS rfl rfl rfl ty9) ?_
 refine xlz (o_sub rfl rfl rfl rfl (by first | omega | (simp; omega) | (simp at *; omega))) ?_
 refine las rfl rfl rfl rfl rfl ?_
 refine lendF ?_
 refine awp_block ?_
 refine awp_loop (fun k => ⟨19, [(5, .d (I ((k : Nat) - 1 : Int))), (0, .d (.str s)), (1, .d (.int .u8 c.toNat))], []⟩) (fun k => k) (fun k => k ≤ s.length ∧ lastIx s c k = lastIx s c s.length) s.length ?_ ?_ ?_
 ·
  exact ent_k [] rfl rfl ((by repeat (first | exact .nil | refine xkc ?_))) obs_nil rfl
 ·
  exact ⟨Nat.le_refl _, rfl⟩
 ·
  rintro k ⟨hk, hI⟩
  refine awp_seq ?_
  refine xsr ?_
  refine lmv rfl rfl rfl rfl rfl ?_
  refine xlz (op_binI rfl rfl rfl rfl rfl (.inl rfl) rfl) ?_
  refine lendF ?_
  refine awp_cond rfl rfl (fun hc1 => ?_) (fun hc1 => ?_)
  ·
   have hk0 : 0 < k := by have := hc1; simp at this; omega
   obtain ⟨x, hn⟩ : ∃ x, s[k - 1]? = some x := ⟨_, List.getElem?_eq_getElem (by omega)⟩
   refine awp_skip ?_
   refine awp_seq ?_
   refine awp_block ?_
   refine xsr ?_
   iterate 2 refine lmv rfl rfl rfl rfl rfl ?_
   refine xlz (o_idxS ((k - 1)) rfl rfl rfl rfl ty9 (by first | rfl | omega | (simp; done) | (simp; omega)) hn) ?_
   refine lmv rfl rfl rfl rfl rfl ?_
   refine xlz (op_binI rfl rfl rfl rfl rfl (.inl rfl) rfl) ?_
   refine lendF ?_
   refine awp_cond rfl rfl (fun hc2 => ?_) (fun hc2 => ?_)
   ·
    have hx : x = c := by have := hc2; rw [eqB] at this; simpa using this
    refine xsr ?_
    refine lmv rfl rfl rfl rfl rfl ?_
    refine las rfl rfl rfl rfl rfl ?_
    refine lendF ?_
    refine awp_ret ?_
    refine ⟨[_], ⟨rfl, trivial⟩, ?_⟩
    first | exact ent_i rfl (by rw [← hI, show k = k - 1 + 1 from by omega, lastIx, if_pos (by rw [hn, hx])]; omega) | exact ent_i rfl (by rw [← hI, hk0]; rfl)
   ·
    have hx : ¬ x = c := by have := hc2; rw [eqB] at this; simpa using this
    refine awp_skip ?_
    refine awp_region mixed ?_
    refine lmv rfl rfl rfl rfl rfl ?_
    refine xlz (o_sub rfl rfl rfl rfl (by first | omega | (simp; omega) | (simp at *; omega))) ?_
    refine las rfl rfl rfl rfl rfl ?_
    refine lendF ?_
    refine ⟨(k - 1), ?_, ?_, ?_⟩
    ·
     exact ⟨by omega, by rw [← hI, show k = k - 1 + 1 from by omega, lastIx, if_neg (by rw [hn]; simp; exact hx)]; rfl⟩
    ·
     exact ent_k [] rfl rfl (.cons rfl (k_i (by omega)) <| (by repeat (first | exact .nil | refine xkc ?_))) obs_nil rfl
    ·
     omega
  ·
   have hk0 : k = 0 := by have := hc1; simp at this; omega
   refine awp_exit ?_
   refine xsr ?_
   refine las rfl rfl rfl rfl rfl ?_
   refine lendF ?_
   refine awp_ret ?_
   refine ⟨[_], ⟨rfl, trivial⟩, ?_⟩
   first | exact ent_i rfl (by rw [← hI, show k = k - 1 + 1 from by omega, lastIx, if_pos (by rw [hn, hx])]; omega) | exact ent_i rfl (by rw [← hI, hk0]; rfl)

set_option maxRecDepth 10000 in
theorem c103 (s : Bytes) (c : UInt8) (hs : s.length ≤ 100000) : Fn PR 103 [.d (.str s), .d (.str [c])] [] [.d (I (lastIx s c s.length))] [] := by
 refine fn_of_awp Tryz.func103 rfl (N := 36) rfl ?_
 refine xsr ?_
 refine las rfl rfl rfl rfl rfl ?_
 refine lendF ?_
 refine xsr ?_
 refine lmv rfl rfl rfl rfl rfl ?_
 refine xlz (op_lenS rfl rfl rfl ty9) ?_
 refine las rfl rfl rfl rfl rfl ?_
 refine lendF ?_
 refine awp_seq ?_
 refine awp_block ?_
 refine xsr ?_
 refine lmv rfl rfl rfl rfl rfl ?_
 refine xlz (op_binI rfl rfl rfl rfl rfl (.inl rfl) rfl) ?_
 refine las rfl rfl rfl rfl rfl ?_
 refine lendF ?_
 refine awp_condF rfl rfl rfl ?_
 refine xsr ?_
 refine lmv rfl rfl rfl rfl rfl ?_
 refine xlz (op_binI rfl rfl rfl rfl rfl (.inl rfl) rfl) ?_
 refine las rfl rfl rfl rfl rfl ?_
 refine lendF ?_
 refine awp_condT rfl rfl rfl ?_
 refine xsr ?_
 iterate 2 refine lmv rfl rfl rfl rfl rfl ?_
 refine xlz (o_idxS (0) rfl rfl rfl rfl ty9 (by first | rfl | omega | (simp; done) | (simp; omega)) (show [c][0]? = some c from rfl)) ?_
 refine xlz (o_call (c129 s c hs) rfl rfl rfl ca129 rfl rfl) ?_
 refine las rfl rfl rfl rfl rfl ?_
 refine lendF ?_
 refine awp_ret ?_
 refine ⟨[_], ⟨rfl, trivial⟩, ?_⟩
 exact ent_d1 rfl (by first | rfl | simp_all)

end Go.Pm

namespace Go.Pm
open Go.Proofs

set_option maxRecDepth 10000 in
theorem c149 (s : Bytes) (hs : s.length ≤ 100000) : Fn PR 149 [.d (.str s), .d (.str [47]), .d (I 0), .d (I (-1))] [] [.d (.list ((segsF s).map .str))] [] := by
 refine fn_of_awp Tryz.func149 rfl (N := 66) rfl ?_
 have hcl := List.count_le_length (a := (47 : UInt8)) (l := s)
 refine xsr ?_
 refine las rfl rfl rfl rfl rfl ?_
 refine lendF ?_
 refine awp_seq ?_
 refine xsr ?_
 refine lmv rfl rfl rfl rfl rfl ?_
 refine xlz (op_binI rfl rfl rfl rfl rfl (.inl rfl) rfl) ?_
 refine lendF ?_
 refine awp_condF rfl rfl rfl ?_
 refine awp_skip ?_
 refine awp_seq ?_
 refine xsr ?_
 refine lmv rfl rfl rfl rfl rfl ?_
 refine xlz (op_binS rfl rfl rfl rfl rfl (fun h => by first | cases h | (simp; omega)) rfl) ?_
 refine lendF ?_
 refine awp_condF rfl rfl rfl ?_
 refine awp_skip ?_
 refine awp_seq ?_
 refine xsr ?_
 refine lmv rfl rfl rfl rfl rfl ?_
 refine xlz (op_binI rfl rfl rfl rfl rfl (.inl rfl) rfl) ?_
 refine lendF ?_
 refine awp_condT rfl rfl rfl ?_
 refine awp_region mixed ?_
 iterate 2 refine lmv rfl rfl rfl rfl rfl ?_
 refine xlz (o_call (c173 s 47) rfl rfl rfl ca173 rfl rfl) ?_
 refine xlz (o_add rfl rfl rfl rfl (by first | omega | (simp; omega) | (simp at *; omega))) ?_
 refine las rfl rfl rfl rfl rfl ?_
 refine lendF ?_
 refine xsr ?_
 iterate 2 refine lmv rfl rfl rfl rfl rfl ?_
 refine xlz (op_lenS rfl rfl rfl ty9) ?_
 refine xlz (o_add rfl rfl rfl rfl (by first | omega | (simp; omega) | (simp at *; omega))) ?_
 refine xlz (o_eqI (op_min rfl rfl rfl rfl rfl) (m' := (((s.count 47 + 1) : Nat) : Int)) (by split <;> omega)) ?_
 refine las rfl rfl rfl rfl rfl ?_
 refine lendF ?_
 refine xsr ?_
 refine lmv rfl rfl rfl rfl rfl ?_
 refine xlz (op_mkR (n := (s.count 47 + 1)) (zd := .str []) rfl rfl rfl rfl rfl ty71 ty9 (fun M w => .str []) rfl (by decide) (by omega) (by omega) rfl (by decide)) ?_
 refine las rfl rfl rfl rfl rfl ?_
 refine lendF ?_
 refine xsr ?_
 refine lmv rfl rfl rfl rfl rfl ?_
 refine xlz (o_sub rfl rfl rfl rfl (by first | omega | (simp; omega) | (simp at *; omega))) ?_
 refine las rfl rfl rfl rfl rfl ?_
 refine lendF ?_
 refine xsr ?_
 refine las rfl rfl rfl rfl rfl ?_
 refine lendF ?_
 refine awp_seq ?_
 refine awp_block ?_
 refine awp_loop (fun x => ⟨66, [(0, .d (.str x.1)), (9, .arr 500031 1 0 (s.count 47 + 1)), (10, .d (I (x.2.length : Nat))), (1, .d (.str [47])), (2, .d (I 0)), (3, .d (I ((((s.count 47 + 1) : Nat) : Int) - 1)))], [(500031, .arr 1 ((x.2 ++ List.replicate ((s.count 47 + 1) - x.2.length) []).map D.str))]⟩) (fun x => s.count 47 - x.2.length) (fun x => x.2.length ≤ s.count 47 ∧ x.2 ++ splitB x.1 = splitB s ∧ x.1.count 47 + x.2.length = s.count 47 ∧ x.1.length ≤ s.length) (s, []) ?_ ?_ ?_
 ·
  exact ent_k [(500031, 31)] rfl rfl (xkc <| .cons rfl (k_arr rfl rfl) <| (by repeat (first | exact .nil | refine xkc ?_))) (obs_cons rfl (ko_arr (by simp)) obs_nil) rfl
 ·
  exact ⟨Nat.zero_le _, rfl, rfl, Nat.le_refl _⟩
 ·
  rintro ⟨t, d⟩ ⟨h1, h2, h3, h4⟩
  dsimp only at h1 h2 h3 h4 ⊢
  refine awp_seq ?_
  refine xsr ?_
  iterate 2 refine lmv rfl rfl rfl rfl rfl ?_
  refine xlz (op_binI rfl rfl rfl rfl rfl (.inl rfl) rfl) ?_
  refine lendF ?_
  refine awp_cond rfl rfl (fun hc4 => ?_) (fun hc4 => ?_)
  ·
   have hi : d.length < s.count 47 := by have := hc4; simp at this; omega
   refine awp_skip ?_
   refine awp_block ?_
   refine xsr ?_
   iterate 2 refine lmv rfl rfl rfl rfl rfl ?_
   refine xlz (o_call (c174 t [47] (by omega)) rfl rfl rfl ca174 rfl rfl) ?_
   refine las rfl rfl rfl rfl rfl ?_
   refine lendF ?_
   refine awp_seq ?_
   refine xsr ?_
   refine lmv rfl rfl rfl rfl rfl ?_
   refine xlz (op_binI rfl rfl rfl rfl rfl (.inl rfl) rfl) ?_
   refine lendF ?_
   refine awp_cond rfl rfl (fun hc5 => ?_) (fun hc5 => ?_)
   ·
    exact absurd (count_none_neg (by rw [ixS_one] at hc5; simpa using hc5)) (by omega)
   ·
    obtain ⟨o, ho, ho2, ho3⟩ := ixB_some (l := t) (c := 47) (by rw [← ixS_one]; have := hc5; simp at this; exact this)
    rw [← ixS_one] at ho
    have hol := rng_le ho2
    have hzd := rep_get (d := d) (N := (s.count 47 + 1)) (by omega)
    refine awp_skip ?_
    refine xsr ?_
    iterate 5 refine lmv rfl rfl rfl rfl rfl ?_
    refine xlz (o_add rfl rfl rfl rfl (by first | omega | (simp; omega) | (simp at *; omega))) ?_
    refine xlz (o_eqS (o_slS rfl rfl rfl ty9 .none (.some rfl rfl (n := o) (by first | rfl | omega | (simp; done) | (simp; omega))) (Nat.zero_le _) (by first | omega | (simp; omega) | (simp at *; omega))) (l' := t.take o) (by simp)) ?_
    refine xlz (o_ixR' (d.length) rfl rfl rfl rfl ty71 ty9 (by first | rfl | omega | (simp; done) | (simp; omega)) (by omega) (Nat.zero_add _).symm) ?_
    refine xlz (op_storeE rfl rfl rfl rfl hzd rfl rfl rfl ty9 rfl rfl rfl) ?_
    refine lendF ?_
    refine xsr ?_
    iterate 3 refine lmv rfl rfl rfl rfl rfl ?_
    refine xlz (op_lenS rfl rfl rfl ty9) ?_
    refine xlz (o_add rfl rfl rfl rfl (by first | omega | (simp; omega) | (simp at *; omega))) ?_
    refine xlz (o_eqS (o_slS rfl rfl rfl ty9 (.some rfl rfl (n := (o + 1)) (by first | rfl | omega | (simp; done) | (simp; omega))) .none (by first | omega | (simp; omega) | (simp at *; omega)) (by first | omega | (simp; omega) | (simp at *; omega))) (l' := t.drop (o + 1)) (by simp [List.take_of_length_le])) ?_
    refine las rfl rfl rfl rfl rfl ?_
    refine lendF ?_
    refine awp_region mixed ?_
    refine lmv rfl rfl rfl rfl rfl ?_
    refine xlz (o_add rfl rfl rfl rfl (by first | omega | (simp; omega) | (simp at *; omega))) ?_
    refine las rfl rfl rfl rfl rfl ?_
    refine lendF ?_
    refine ⟨(t.drop (o + 1), d ++ [t.take o]), ?_, ?_, ?_⟩
    ·
     exact ⟨by show (d ++ [t.take o]).length ≤ _; simp; omega, by show (d ++ [t.take o]) ++ splitB (t.drop (o + 1)) = _; rw [← h2, splitB_some ho2 ho3]; simp, by show (t.drop (o + 1)).count 47 + (d ++ [t.take o]).length = _; have := count_some ho2 ho3; simp; omega, by show (t.drop (o + 1)).length ≤ _; simp; omega⟩
    ·
     exact ent_k [] rfl rfl (xkc <| .cons rfl (k_arr rfl rfl) <| .cons rfl (k_i (by simp)) <| (by repeat (first | exact .nil | refine xkc ?_))) (obs_cons rfl (ko_arr (rep_set (t.take o) (by omega))) obs_nil) rfl
    ·
     show s.count 47 - (d ++ [t.take o]).length < s.count 47 - d.length; simp; omega
  ·
   have hi : d.length = s.count 47 := by have := hc4; simp at this; omega
   have hsp := splitB_none (count_none (s := t) (by omega))
   refine awp_exit ?_
   refine awp_seq ?_
   have hzd := rep_get (d := d) (N := (s.count 47 + 1)) (by omega)
   refine awp_region mixed ?_
   iterate 3 refine lmv rfl rfl rfl rfl rfl ?_
   refine xlz (o_ixR' (d.length) rfl rfl rfl rfl ty71 ty9 (by first | rfl | omega | (simp; done) | (simp; omega)) (by omega) (Nat.zero_add _).symm) ?_
   refine xlz (op_storeE rfl rfl rfl rfl hzd rfl rfl rfl ty9 rfl rfl rfl) ?_
   refine lendF ?_
   refine xsr ?_
   iterate 2 refine lmv rfl rfl rfl rfl rfl ?_
   refine xlz (o_add rfl rfl rfl rfl (by first | omega | (simp; omega) | (simp at *; omega))) ?_
   refine xlz (o_slR rfl rfl rfl ty71 ty9 .none (.some rfl rfl (n := (d.length + 1)) (by first | rfl | omega | (simp; done) | (simp; omega))) (by omega) (by omega)) ?_
   refine las rfl rfl rfl rfl rfl ?_
   refine lendF ?_
   refine awp_ret ?_
   refine ⟨[_], ⟨rfl, trivial⟩, ?_⟩
   exact ent_fz1 (ds := ((d ++ [t]) ++ List.replicate ((s.count 47 + 1) - (d ++ [t]).length) []).map D.str) (by rw [← rep_set t (by omega)]; rfl) (by first | (simp; done) | (simp; omega)) (by rw [show 0 + 0 = 0 from rfl, show d.length + 1 - 0 = (d ++ [t]).length from by simp, rep_take, segsF_split, ← h2, hsp])

set_option maxRecDepth 10000 in
theorem c122 (s : Bytes) (hs : s.length ≤ 100000) : Fn PR 122 [.d (.str s), .d (.str [47])] [] [.d (.list ((segsF s).map .str))] [] := by
 refine fn_of_awp Tryz.func122 rfl (N := 8) rfl ?_
 refine xsr ?_
 refine las rfl rfl rfl rfl rfl ?_
 refine lendF ?_
 refine xsr ?_
 iterate 2 refine lmv rfl rfl rfl rfl rfl ?_
 refine xlz (o_call (c149 s hs) rfl rfl rfl ca149 rfl rfl) ?_
 refine las rfl rfl rfl rfl rfl ?_
 refine lendF ?_
 refine awp_ret ?_
 refine ⟨[_], ⟨rfl, trivial⟩, ?_⟩
 exact ent_d1 rfl (by first | rfl | simp_all)

end Go.Pm
