/- Part 6 of a proof about the index of a registry: plain functions, and walks through the program that show that it computes them (W34 .. W39). Own work. -/
import Derived.Test.YtffkffapcffhcaaGreatDoorKe
set_option autoImplicit false
set_option linter.unusedVariables false
set_option linter.unusedSimpArgs false
namespace Go.Pm
open Go.Proofs

set_option maxRecDepth 10000 in
set_option maxHeartbeats 4000000 in
theorem c17 (r : Rls) (hr : r.Sm) : Fn PR 17 [.d r.d] [] [.d (.str (if checkI [r] = 0 then manT r else [])), .d (I (checkI [r]))] [] := by
 refine fn_of_awp Tryz.func17 rfl (N := 89) rfl ?_
 refine xsr ?_
 refine xlz (op_box rfl rfl (by decide) rfl rfl) ?_
 iterate 2 refine las rfl rfl rfl rfl rfl ?_
 refine lendF ?_
 refine awp_seq ?_
 refine xsr ?_
 refine xlz (o_ldA rfl rfl rfl rfl ty40 rfl (xlb rfl) rfl) ?_
 refine xlz (o_bs rfl rfl rfl rfl rfl ty22 ty40 rfl rfl) ?_
 refine xlz (o_bld rfl rfl rfl bl25 ty25 zk25 rfl rfl rfl) ?_
 refine xlz (o_call (c22 ⟨[r], []⟩ (by simp) (by simpa using hr)) rfl rfl rfl ca22 rfl rfl) ?_
 refine las rfl rfl rfl rfl rfl ?_
 refine lendF ?_
 refine xsr ?_
 refine lmv rfl rfl rfl rfl rfl ?_
 refine xlz (op_binI rfl rfl rfl rfl rfl (.inl rfl) rfl) ?_
 refine lendF ?_
 refine awp_cond rfl rfl (fun hc1 => ?_) (fun hc1 => ?_)
 ·
  have h0 : ¬ checkI [r] = 0 := by simpa using hc1
  refine xsr ?_
  refine lmv rfl rfl rfl rfl rfl ?_
  iterate 2 refine las rfl rfl rfl rfl rfl ?_
  refine lendF ?_
  refine awp_ret ?_
  refine ⟨[_, _], ⟨rfl, rfl, trivial⟩, ?_⟩
  exact ent_d2 rfl (by rw [if_neg h0]) rfl rfl
 ·
  have h0 : checkI [r] = 0 := by simpa using hc1
  have he : relE r = 0 := checkI_ok h0 r (by simp)
  obtain ⟨_, hok, _, _, ha, hb, hd⟩ := relE_all he
  have hvb := ok_bounds hok
  have ha := isDig_len ha
  have hb := isDig_len hb
  have hd := isDig_len hd
  have hq := relE_reqs he
  have hh := headT_len hr he
  have hh1 : (textsS [r.path]).length ≤ 200000 := by simp only [headT, List.length_append] at hh; omega
  have hh2 : (textsS [r.path] ++ intsS [r.ver.min, r.ver.pat, if r.yank then 1 else 0]).length ≤ 200000 := by simp only [headT, List.length_append] at hh ⊢; omega
  have hh3 : (textsS [r.path] ++ intsS [r.ver.min, r.ver.pat, if r.yank then 1 else 0] ++ textsS [r.arch, r.iface, r.cert]).length ≤ 200000 := by simp only [headT, List.length_append] at hh ⊢; omega
  refine awp_skip ?_
  refine xsr ?_
  refine xlz (op_alloc rfl rfl (by decide) ty9 zk9 rfl) ?_
  refine xlz (op_store rfl rfl rfl rfl rfl rfl ty9 rfl (xlb rfl)) ?_
  refine lendF ?_
  refine xsr ?_
  refine xlz (op_fn rfl rfl rfl rfl rfl) ?_
  refine las rfl rfl rfl rfl rfl ?_
  refine lendF ?_
  refine xsr ?_
  refine xlz (op_fn rfl rfl rfl rfl rfl) ?_
  refine las rfl rfl rfl rfl rfl ?_
  refine lendF ?_
  refine xsr ?_
  refine lmv rfl rfl rfl rfl rfl ?_
  refine xlz (op_fieldP rfl rfl rfl fl40_0) ?_
  refine xlz (op_load1 rfl rfl rfl rfl ty9 rfl rfl) ?_
  refine xlz (o_bsD rfl rfl rfl rfl rfl ty71 ty9 rfl rfl) ?_
  refine xlz (o_callW [5] 26 (c57 [r.path] [] (by simp) (by simp; have := hr.path; omega) (by simp only [List.length_nil]; omega)) rfl rfl rfl ca57 rfl (by decide) (handOK_cons (by decide) (by decide) rfl rfl handOK_nil) rfl rfl rfl rfl) ?_
  refine lendF ?_
  refine xsr ?_
  refine las rfl rfl rfl rfl rfl ?_
  refine lendF ?_
  refine awp_joinX (fun _ : Unit => ⟨89, [(8, .d (I (if r.yank then 1 else 0 : Int))), (1, .ptr 1 0), (5, .ptr 5 0), (6, .fn (.func 55) [] [.ptr 5 0]), (7, .fn (.func 57) [] [.ptr 5 0])], [(5, .cells [.d (.str (textsS [r.path]))]), (1, .cells [.d (.str r.path), .d (I r.ver.maj), .d (I r.ver.min), .d (I r.ver.pat), .d (reqsD r.reqs), .d (.str r.arch), .d (.str r.iface), .d (.str r.cert), .d (.bool r.yank)])]⟩) (fun _ : Unit => True) ?_ ?_
  ·
   refine xsr ?_
   refine xlz (op_fieldP rfl rfl rfl fl40_6) ?_
   refine xlz (op_load1 rfl rfl rfl rfl ty4 rfl rfl) ?_
   refine lendF ?_
   refine awp_cond rfl rfl (fun hc2 => ?_) (fun hc2 => ?_)
   ·
    refine awp_region mixed ?_
    refine las rfl rfl rfl rfl rfl ?_
    refine lendF ?_
    refine ⟨(), ?_, ?_⟩
    ·
     exact True.intro
    ·
     exact ent_k [] rfl rfl (.cons rfl (k_i (by simp_all)) <| (by repeat (first | exact .nil | refine xkc ?_))) (obs_cons rfl (o_eq rfl) (obs_cons rfl (o_eq rfl) obs_nil)) rfl
   ·
    refine awp_skip ?_
    refine ⟨(), ?_, ?_⟩
    ·
     exact True.intro
    ·
     exact ent_k [] rfl rfl (.cons rfl (k_i (by simp_all)) <| (by repeat (first | exact .nil | refine xkc ?_))) (obs_cons rfl (o_eq rfl) (obs_cons rfl (o_eq rfl) obs_nil)) rfl
  ·
   rintro _ _
   refine xsr ?_
   refine lmv rfl rfl rfl rfl rfl ?_
   refine xlz (op_fieldP rfl rfl rfl fl40_1) ?_
   refine xlz (op_fieldP rfl rfl rfl fl38_1) ?_
   refine xlz (op_load1 rfl rfl rfl rfl ty3 rfl rfl) ?_
   refine xlz (op_fieldP rfl rfl rfl fl40_1) ?_
   refine xlz (op_fieldP rfl rfl rfl fl38_2) ?_
   refine xlz (op_load1 rfl rfl rfl rfl ty3 rfl rfl) ?_
   refine lmv rfl rfl rfl rfl rfl ?_
   refine xlz (o_bsD rfl rfl rfl rfl rfl ty96 ty3 rfl rfl) ?_
   refine xlz (o_callW [5] 38 (c55 [r.ver.min, r.ver.pat, if r.yank then 1 else 0] (textsS [r.path]) (by simp) (by simp; refine ⟨by omega, by omega, by split <;> omega⟩) (by rw [← List.length_append]; omega)) rfl rfl rfl ca55 rfl (by decide) (handOK_cons (by decide) (by decide) rfl rfl handOK_nil) rfl rfl rfl rfl) ?_
   refine lendF ?_
   refine xsr ?_
   refine lmv rfl rfl rfl rfl rfl ?_
   refine xlz (op_fieldP rfl rfl rfl fl40_3) ?_
   refine xlz (op_load1 rfl rfl rfl rfl ty9 rfl rfl) ?_
   refine xlz (op_fieldP rfl rfl rfl fl40_4) ?_
   refine xlz (op_load1 rfl rfl rfl rfl ty9 rfl rfl) ?_
   refine xlz (op_fieldP rfl rfl rfl fl40_5) ?_
   refine xlz (op_load1 rfl rfl rfl rfl ty9 rfl rfl) ?_
   refine xlz (o_bsD rfl rfl rfl rfl rfl ty71 ty9 rfl rfl) ?_
   refine xlz (o_callW [5] 47 (c57 [r.arch, r.iface, r.cert] (textsS [r.path] ++ intsS [r.ver.min, r.ver.pat, if r.yank then 1 else 0]) (by simp) (by simp; omega) (by rw [← List.length_append]; omega)) rfl rfl rfl ca57 rfl (by decide) (handOK_cons (by decide) (by decide) rfl rfl handOK_nil) rfl rfl rfl rfl) ?_
   refine lendF ?_
   refine xsr ?_
   refine lmv rfl rfl rfl rfl rfl ?_
   refine xlz (op_fieldP rfl rfl rfl fl40_2) ?_
   refine xlz (op_load1 rfl rfl rfl rfl ty26 rfl rfl) ?_
   refine xlz (o_lenE (n := r.reqs.length) rfl rfl rfl ty26 (by simp)) ?_
   refine xlz (o_bsD rfl rfl rfl rfl rfl ty96 ty3 rfl rfl) ?_
   refine xlz (o_callW [5] 53 (c55 [(r.reqs.length : Int)] (textsS [r.path] ++ intsS [r.ver.min, r.ver.pat, if r.yank then 1 else 0] ++ textsS [r.arch, r.iface, r.cert]) (by simp) (by simp; omega) (by rw [← List.length_append]; exact Nat.lt_of_le_of_lt hh (by omega))) rfl rfl rfl ca55 rfl (by decide) (handOK_cons (by decide) (by decide) rfl rfl handOK_nil) rfl rfl rfl rfl) ?_
   refine lendF ?_
   refine awp_seq ?_
   refine xsr ?_
   refine xlz (op_fieldP rfl rfl rfl fl40_2) ?_
   refine xlz (op_load1 rfl rfl rfl rfl ty26 rfl rfl) ?_
   refine xlz (o_lenE (n := r.reqs.length) rfl rfl rfl ty26 (by simp)) ?_
   refine lmv rfl rfl rfl rfl rfl ?_
   refine lendF ?_
   refine awp_block ?_
   refine awp_loop (fun i => ⟨89, [(57, .d (I (i : Nat))), (5, .ptr 5 0), (6, .fn (.func 55) [] [.ptr 5 0]), (7, .fn (.func 57) [] [.ptr 5 0]), (55, .d (reqsD r.reqs)), (56, .d (I r.reqs.length))], [(5, .cells [.d (.str (headT r ++ (r.reqs.take i).flatMap reqT))])]⟩) (fun i => r.reqs.length - i) (fun i => i ≤ r.reqs.length) 0 ?_ ?_ ?_
   ·
    exact ent_k [] rfl rfl ((by repeat (first | exact .nil | refine xkc ?_))) (obs_cons rfl (.cells (.cons (k_s (by simp [headT])) .nil)) obs_nil) rfl
   ·
    exact Nat.zero_le _
   ·
    rintro i hi
    refine xsr ?_
    refine xlz (op_binI rfl rfl rfl rfl rfl (.inl rfl) rfl) ?_
    refine lendF ?_
    refine awp_seq ?_
    refine awp_cond rfl rfl (fun hc3 => ?_) (fun hc3 => ?_)
    ·
     obtain ⟨z, hn⟩ := rng_lt (l := r.reqs) (by simpa using hc3)
     have hlt := rng_le hn
     have hmem := List.mem_of_getElem? hn
     have hpre := man_pre hr he hn
     have hzs := hr.reqs z hmem
     have hzp := hzs.path
     have hzl := hzs.set
     have hzb := relE_sets he z hmem
     have hp1 : (headT r ++ (r.reqs.take i).flatMap reqT ++ textsS [z.path]).length ≤ 600000000 := by simp only [reqT, List.length_append] at hpre ⊢; omega
     have hp2 : (headT r ++ (r.reqs.take i).flatMap reqT ++ textsS [z.path] ++ intsS [(z.set.length : Int)]).length ≤ 600000000 := by simp only [reqT, List.length_append] at hpre ⊢; omega
     refine awp_skip ?_
     refine awp_seq ?_
     refine awp_block ?_
     refine xsr ?_
     refine xlz (o_ixN (i) rfl rfl rfl rfl ty26 (by first | rfl | omega | (simp; done) | (simp; omega)) hn ty51) ?_
     refine xlz (op_loadCA rfl rfl rfl ty51 rfl (xlb rfl)) ?_
     refine xlz (op_alloc rfl rfl (by decide) ty51 zk51 rfl) ?_
     refine xlz (op_store rfl rfl rfl rfl rfl rfl ty51 rfl (xlb rfl)) ?_
     refine lendF ?_
     refine xsr ?_
     refine lmv rfl rfl rfl rfl rfl ?_
     refine xlz (op_fieldP rfl rfl rfl fl51_0) ?_
     refine xlz (op_load1 rfl rfl rfl rfl ty9 rfl rfl) ?_
     refine xlz (o_bsD rfl rfl rfl rfl rfl ty71 ty9 rfl rfl) ?_
     refine xlz (o_callW [5] 65 (c57 [z.path] (headT r ++ (r.reqs.take i).flatMap reqT) (by simp) (by simp; omega) (by rw [← List.length_append]; omega)) rfl rfl rfl ca57 rfl (by decide) (handOK_cons (by decide) (by decide) rfl rfl handOK_nil) rfl rfl rfl rfl) ?_
     refine lendF ?_
     refine xsr ?_
     refine lmv rfl rfl rfl rfl rfl ?_
     refine xlz (op_fieldP rfl rfl rfl fl51_1) ?_
     refine xlz (op_load1 rfl rfl rfl rfl ty49 rfl rfl) ?_
     refine xlz (o_lenE (n := z.set.length) rfl rfl rfl ty49 (by simp)) ?_
     refine xlz (o_bsD rfl rfl rfl rfl rfl ty96 ty3 rfl rfl) ?_
     refine xlz (o_callW [5] 71 (c55 [(z.set.length : Int)] (headT r ++ (r.reqs.take i).flatMap reqT ++ textsS [z.path]) (by simp) (by simp; omega) (by rw [← List.length_append]; omega)) rfl rfl rfl ca55 rfl (by decide) (handOK_cons (by decide) (by decide) rfl rfl handOK_nil) rfl rfl rfl rfl) ?_
     refine lendF ?_
     refine xsr ?_
     refine xlz (op_fieldP rfl rfl rfl fl51_1) ?_
     refine xlz (op_load1 rfl rfl rfl rfl ty49 rfl rfl) ?_
     refine xlz (o_lenE (n := z.set.length) rfl rfl rfl ty49 (by simp)) ?_
     refine lmv rfl rfl rfl rfl rfl ?_
     refine lendF ?_
     refine awp_block ?_
     refine awp_loop (fun k => ⟨89, [(75, .d (I (k : Nat))), (5, .ptr 5 0), (6, .fn (.func 55) [] [.ptr 5 0]), (7, .fn (.func 57) [] [.ptr 5 0]), (10, .ptr 10 0), (55, .d (reqsD r.reqs)), (56, .d (I r.reqs.length)), (57, .d (I (i : Nat))), (60, .d (.agg [.str z.path, setD z.set])), (61, .fn (.func 57) [] [.ptr 5 0]), (62, .ptr 10 0), (63, .d (.str z.path)), (64, .d (.list [.str z.path])), (66, .fn (.func 55) [] [.ptr 5 0]), (67, .ptr 10 1), (68, .d (setD z.set)), (69, .d (I z.set.length)), (70, .d (.list [I z.set.length])), (72, .ptr 10 1), (73, .d (setD z.set)), (74, .d (I z.set.length))], [(5, .cells [.d (.str (headT r ++ (r.reqs.take i).flatMap reqT ++ textsS [z.path] ++ intsS [(z.set.length : Int)] ++ (z.set.take k).flatMap (fun y => intsS [y.lo, y.hi])))]), (10, .cells [.d (.str z.path), .d (setD z.set)])]⟩) (fun k => z.set.length - k) (fun k => k ≤ z.set.length) 0 ?_ ?_ ?_
     ·
      exact ent_k [] rfl rfl ((by repeat (first | exact .nil | refine xkc ?_))) (obs_cons rfl (.cells (.cons (k_s (by simp)) .nil)) (obs_cons rfl (o_eq rfl) obs_nil)) rfl
     ·
      exact Nat.zero_le _
     ·
      rintro k hk
      refine xsr ?_
      refine xlz (op_binI rfl rfl rfl rfl rfl (.inl rfl) rfl) ?_
      refine lendF ?_
      refine awp_seq ?_
      refine awp_cond rfl rfl (fun hc4 => ?_) (fun hc4 => ?_)
      ·
       obtain ⟨y, hm⟩ := rng_lt (l := z.set) (by simpa using hc4)
       have hlt2 := rng_le hm
       have hyb := hzb y (List.mem_of_getElem? hm)
       have hp3 : (headT r ++ (r.reqs.take i).flatMap reqT ++ textsS [z.path] ++ intsS [(z.set.length : Int)] ++ (z.set.take k).flatMap (fun y => intsS [y.lo, y.hi]) ++ intsS [y.lo, y.hi]).length ≤ 600000000 := by have := flat_take (fun y : Span => intsS [y.lo, y.hi]) hm; simp only [reqT, List.length_append] at hpre this ⊢; omega
       refine awp_skip ?_
       refine awp_seq ?_
       refine awp_block ?_
       refine xsr ?_
       refine xlz (o_ixN (k) rfl rfl rfl rfl ty49 (by first | rfl | omega | (simp; done) | (simp; omega)) hm ty78) ?_
       refine xlz (op_loadCA rfl rfl rfl ty78 rfl (xlb rfl)) ?_
       refine xlz (op_alloc rfl rfl (by decide) ty78 zk78 rfl) ?_
       refine xlz (op_store rfl rfl rfl rfl rfl rfl ty78 rfl (xlb rfl)) ?_
       refine lendF ?_
       refine awp_region mixed ?_
       refine lmv rfl rfl rfl rfl rfl ?_
       refine xlz (op_fieldP rfl rfl rfl fl78_0) ?_
       refine xlz (op_load1 rfl rfl rfl rfl ty3 rfl rfl) ?_
       refine xlz (op_fieldP rfl rfl rfl fl78_1) ?_
       refine xlz (op_load1 rfl rfl rfl rfl ty3 rfl rfl) ?_
       refine xlz (o_bsD rfl rfl rfl rfl rfl ty96 ty3 rfl rfl) ?_
       refine xlz (o_callW [5] 85 (c55 [y.lo, y.hi] (headT r ++ (r.reqs.take i).flatMap reqT ++ textsS [z.path] ++ intsS [(z.set.length : Int)] ++ (z.set.take k).flatMap (fun y => intsS [y.lo, y.hi])) (by simp) (by simp; omega) (by rw [← List.length_append]; omega)) rfl rfl rfl ca55 rfl (by decide) (handOK_cons (by decide) (by decide) rfl rfl handOK_nil) rfl rfl rfl rfl) ?_
       refine lendF ?_
       refine awp_region mixed ?_
       refine xlz (o_add rfl rfl rfl rfl (by first | omega | (simp; omega) | (simp at *; omega))) ?_
       refine lmv rfl rfl rfl rfl rfl ?_
       refine lendF ?_
       refine ⟨k + 1, ?_, ?_, ?_⟩
       ·
        exact rng_le hm
       ·
        exact ent_k [] rfl rfl ((by repeat (first | exact .nil | refine xkc ?_))) (obs_cons rfl (.cells (.cons (k_s (by rw [take_succ hm]; simp)) .nil)) (obs_cons rfl (o_eq rfl) obs_nil)) rfl
       ·
        omega
      ·
       obtain rfl := rng_ge (l := z.set) (by simpa using hc4) hk
       refine awp_exit ?_
       refine awp_region mixed ?_
       refine xlz (o_add rfl rfl rfl rfl (by first | omega | (simp; omega) | (simp at *; omega))) ?_
       refine lmv rfl rfl rfl rfl rfl ?_
       refine lendF ?_
       refine ⟨i + 1, ?_, ?_, ?_⟩
       ·
        exact rng_le hn
       ·
        exact ent_k [] rfl rfl ((by repeat (first | exact .nil | refine xkc ?_))) (obs_cons rfl (.cells (.cons (k_s (by rw [take_succ hn]; simp [reqT])) .nil)) obs_nil) rfl
       ·
        omega
    ·
     obtain rfl := rng_ge (l := r.reqs) (by simpa using hc3) hi
     refine awp_exit ?_
     refine xsr ?_
     refine xlz (op_load1 rfl rfl rfl rfl ty9 rfl rfl) ?_
     iterate 2 refine las rfl rfl rfl rfl rfl ?_
     refine lendF ?_
     refine awp_ret ?_
     refine ⟨[_, _], ⟨rfl, rfl, trivial⟩, ?_⟩
     exact ent_d2 rfl (by rw [if_pos h0]; simp [manT]) rfl (by rw [h0])

end Go.Pm

namespace Go.Pm
open Go.Proofs

set_option maxRecDepth 10000 in
set_option maxHeartbeats 4000000 in
theorem c19 (m : Bytes) (hm : m.length ≤ 100000) : Fn PR 19 [.d (.str m)] [] [.d (readI m).1.d, .d (I (readI m).2)] [] := by
 refine fn_of_awp Tryz.func19 rfl (N := 91) rfl ?_
 refine xsr ?_
 refine xlz (op_alloc rfl rfl (by decide) ty40 zk40 rfl) ?_
 refine las rfl rfl rfl rfl rfl ?_
 refine lendF ?_
 refine xsr ?_
 refine lmv rfl rfl rfl rfl rfl ?_
 refine xlz (o_callX (p := .ptr 6011 0) (news := [6011]) (upd := [(6011, some (.cells [.d (.str m), .d (I 0), .d (I 0)]))]) [] 11 (c63 m) rfl rfl rfl ca63 rfl (by decide) handOK_nil rfl rfl rfl rfl (by kernel_rfl) (by kernel_rfl) (by kernel_rfl)) ?_
 refine las rfl rfl rfl rfl rfl ?_
 refine lendF ?_
 refine awp_joinX (fun _ : Unit => ⟨91, [(5, .ptr 5 0), (4, .ptr 6011 0), (0, .d (.str m)), (2, .ptr 2 0)], [(5, .cells [.d (.str (rd1 m).1), .d (I 0), .d (I 0), .d (I 0), .nils, .d (.str []), .d (.str []), .d (.str []), .d (.bool false)]), (6011, (rd1 m).2.ob), (2, .cells [.d (.str []), .d (I 0), .d (I 0), .d (I 0), .nils, .d (.str []), .d (.str []), .d (.str []), .d (.bool false)])]⟩) (fun _ : Unit => True) ?_ ?_
 ·
  refine awp_region mixed ?_
  refine lmv rfl rfl rfl rfl rfl ?_
  refine xlz (o_callX (p := .d (.str (rd1 m).1)) (news := []) (upd := [(6011, some ((rd1 m).2.ob))]) [6011] 13 (c64 ⟨m, 0, 0⟩ (by show m.length < _; omega) (Nat.zero_le _)) rfl rfl rfl ca64 rfl (by decide) (handOK_cons (by decide) (by decide) rfl rfl handOK_nil) rfl rfl rfl rfl (by kernel_rfl) (by kernel_rfl) (by kernel_rfl)) ?_
  refine xlz (o_bldP rfl rfl rfl bl40 ty40 zk40 rfl rfl) ?_
  refine xlz (op_alloc rfl rfl (by decide) ty40 zk40 rfl) ?_
  refine xlz (op_storeX [.d (.str (rd1 m).1), .d (I 0), .d (I 0), .d (I 0), .nils, .d (.str []), .d (.str []), .d (.str []), .d (.bool false)] rfl rfl rfl rfl rfl rfl ty40 rfl (xlb rfl) (by kernel_rfl)) ?_
  refine lendF ?_
  refine ⟨(), ?_, ?_⟩
  ·
   exact True.intro
  ·
   exact ent_k [] rfl rfl ((by repeat (first | exact .nil | refine xkc ?_))) (obs_cons rfl (.cells (by repeat (first | exact .nil | refine .cons (by first | exact k_eq rfl | exact .same _ | exact k_i (by rw [majN_eq hp]; simp [hp])) ?_))) (obs_cons rfl (o_eq rfl) (obs_cons rfl (o_eq rfl) obs_nil))) rfl
 ·
  rintro _ _
  refine xsr ?_
  refine xlz (op_fieldP rfl rfl rfl fl40_0) ?_
  refine xlz (op_load1 rfl rfl rfl rfl ty9 rfl rfl) ?_
  refine xlz (o_call (c65 (rd1 m).1 (Nat.le_trans (text_len (m := m) (r := ⟨m, 0, 0⟩) ⟨rfl, Nat.zero_le _⟩) hm)) rfl rfl rfl ca65 rfl rfl) ?_
  refine lmv rfl rfl rfl rfl rfl ?_
  refine xlz (op_extract rfl rfl rfl rfl) ?_
  refine xlz (op_extract rfl rfl rfl rfl) ?_
  refine xlz (op_extract rfl rfl rfl rfl) ?_
  iterate 3 refine las rfl rfl rfl rfl rfl ?_
  refine lendF ?_
  refine awp_seq ?_
  refine xsr ?_
  refine lmv rfl rfl rfl rfl rfl ?_
  refine xlz (op_binI rfl rfl rfl rfl rfl (.inl rfl) rfl) ?_
  refine lendF ?_
  refine awp_cond rfl rfl (fun hc1 => ?_) (fun hc1 => ?_)
  ·
   have hp : isPath (rd1 m).1 = false := by (have h := hc1); split at h; (simp at h); (rename_i h2; simpa using h2)
   have hmj := majN_no hp
   have hb : readB m := .inl hmj
   refine xsr ?_
   refine xlz (o_bld rfl rfl rfl bl40 ty40 zk40 rfl rfl rfl) ?_
   refine xlz (op_storeX [.d (.str []), .d (I 0), .d (I 0), .d (I 0), .d (.list []), .d (.str []), .d (.str []), .d (.str []), .d (.bool false)] rfl rfl rfl rfl rfl rfl ty40 rfl (xlb rfl) (by kernel_rfl)) ?_
   refine las rfl rfl rfl rfl rfl ?_
   refine lendF ?_
   refine awp_ret ?_
   refine ⟨[_, _], ⟨⟨_, _, _, _, _, _, _, rfl, rfl, ty40, (xlb rfl), rfl⟩, rfl, trivial⟩, ?_⟩
   first | exact ent_d2 rfl (by rw [readI, if_pos hb] <;> rfl) rfl (by rw [readI, if_pos hb] <;> rfl) | exact ent_d2 rfl (by rw [readI, if_neg hb] <;> rfl) rfl (by rw [readI, if_neg hb] <;> rfl)
  ·
   have hp : isPath (rd1 m).1 = true := by (have h := hc1); split at h; (assumption); (simp at h)
   have hmj := majN_yes hp
   have hme := majN_eq hp
   refine awp_skip ?_
   refine awp_joinX (fun _ : Unit => ⟨91, [(5, .ptr 5 0), (4, .ptr 6011 0), (0, .d (.str m)), (2, .ptr 2 0)], [(5, .cells [.d (.str (rd1 m).1), .d (I (majN (rd1 m).1)), .d (I (rd2 m).1), .d (I (rd3 m).1), .nils, .d (.str []), .d (.str []), .d (.str []), .d (.bool false)]), (6011, (rd3 m).2.ob), (2, .cells [.d (.str []), .d (I 0), .d (I 0), .d (I 0), .nils, .d (.str []), .d (.str []), .d (.str []), .d (.bool false)])]⟩) (fun _ : Unit => True) ?_ ?_
   ·
    refine awp_region mixed ?_
    iterate 2 refine lmv rfl rfl rfl rfl rfl ?_
    refine xlz (o_callX (p := .d (I (rd2 m).1)) (news := []) (upd := [(6011, some ((rd2 m).2.ob))]) [6011] 27 (c66 (rd1 m).2 ((in1 m).hs hm) (in1 m).hp) rfl rfl rfl ca66 rfl (by decide) (handOK_cons (by decide) (by decide) rfl rfl handOK_nil) rfl rfl rfl rfl (by kernel_rfl) (by kernel_rfl) (by kernel_rfl)) ?_
    refine lmv rfl rfl rfl rfl rfl ?_
    refine xlz (o_callX (p := .d (I (rd3 m).1)) (news := []) (upd := [(6011, some ((rd3 m).2.ob))]) [6011] 29 (c66 (rd2 m).2 ((in2 m).hs hm) (in2 m).hp) rfl rfl rfl ca66 rfl (by decide) (handOK_cons (by decide) (by decide) rfl rfl handOK_nil) rfl rfl rfl rfl (by kernel_rfl) (by kernel_rfl) (by kernel_rfl)) ?_
    refine xlz (o_bld rfl rfl rfl bl38 ty38 zk38 rfl rfl rfl) ?_
    refine xlz (op_fieldP rfl rfl rfl fl40_1) ?_
    refine xlz (op_storeX [.d (.str (rd1 m).1), .d (I (if isPath (rd1 m).1 then (majorF (rd1 m).1).1 else 0)), .d (I (rd2 m).1), .d (I (rd3 m).1), .nils, .d (.str []), .d (.str []), .d (.str []), .d (.bool false)] rfl rfl rfl rfl rfl rfl ty38 rfl (xlb rfl) (by kernel_rfl)) ?_
    refine lendF ?_
    refine ⟨(), ?_, ?_⟩
    ·
     exact True.intro
    ·
     exact ent_k [] rfl rfl ((by repeat (first | exact .nil | refine xkc ?_))) (obs_cons rfl (.cells (by repeat (first | exact .nil | refine .cons (by first | exact k_eq rfl | exact .same _ | exact k_i (by rw [majN_eq hp]; simp [hp])) ?_))) (obs_cons rfl (o_eq rfl) (obs_cons rfl (o_eq rfl) obs_nil))) rfl
   ·
    rintro _ _
    refine awp_joinX (fun _ : Unit => ⟨91, [(5, .ptr 5 0), (4, .ptr 6011 0), (0, .d (.str m)), (2, .ptr 2 0)], [(5, .cells [.d (.str (rd1 m).1), .d (I (majN (rd1 m).1)), .d (I (rd2 m).1), .d (I (rd3 m).1), .nils, .d (.str []), .d (.str []), .d (.str []), .d (.bool ((rd4 m).1 == 1))]), (6011, (rd4 m).2.ob), (2, .cells [.d (.str []), .d (I 0), .d (I 0), .d (I 0), .nils, .d (.str []), .d (.str []), .d (.str []), .d (.bool false)])]⟩) (fun _ : Unit => True) ?_ ?_
    ·
     refine awp_region mixed ?_
     refine lmv rfl rfl rfl rfl rfl ?_
     refine xlz (o_callX (p := .d (I (rd4 m).1)) (news := []) (upd := [(6011, some ((rd4 m).2.ob))]) [6011] 33 (c67 (rd3 m).2 1 ((in3 m).hs hm) (in3 m).hp) rfl rfl rfl ca67 rfl (by decide) (handOK_cons (by decide) (by decide) rfl rfl handOK_nil) rfl rfl rfl rfl (by kernel_rfl) (by kernel_rfl) (by kernel_rfl)) ?_
     refine xlz (op_binI rfl rfl rfl rfl rfl (.inl rfl) rfl) ?_
     refine xlz (op_fieldP rfl rfl rfl fl40_6) ?_
     refine xlz (op_storeX [.d (.str (rd1 m).1), .d (I (majN (rd1 m).1)), .d (I (rd2 m).1), .d (I (rd3 m).1), .nils, .d (.str []), .d (.str []), .d (.str []), .d (.bool ((rd4 m).1 == 1))] rfl rfl rfl rfl rfl rfl ty4 rfl (xlb rfl) (by kernel_rfl)) ?_
     refine lendF ?_
     refine ⟨(), ?_, ?_⟩
     ·
      exact True.intro
     ·
      exact ent_k [] rfl rfl ((by repeat (first | exact .nil | refine xkc ?_))) (obs_cons rfl (.cells (by repeat (first | exact .nil | refine .cons (by first | exact k_eq rfl | exact .same _ | exact k_i (by rw [majN_eq hp]; simp [hp])) ?_))) (obs_cons rfl (o_eq rfl) (obs_cons rfl (o_eq rfl) obs_nil))) rfl
    ·
     rintro _ _
     refine awp_joinX (fun _ : Unit => ⟨91, [(5, .ptr 5 0), (4, .ptr 6011 0), (0, .d (.str m)), (2, .ptr 2 0)], [(5, .cells [.d (.str (rd1 m).1), .d (I (majN (rd1 m).1)), .d (I (rd2 m).1), .d (I (rd3 m).1), .nils, .d (.str (rd5 m).1), .d (.str (rd6 m).1), .d (.str (rd7 m).1), .d (.bool ((rd4 m).1 == 1))]), (6011, (rd7 m).2.ob), (2, .cells [.d (.str []), .d (I 0), .d (I 0), .d (I 0), .nils, .d (.str []), .d (.str []), .d (.str []), .d (.bool false)])]⟩) (fun _ : Unit => True) ?_ ?_
     ·
      refine awp_region mixed ?_
      refine lmv rfl rfl rfl rfl rfl ?_
      refine xlz (o_callX (p := .d (.str (rd5 m).1)) (news := []) (upd := [(6011, some ((rd5 m).2.ob))]) [6011] 37 (c64 (rd4 m).2 ((in4 m).hs hm) (in4 m).hp) rfl rfl rfl ca64 rfl (by decide) (handOK_cons (by decide) (by decide) rfl rfl handOK_nil) rfl rfl rfl rfl (by kernel_rfl) (by kernel_rfl) (by kernel_rfl)) ?_
      refine lmv rfl rfl rfl rfl rfl ?_
      refine xlz (o_callX (p := .d (.str (rd6 m).1)) (news := []) (upd := [(6011, some ((rd6 m).2.ob))]) [6011] 39 (c64 (rd5 m).2 ((in5 m).hs hm) (in5 m).hp) rfl rfl rfl ca64 rfl (by decide) (handOK_cons (by decide) (by decide) rfl rfl handOK_nil) rfl rfl rfl rfl (by kernel_rfl) (by kernel_rfl) (by kernel_rfl)) ?_
      refine lmv rfl rfl rfl rfl rfl ?_
      refine xlz (o_callX (p := .d (.str (rd7 m).1)) (news := []) (upd := [(6011, some ((rd7 m).2.ob))]) [6011] 41 (c64 (rd6 m).2 ((in6 m).hs hm) (in6 m).hp) rfl rfl rfl ca64 rfl (by decide) (handOK_cons (by decide) (by decide) rfl rfl handOK_nil) rfl rfl rfl rfl (by kernel_rfl) (by kernel_rfl) (by kernel_rfl)) ?_
      refine xlz (op_fieldP rfl rfl rfl fl40_3) ?_
      refine xlz (op_storeX [.d (.str (rd1 m).1), .d (I (majN (rd1 m).1)), .d (I (rd2 m).1), .d (I (rd3 m).1), .nils, .d (.str (rd5 m).1), .d (.str []), .d (.str []), .d (.bool ((rd4 m).1 == 1))] rfl rfl rfl rfl rfl rfl ty9 rfl (xlb rfl) (by kernel_rfl)) ?_
      refine xlz (op_fieldP rfl rfl rfl fl40_4) ?_
      refine xlz (op_storeX [.d (.str (rd1 m).1), .d (I (majN (rd1 m).1)), .d (I (rd2 m).1), .d (I (rd3 m).1), .nils, .d (.str (rd5 m).1), .d (.str (rd6 m).1), .d (.str []), .d (.bool ((rd4 m).1 == 1))] rfl rfl rfl rfl rfl rfl ty9 rfl (xlb rfl) (by kernel_rfl)) ?_
      refine xlz (op_fieldP rfl rfl rfl fl40_5) ?_
      refine xlz (op_storeX [.d (.str (rd1 m).1), .d (I (majN (rd1 m).1)), .d (I (rd2 m).1), .d (I (rd3 m).1), .nils, .d (.str (rd5 m).1), .d (.str (rd6 m).1), .d (.str (rd7 m).1), .d (.bool ((rd4 m).1 == 1))] rfl rfl rfl rfl rfl rfl ty9 rfl (xlb rfl) (by kernel_rfl)) ?_
      refine lendF ?_
      refine ⟨(), ?_, ?_⟩
      ·
       exact True.intro
      ·
       exact ent_k [] rfl rfl ((by repeat (first | exact .nil | refine xkc ?_))) (obs_cons rfl (.cells (by repeat (first | exact .nil | refine .cons (by first | exact k_eq rfl | exact .same _ | exact k_i (by rw [majN_eq hp]; simp [hp])) ?_))) (obs_cons rfl (o_eq rfl) (obs_cons rfl (o_eq rfl) obs_nil))) rfl
     ·
      rintro _ _
      refine awp_seq ?_
      refine xsr ?_
      refine lmv rfl rfl rfl rfl rfl ?_
      refine xlz (o_callX (p := .d (I (rd8 m).1)) (news := []) (upd := [(6011, some ((rd8 m).2.ob))]) [6011] 46 (c67 (rd7 m).2 16 ((in7 m).hs hm) (in7 m).hp) rfl rfl rfl ca67 rfl (by decide) (handOK_cons (by decide) (by decide) rfl rfl handOK_nil) rfl rfl rfl rfl (by kernel_rfl) (by kernel_rfl) (by kernel_rfl)) ?_
      refine lmv rfl rfl rfl rfl rfl ?_
      refine lendF ?_
      refine awp_block ?_
      refine awp_ent (ent_tailc 5 4 500076 2 rfl rfl rfl (by decide) rfl) ?_
      refine awp_loop (fun i => ⟨91, [(47, .d (I (i : Nat))), (46, .d (I (rd8 m).1)), (5, .ptr 5 0), (4, .ptr 6011 0), (0, .d (.str m)), (2, .ptr 2 0)], [(5, .cells [.d (.str (rd1 m).1), .d (I (majN (rd1 m).1)), .d (I (rd2 m).1), .d (I (rd3 m).1), .tl ((qI m.length (rd8 m).2 i).1.map Req.d) (some 500076), .d (.str (rd5 m).1), .d (.str (rd6 m).1), .d (.str (rd7 m).1), .d (.bool ((rd4 m).1 == 1))]), (500076, .tail 2), (6011, (qI m.length (rd8 m).2 i).2.ob), (2, .cells [.d (.str []), .d (I 0), .d (I 0), .d (I 0), .nils, .d (.str []), .d (.str []), .d (.str []), .d (.bool false)])]⟩) (fun i => (rd8 m).1.toNat - i) (fun i => i ≤ (rd8 m).1.toNat) 0 ?_ ?_ ?_
      ·
       exact ent_k [] rfl rfl ((by repeat (first | exact .nil | refine xkc ?_))) (obs_cons rfl (.cells (by repeat (first | exact .nil | refine .cons (by first | exact k_eq rfl | exact .same _ | exact k_i (by rw [majN_eq hp]; simp [hp])) ?_))) (obs_cons rfl (o_eq rfl) (obs_cons rfl (o_eq rfl) (obs_cons rfl (o_eq rfl) obs_nil)))) rfl
      ·
       exact Nat.zero_le _
      ·
       rintro i hi
       refine xsr ?_
       refine xlz (op_binI rfl rfl rfl rfl rfl (.inl rfl) rfl) ?_
       refine lendF ?_
       refine awp_seq ?_
       refine awp_cond rfl rfl (fun hc2 => ?_) (fun hc2 => ?_)
       ·
        have h8 := cnt8 m
        have hlt : i < (rd8 m).1.toNat := by (have h : decide ((i : Int) < (rd8 m).1) = true := hc2); simp at h; omega
        refine awp_skip ?_
        refine awp_seq ?_
        refine awp_block ?_
        refine xsr ?_
        refine lmv rfl rfl rfl rfl rfl ?_
        refine xlz (o_callX (p := .d (.str ((qI m.length (rd8 m).2 i).2.text).1)) (news := []) (upd := [(6011, some (((qI m.length (rd8 m).2 i).2.text).2.ob))]) [6011] 50 (c64 (qI m.length (rd8 m).2 i).2 ((qI_in (in8 m) m.length i).hs hm) (qI_in (in8 m) m.length i).hp) rfl rfl rfl ca64 rfl (by decide) (handOK_cons (by decide) (by decide) rfl rfl handOK_nil) rfl rfl rfl rfl (by kernel_rfl) (by kernel_rfl) (by kernel_rfl)) ?_
        refine xlz (o_bldP rfl rfl rfl bl51 ty51 zk51 rfl rfl) ?_
        refine xlz (op_alloc rfl rfl (by decide) ty51 zk51 rfl) ?_
        refine xlz (op_storeX [.d (.str (qI m.length (rd8 m).2 i).2.text.1), .nils] rfl rfl rfl rfl rfl rfl ty51 rfl (xlb rfl) (by kernel_rfl)) ?_
        refine lendF ?_
        refine awp_seq ?_
        refine xsr ?_
        iterate 2 refine lmv rfl rfl rfl rfl rfl ?_
        refine xlz (op_lenS rfl rfl rfl ty9) ?_
        refine xlz (o_callX (p := .d (I (rdc m.length (qI m.length (rd8 m).2 i).2).1)) (news := []) (upd := [(6011, some ((rdc m.length (qI m.length (rd8 m).2 i).2).2.ob))]) [6011] 55 (c67 (qI m.length (rd8 m).2 i).2.text.2 m.length ((text_in (qI_in (in8 m) m.length i)).hs hm) (text_in (qI_in (in8 m) m.length i)).hp) rfl rfl rfl ca67 rfl (by decide) (handOK_cons (by decide) (by decide) rfl rfl handOK_nil) rfl rfl rfl rfl (by kernel_rfl) (by kernel_rfl) (by kernel_rfl)) ?_
        refine lmv rfl rfl rfl rfl rfl ?_
        refine lendF ?_
        refine awp_block ?_
        refine awp_ent (ent_tailc 9 1 500069 2 rfl rfl rfl (by decide) rfl) ?_
        refine awp_loop (fun k => ⟨91, [(56, .d (I (k : Nat))), (55, .d (I (rdc m.length (qI m.length (rd8 m).2 i).2).1)), (9, .ptr 9 0), (0, .d (.str m)), (2, .ptr 2 0), (4, .ptr 6011 0), (5, .ptr 5 0), (46, .d (I (rd8 m).1)), (47, .d (I (i : Nat))), (49, .ptr 6011 0), (50, .d (.str ((qI m.length (rd8 m).2 i).2.text).1)), (51, .agg [.d (.str (qI m.length (rd8 m).2 i).2.text.1), .nils]), (52, .ptr 6011 0), (53, .d (.str m)), (54, .d (I m.length))], [(9, .cells [.d (.str (qI m.length (rd8 m).2 i).2.text.1), .tl ((sI (rdc m.length (qI m.length (rd8 m).2 i).2).2 k).1.map Span.d) (some 500069)]), (500069, .tail 2), (6011, (sI (rdc m.length (qI m.length (rd8 m).2 i).2).2 k).2.ob), (5, .cells [.d (.str (rd1 m).1), .d (I (majN (rd1 m).1)), .d (I (rd2 m).1), .d (I (rd3 m).1), .tl ((qI m.length (rd8 m).2 i).1.map Req.d) (some 500076), .d (.str (rd5 m).1), .d (.str (rd6 m).1), .d (.str (rd7 m).1), .d (.bool ((rd4 m).1 == 1))]), (500076, .tail 2), (2, .cells [.d (.str []), .d (I 0), .d (I 0), .d (I 0), .nils, .d (.str []), .d (.str []), .d (.str []), .d (.bool false)])]⟩) (fun k => (rdc m.length (qI m.length (rd8 m).2 i).2).1.toNat - k) (fun k => k ≤ (rdc m.length (qI m.length (rd8 m).2 i).2).1.toNat) 0 ?_ ?_ ?_
        ·
         exact ent_k [] rfl rfl ((by repeat (first | exact .nil | refine xkc ?_))) (obs_cons rfl (.cells (by repeat (first | exact .nil | refine .cons (by first | exact k_eq rfl | exact .same _ | exact k_i (by rw [majN_eq hp]; simp [hp])) ?_))) (obs_cons rfl (o_eq rfl) (obs_cons rfl (o_eq rfl) (obs_cons rfl (o_eq rfl) (obs_cons rfl (o_eq rfl) (obs_cons rfl (o_eq rfl) obs_nil)))))) rfl
        ·
         exact Nat.zero_le _
        ·
         rintro k hk
         refine xsr ?_
         refine xlz (op_binI rfl rfl rfl rfl rfl (.inl rfl) rfl) ?_
         refine lendF ?_
         refine awp_seq ?_
         refine awp_cond rfl rfl (fun hc3 => ?_) (fun hc3 => ?_)
         ·
          have hcb : (rdc m.length (qI m.length (rd8 m).2 i).2).1 ≤ m.length := (count_bnd (qI m.length (rd8 m).2 i).2.text.2 m.length (by omega)).2
          have hk2 : k < (rdc m.length (qI m.length (rd8 m).2 i).2).1.toNat := by (have h : decide ((k : Int) < (rdc m.length (qI m.length (rd8 m).2 i).2).1) = true := hc3); simp at h; omega
          refine awp_skip ?_
          refine awp_seq ?_
          refine awp_block ?_
          refine awp_seq ?_
          refine xsr ?_
          refine lmv rfl rfl rfl rfl rfl ?_
          refine xlz (o_callR [6011] (c68 (sI (rdc m.length (qI m.length (rd8 m).2 i).2).2 k).2) rfl rfl rfl ca68 rfl (by decide) (handOK_cons (by decide) (by decide) rfl rfl handOK_nil) rfl) ?_
          refine xlz (op_binI rfl rfl rfl rfl rfl (.inl rfl) rfl) ?_
          refine lendF ?_
          refine awp_cond rfl rfl (fun hc4 => ?_) (fun hc4 => ?_)
          ·
           have he : (sI (rdc m.length (qI m.length (rd8 m).2 i).2).2 k).2.e ≠ 0 := by simpa using hc4
           rw [sI_stop he hk]
           refine awp_exit ?_
           refine awp_region mixed ?_
           refine xlz (op_fieldP rfl rfl rfl fl40_2) ?_
           refine xlz (op_load1 rfl rfl rfl rfl ty26 rfl rfl) ?_
           refine xlz (o_ldA rfl rfl rfl rfl ty51 rfl (xlb rfl) rfl) ?_
           refine xlz (o_bs rfl rfl rfl rfl rfl ty26 ty51 rfl rfl) ?_
           refine xlz (o_app rfl rfl (by decide) rfl rfl rfl ty26 ty51 rfl (by decide) rfl (by intro d hd; obtain ⟨x, _, rfl⟩ := List.mem_map.1 hd; rfl) (by simp [D.cells]) (by have := qI_len m.length (rd8 m).2 i; have := cnt8 m; simp; omega) (by decide) (show _ = (qI m.length (rd8 m).2 (i + 1)).1.map Req.d from by simp [qI, qstep])) ?_
           refine xlz (op_fieldP rfl rfl rfl fl40_2) ?_
           refine xlz (op_storeX [.d (.str (rd1 m).1), .d (I (majN (rd1 m).1)), .d (I (rd2 m).1), .d (I (rd3 m).1), .tl ((qI m.length (rd8 m).2 (i + 1)).1.map Req.d) (some 76), .d (.str (rd5 m).1), .d (.str (rd6 m).1), .d (.str (rd7 m).1), .d (.bool ((rd4 m).1 == 1))] rfl rfl rfl rfl rfl rfl ty26 rfl (xlb rfl) (by kernel_rfl)) ?_
           refine lendF ?_
           refine awp_region mixed ?_
           refine xlz (o_add rfl rfl rfl rfl (by first | omega | (simp; omega) | (simp at *; omega))) ?_
           refine lmv rfl rfl rfl rfl rfl ?_
           refine lendF ?_
           refine ⟨i + 1, ?_, ?_, ?_⟩
           ·
            exact hlt
           ·
            exact ent_k [(500076, 76)] rfl rfl ((by repeat (first | exact .nil | refine xkc ?_))) (obs_cons rfl (.cells (by repeat (first | exact .nil | refine .cons (by first | exact k_eq rfl | exact .same _ | exact k_i (by rw [majN_eq hp]; simp [hp])) ?_))) (obs_cons rfl (o_eq rfl) (obs_cons rfl (o_eq rfl) (obs_cons rfl (o_eq rfl) obs_nil)))) rfl
           ·
            omega
          ·
           have he : (sI (rdc m.length (qI m.length (rd8 m).2 i).2).2 k).2.e = 0 := by simpa using hc4
           refine awp_skip ?_
           refine awp_region mixed ?_
           refine xlz (op_fieldP rfl rfl rfl fl51_1) ?_
           refine xlz (op_load1 rfl rfl rfl rfl ty49 rfl rfl) ?_
           refine lmv rfl rfl rfl rfl rfl ?_
           refine xlz (o_callX (p := .d (I ((sI (rdc m.length (qI m.length (rd8 m).2 i).2).2 k).2.uint).1)) (news := []) (upd := [(6011, some (((sI (rdc m.length (qI m.length (rd8 m).2 i).2).2 k).2.uint).2.ob))]) [6011] 64 (c66 (sI (rdc m.length (qI m.length (rd8 m).2 i).2).2 k).2 ((sI_in (count_in (text_in (qI_in (in8 m) m.length i)) m.length) k).hs hm) (sI_in (count_in (text_in (qI_in (in8 m) m.length i)) m.length) k).hp) rfl rfl rfl ca66 rfl (by decide) (handOK_cons (by decide) (by decide) rfl rfl handOK_nil) rfl rfl rfl rfl (by kernel_rfl) (by kernel_rfl) (by kernel_rfl)) ?_
           refine lmv rfl rfl rfl rfl rfl ?_
           refine xlz (o_callX (p := .d (I ((sI (rdc m.length (qI m.length (rd8 m).2 i).2).2 k).2.uint.2.uint).1)) (news := []) (upd := [(6011, some (((sI (rdc m.length (qI m.length (rd8 m).2 i).2).2 k).2.uint.2.uint).2.ob))]) [6011] 66 (c66 (sI (rdc m.length (qI m.length (rd8 m).2 i).2).2 k).2.uint.2 ((uint_in (sI_in (count_in (text_in (qI_in (in8 m) m.length i)) m.length) k)).hs hm) (uint_in (sI_in (count_in (text_in (qI_in (in8 m) m.length i)) m.length) k)).hp) rfl rfl rfl ca66 rfl (by decide) (handOK_cons (by decide) (by decide) rfl rfl handOK_nil) rfl rfl rfl rfl (by kernel_rfl) (by kernel_rfl) (by kernel_rfl)) ?_
           refine xlz (o_bld rfl rfl rfl bl78 ty78 zk78 rfl rfl rfl) ?_
           refine xlz (o_bs rfl rfl rfl rfl rfl ty49 ty78 rfl rfl) ?_
           refine xlz (o_app rfl rfl (by decide) rfl rfl rfl ty49 ty78 rfl (by decide) rfl (by intro d hd; obtain ⟨x, _, rfl⟩ := List.mem_map.1 hd; rfl) (by simp [D.cells]) (by have := sI_len (rdc m.length (qI m.length (rd8 m).2 i).2).2 k; have := (count_bnd (qI m.length (rd8 m).2 i).2.text.2 m.length (by omega)).2; unfold rdc at *; simp; omega) (by decide) (show _ = (sI (rdc m.length (qI m.length (rd8 m).2 i).2).2 (k + 1)).1.map Span.d from by rw [sI_next he]; simp)) ?_
           refine xlz (op_fieldP rfl rfl rfl fl51_1) ?_
           refine xlz (op_storeX [.d (.str (qI m.length (rd8 m).2 i).2.text.1), .tl ((sI (rdc m.length (qI m.length (rd8 m).2 i).2).2 (k + 1)).1.map Span.d) (some 69)] rfl rfl rfl rfl rfl rfl ty49 rfl (xlb rfl) (by kernel_rfl)) ?_
           refine lend (fun _ => by kernel_rfl) ?_
           refine awp_region mixed ?_
           refine xlz (o_add rfl rfl rfl rfl (by first | omega | (simp; omega) | (simp at *; omega))) ?_
           refine lmv rfl rfl rfl rfl rfl ?_
           refine lendF ?_
           refine ⟨k + 1, ?_, ?_, ?_⟩
           ·
            exact hk2
           ·
            exact ent_k [(500069, 69)] rfl rfl ((by repeat (first | exact .nil | refine xkc ?_))) (obs_cons rfl (.cells (by repeat (first | exact .nil | refine .cons (by first | exact k_eq rfl | exact .same _ | exact k_i (by rw [majN_eq hp]; simp [hp])) ?_))) (obs_cons rfl (o_eq rfl) (obs_cons rfl (o_eq (by rw [sI_next he]; rfl)) (obs_cons rfl (o_eq rfl) (obs_cons rfl (o_eq rfl) (obs_cons rfl (o_eq rfl) obs_nil)))))) rfl
           ·
            omega
         ·
          obtain rfl : k = (rdc m.length (qI m.length (rd8 m).2 i).2).1.toNat := by (have h : decide ((k : Int) < (rdc m.length (qI m.length (rd8 m).2 i).2).1) = false := hc3); simp at h; omega
          refine awp_exit ?_
          refine awp_region mixed ?_
          refine xlz (op_fieldP rfl rfl rfl fl40_2) ?_
          refine xlz (op_load1 rfl rfl rfl rfl ty26 rfl rfl) ?_
          refine xlz (o_ldA rfl rfl rfl rfl ty51 rfl (xlb rfl) rfl) ?_
          refine xlz (o_bs rfl rfl rfl rfl rfl ty26 ty51 rfl rfl) ?_
          refine xlz (o_app rfl rfl (by decide) rfl rfl rfl ty26 ty51 rfl (by decide) rfl (by intro d hd; obtain ⟨x, _, rfl⟩ := List.mem_map.1 hd; rfl) (by simp [D.cells]) (by have := qI_len m.length (rd8 m).2 i; have := cnt8 m; simp; omega) (by decide) (show _ = (qI m.length (rd8 m).2 (i + 1)).1.map Req.d from by simp [qI, qstep])) ?_
          refine xlz (op_fieldP rfl rfl rfl fl40_2) ?_
          refine xlz (op_storeX [.d (.str (rd1 m).1), .d (I (majN (rd1 m).1)), .d (I (rd2 m).1), .d (I (rd3 m).1), .tl ((qI m.length (rd8 m).2 (i + 1)).1.map Req.d) (some 76), .d (.str (rd5 m).1), .d (.str (rd6 m).1), .d (.str (rd7 m).1), .d (.bool ((rd4 m).1 == 1))] rfl rfl rfl rfl rfl rfl ty26 rfl (xlb rfl) (by kernel_rfl)) ?_
          refine lendF ?_
          refine awp_region mixed ?_
          refine xlz (o_add rfl rfl rfl rfl (by first | omega | (simp; omega) | (simp at *; omega))) ?_
          refine lmv rfl rfl rfl rfl rfl ?_
          refine lendF ?_
          refine ⟨i + 1, ?_, ?_, ?_⟩
          ·
           exact hlt
          ·
           exact ent_k [(500076, 76)] rfl rfl ((by repeat (first | exact .nil | refine xkc ?_))) (obs_cons rfl (.cells (by repeat (first | exact .nil | refine .cons (by first | exact k_eq rfl | exact .same _ | exact k_i (by rw [majN_eq hp]; simp [hp])) ?_))) (obs_cons rfl (o_eq rfl) (obs_cons rfl (o_eq rfl) (obs_cons rfl (o_eq rfl) obs_nil)))) rfl
          ·
           omega
       ·
        obtain rfl : i = (rd8 m).1.toNat := by (have h : decide ((i : Int) < (rd8 m).1) = false := hc2); simp at h; omega
        refine awp_exit ?_
        refine awp_seq ?_
        refine xsr ?_
        refine lmv rfl rfl rfl rfl rfl ?_
        refine xlz (o_callR [6011] (c69 (rd9 m).2 ((in9 m).hs hm)) rfl rfl rfl ca69 rfl (by decide) (handOK_cons (by decide) (by decide) rfl rfl handOK_nil) rfl) ?_
        refine xlz (op_binI rfl rfl rfl rfl rfl (.inl rfl) rfl) ?_
        refine lmv rfl rfl rfl rfl rfl ?_
        refine lsplit rfl (fun hg5 => ?_) (fun hg5 => ?_)
        ·
         have hd : (rd9 m).2.done = 0 := by (have h := (g01 hg5)); simpa using h
         refine lg (o_ldA rfl rfl rfl rfl ty40 rfl (xlb rfl) rfl) rfl hg5 rfl rfl ?_
         refine lg (o_bs rfl rfl rfl rfl rfl ty22 ty40 rfl rfl) rfl hg5 rfl rfl ?_
         refine lg (o_bld rfl rfl rfl bl25 ty25 zk25 rfl rfl rfl) rfl hg5 rfl rfl ?_
         refine lg (o_call (c22 ⟨[outI m], []⟩ (by simp) (by simpa using out_sm m hm)) rfl rfl rfl ca22 rfl rfl) rfl hg5 rfl rfl ?_
         refine lg (op_binI rfl rfl rfl rfl rfl (.inl rfl) rfl) rfl hg5 rfl rfl ?_
         refine xlz (o_pF rfl rfl (g01 hg5) rfl rfl) ?_
         refine lendF ?_
         refine awp_cond rfl rfl (fun hc6 => ?_) (fun hc6 => ?_)
         ·
          have hb : readB m := .inr (.inr (by (have h := hc6); simpa using h))
          refine xsr ?_
          refine xlz (o_bld rfl rfl rfl bl40 ty40 zk40 rfl rfl rfl) ?_
          refine xlz (op_storeX [.d (.str []), .d (I 0), .d (I 0), .d (I 0), .d (.list []), .d (.str []), .d (.str []), .d (.str []), .d (.bool false)] rfl rfl rfl rfl rfl rfl ty40 rfl (xlb rfl) (by kernel_rfl)) ?_
          refine las rfl rfl rfl rfl rfl ?_
          refine lendF ?_
          refine awp_ret ?_
          refine ⟨[_, _], ⟨⟨_, _, _, _, _, _, _, rfl, rfl, ty40, (xlb rfl), rfl⟩, rfl, trivial⟩, ?_⟩
          first | exact ent_d2 rfl (by rw [readI, if_pos hb] <;> rfl) rfl (by rw [readI, if_pos hb] <;> rfl) | exact ent_d2 rfl (by rw [readI, if_neg hb] <;> rfl) rfl (by rw [readI, if_neg hb] <;> rfl)
         ·
          have hc : checkI [outI m] = 0 := by (have h := hc6); simpa using h
          have hb : ¬ readB m := by (have := majN_yes hp); simp [readB, hd, hc, this]
          refine awp_skip ?_
          refine xsr ?_
          refine xlz (o_ldA rfl rfl rfl rfl ty40 rfl (xlb rfl) rfl) ?_
          refine xlz (op_store rfl rfl rfl rfl rfl rfl ty40 rfl (xlb rfl)) ?_
          refine las rfl rfl rfl rfl rfl ?_
          refine lendF ?_
          refine awp_ret ?_
          refine ⟨[_, _], ⟨⟨_, _, _, _, _, _, _, rfl, rfl, ty40, (xlb rfl), rfl⟩, rfl, trivial⟩, ?_⟩
          first | exact ent_d2 rfl (by rw [readI, if_pos hb] <;> rfl) rfl (by rw [readI, if_pos hb] <;> rfl) | exact ent_d2 rfl (by rw [readI, if_neg hb] <;> rfl) rfl (by rw [readI, if_neg hb] <;> rfl)
        ·
         have hb : readB m := .inr (.inl (by (have h := (g00 hg5)); simpa using h))
         iterate 5 refine lskip rfl hg5 rfl ?_
         refine xlz (o_pT rfl rfl (g00 hg5) rfl rfl) ?_
         refine lendF ?_
         refine awp_condT rfl rfl rfl ?_
         refine xsr ?_
         refine xlz (o_bld rfl rfl rfl bl40 ty40 zk40 rfl rfl rfl) ?_
         refine xlz (op_storeX [.d (.str []), .d (I 0), .d (I 0), .d (I 0), .d (.list []), .d (.str []), .d (.str []), .d (.str []), .d (.bool false)] rfl rfl rfl rfl rfl rfl ty40 rfl (xlb rfl) (by kernel_rfl)) ?_
         refine las rfl rfl rfl rfl rfl ?_
         refine lendF ?_
         refine awp_ret ?_
         refine ⟨[_, _], ⟨⟨_, _, _, _, _, _, _, rfl, rfl, ty40, (xlb rfl), rfl⟩, rfl, trivial⟩, ?_⟩
         first | exact ent_d2 rfl (by rw [readI, if_pos hb] <;> rfl) rfl (by rw [readI, if_pos hb] <;> rfl) | exact ent_d2 rfl (by rw [readI, if_neg hb] <;> rfl) rfl (by rw [readI, if_neg hb] <;> rfl)

end Go.Pm

namespace Go.Pm
open Go.Proofs
set_option maxRecDepth 100000
theorem exI_len : exI.rels.length = 4 := by decide
theorem c45x : Fn PR 45 [] [] [.d exI.d] [] := c45
theorem c17x : Fn PR 17 [.d exR.d] [] [.d (.str (manX exR)), .d (I 0)] [] := by
  have h := c17 exR exR_sm
  rw [show (if checkI [exR] = 0 then manT exR else []) = manX exR from rfl, ex_man] at h; exact h
theorem c19x : Fn PR 19 [.d (.str (manX exR))] [] [.d exR.d, .d (I 0)] [] := by
  have h := c19 (manX exR) ex_len
  rw [ex_read] at h; exact h
theorem c22x : Fn PR 22 [.d exI.d] [] [.d (I 0)] [] := by
  have h := c22 exI (by rw [exI_len]; decide) exI_sm
  rw [ex_check] at h; exact h
theorem c13x : Fn PR 13 [.d exI.d, .d (reqsD exN)] [] [.d (selsD exL)] [] := by
  have h := c13 exI (by rw [exI_len]; decide) exI_sm exN exN_sm (by decide)
  rw [ex_reachL] at h; exact h
theorem c43x : Fn PR 43 [.d exI.d, .d (.str pB)] [] [.d (setD exV)] [] := by
  have h := c43 exI (by rw [exI_len]; decide) exI_sm pB
  rw [ex_avV] at h; exact h
theorem c42x : Fn PR 42 [.d (setD exV), .d (setD exV)] [] [.d (.bool true)] [] := by
  have h := c42 exV exV (by decide)
  rw [decide_eq_true rfl] at h; exact h
theorem c15s : Fn PR 15 [.d exI.d, .d (reqsD exN), .d (selsD exS)] [] [.d (I 17)] [] := by
  have h := c15 exI (by rw [exI_len]; decide) exI_sm exN exS exN_sm (by decide) (by decide)
  rw [ex_sol] at h; exact h
theorem c15g : Fn PR 15 [.d exI.d, .d (reqsD exN), .d (selsD exG)] [] [.d (I 0)] [] := by
  have h := c15 exI (by rw [exI_len]; decide) exI_sm exN exG exN_sm (by decide) (by decide)
  rw [ex_good] at h; exact h
theorem c21x : Fn PR 21 [.d exR.d, .d exR.d] [] [.d (.bool true)] [] := by
  have h := c21 exR exR (by decide) (by decide)
  rw [decide_eq_true rfl] at h; exact h
end Go.Pm

namespace Go.Pm
open Go.Proofs

set_option maxRecDepth 10000 in
set_option maxHeartbeats 4000000 in
theorem c9  : Fn PR 9 [] [] [.d (.bool true)] [] := by
 refine fn_of_awp Tryz.func9 rfl (N := 89) rfl ?_
 refine xsr ?_
 refine las rfl rfl rfl rfl rfl ?_
 refine lendF ?_
 refine xsr ?_
 refine xlz (o_call (c45x) rfl rfl rfl ca45 rfl rfl) ?_
 refine xlz (op_alloc rfl rfl (by decide) ty25 zk25 rfl) ?_
 refine xlz (op_store rfl rfl rfl rfl rfl rfl ty25 rfl (xlb rfl)) ?_
 refine lendF ?_
 refine xsr ?_
 refine xlz (o_bld rfl rfl rfl bl78 ty78 zk78 rfl rfl rfl) ?_
 refine xlz (o_bs rfl rfl rfl rfl rfl ty49 ty78 rfl rfl) ?_
 refine xlz (o_bld rfl rfl rfl bl51 ty51 zk51 rfl rfl rfl) ?_
 refine xlz (o_bs rfl rfl rfl rfl rfl ty26 ty51 rfl rfl) ?_
 refine las rfl rfl rfl rfl rfl ?_
 refine lendF ?_
 refine xsr ?_
 refine xlz (o_bld rfl rfl rfl bl38 ty38 zk38 rfl rfl rfl) ?_
 refine xlz (o_bld rfl rfl rfl bl38 ty38 zk38 rfl rfl rfl) ?_
 refine xlz (op_alloc rfl rfl (by decide) ty38 zk38 rfl) ?_
 refine xlz (op_alloc rfl rfl (by decide) ty38 zk38 rfl) ?_
 refine xlz (op_store rfl rfl rfl rfl rfl rfl ty38 rfl (xlb rfl)) ?_
 refine xlz (op_store rfl rfl rfl rfl rfl rfl ty38 rfl (xlb rfl)) ?_
 refine lendF ?_
 refine xsr ?_
 refine xlz (o_ldA rfl rfl rfl rfl ty38 rfl (xlb rfl) rfl) ?_
 refine xlz (o_bld rfl rfl rfl bl54 ty54 zk54 rfl rfl rfl) ?_
 refine xlz (o_ldA rfl rfl rfl rfl ty38 rfl (xlb rfl) rfl) ?_
 refine xlz (o_bld rfl rfl rfl bl54 ty54 zk54 rfl rfl rfl) ?_
 refine xlz (o_bs rfl rfl rfl rfl rfl ty27 ty54 rfl rfl) ?_
 refine las rfl rfl rfl rfl rfl ?_
 refine lendF ?_
 refine xsr ?_
 refine xlz (o_ldA rfl rfl rfl rfl ty38 rfl (xlb rfl) rfl) ?_
 refine xlz (o_bld rfl rfl rfl bl54 ty54 zk54 rfl rfl rfl) ?_
 refine xlz (o_ldA rfl rfl rfl rfl ty38 rfl (xlb rfl) rfl) ?_
 refine xlz (o_bld rfl rfl rfl bl54 ty54 zk54 rfl rfl rfl) ?_
 refine xlz (o_bs rfl rfl rfl rfl rfl ty27 ty54 rfl rfl) ?_
 refine las rfl rfl rfl rfl rfl ?_
 refine lendF ?_
 refine xsr ?_
 refine xlz (op_fieldP rfl rfl rfl fl25_0) ?_
 refine xlz (op_load1 rfl rfl rfl rfl ty22 rfl rfl) ?_
 refine xlz (o_ixN (0) rfl rfl rfl rfl ty22 (by first | rfl | omega | (simp; done) | (simp; omega)) (rfl : exI.rels[0]? = some exR) ty40) ?_
 refine xlz (op_loadCA rfl rfl rfl ty40 rfl (xlb rfl)) ?_
 refine xlz (o_call (c17x) rfl rfl rfl ca17 rfl rfl) ?_
 refine lmv rfl rfl rfl rfl rfl ?_
 refine xlz (op_extract rfl rfl rfl rfl) ?_
 refine xlz (op_extract rfl rfl rfl rfl) ?_
 iterate 2 refine las rfl rfl rfl rfl rfl ?_
 refine lendF ?_
 refine awp_joinX (fun _ : Unit => ⟨89, [(2, .d (reqsD exN)), (5, .d (selsD exS)), (6, .d (selsD exG)), (8, .d (I 0)), (10, .d (I 0)), (1, .ptr 1 0), (9, .ptr 9 0)], [(1, .cells [.d (relsD exI.rels), .d (.list exI.ifs)]), (9, .cells [.d (.str exR.path), .d (I exR.ver.maj), .d (I exR.ver.min), .d (I exR.ver.pat), .d (reqsD exR.reqs), .d (.str exR.arch), .d (.str exR.iface), .d (.str exR.cert), .d (.bool exR.yank)])]⟩) (fun _ : Unit => True) ?_ ?_
 ·
  refine awp_region mixed ?_
  refine lmv rfl rfl rfl rfl rfl ?_
  refine xlz (o_call (c19x) rfl rfl rfl ca19 rfl rfl) ?_
  refine lmv rfl rfl rfl rfl rfl ?_
  refine xlz (op_extract rfl rfl rfl rfl) ?_
  refine xlz (op_extract rfl rfl rfl rfl) ?_
  refine xlz (op_alloc rfl rfl (by decide) ty40 zk40 rfl) ?_
  refine xlz (op_store rfl rfl rfl rfl rfl rfl ty40 rfl (xlb rfl)) ?_
  refine las rfl rfl rfl rfl rfl ?_
  refine lendF ?_
  refine ⟨(), ?_, ?_⟩
  ·
   exact True.intro
  ·
   exact ent_k [] rfl rfl ((by repeat (first | exact .nil | refine xkc ?_))) (obs_cons rfl (o_eq rfl) (obs_cons rfl (o_eq rfl) obs_nil)) rfl
 ·
  rintro _ _
  refine xsr ?_
  refine xlz (o_ldA rfl rfl rfl rfl ty25 rfl (xlb rfl) rfl) ?_
  refine xlz (o_call (c22x) rfl rfl rfl ca22 rfl rfl) ?_
  refine xlz (op_binI rfl rfl rfl rfl rfl (.inl rfl) rfl) ?_
  refine lmv rfl rfl rfl rfl rfl ?_
  refine lsplit rfl (fun hg1 => ?_) (fun hg1 => ?_)
  ·
   refine lg (o_ldA rfl rfl rfl rfl ty25 rfl (xlb rfl) rfl) rfl hg1 rfl rfl ?_
   refine gmv hg1 rfl rfl rfl rfl rfl ?_
   refine lg (o_call (c13x) rfl rfl rfl ca13 rfl rfl) rfl hg1 rfl rfl ?_
   refine lg (o_lenE (n := exL.length) rfl rfl rfl ty27 (by simp)) rfl hg1 rfl rfl ?_
   refine lg (op_binI rfl rfl rfl rfl rfl (.inl rfl) rfl) rfl hg1 rfl rfl ?_
   refine xlz (o_pT rfl rfl (g11 hg1) rfl rfl) ?_
   refine lmv rfl rfl rfl rfl rfl ?_
   refine lsplit rfl (fun hg2 => ?_) (fun hg2 => ?_)
   ·
    refine lg (o_ldA rfl rfl rfl rfl ty25 rfl (xlb rfl) rfl) rfl hg2 rfl rfl ?_
    refine lg (o_call (c43x) rfl rfl rfl ca43 rfl rfl) rfl hg2 rfl rfl ?_
    refine lg (o_bld rfl rfl rfl bl78 ty78 zk78 rfl rfl rfl) rfl hg2 rfl rfl ?_
    refine lg (o_bld rfl rfl rfl bl78 ty78 zk78 rfl rfl rfl) rfl hg2 rfl rfl ?_
    refine lg (o_bsD rfl rfl rfl rfl rfl ty49 ty78 rfl rfl) rfl hg2 rfl rfl ?_
    refine lg (o_call (c42x) rfl rfl rfl ca42 rfl rfl) rfl hg2 rfl rfl ?_
    refine xlz (o_pT rfl rfl (g11 hg2) rfl rfl) ?_
    refine lmv rfl rfl rfl rfl rfl ?_
    refine lsplit rfl (fun hg3 => ?_) (fun hg3 => ?_)
    ·
     refine lg (o_ldA rfl rfl rfl rfl ty25 rfl (xlb rfl) rfl) rfl hg3 rfl rfl ?_
     iterate 2 refine gmv hg3 rfl rfl rfl rfl rfl ?_
     refine lg (o_call (c15s) rfl rfl rfl ca15 rfl rfl) rfl hg3 rfl rfl ?_
     refine lg (op_binI rfl rfl rfl rfl rfl (.inl rfl) rfl) rfl hg3 rfl rfl ?_
     refine xlz (o_pT rfl rfl (g11 hg3) rfl rfl) ?_
     refine lmv rfl rfl rfl rfl rfl ?_
     refine lsplit rfl (fun hg4 => ?_) (fun hg4 => ?_)
     ·
      refine lg (o_ldA rfl rfl rfl rfl ty25 rfl (xlb rfl) rfl) rfl hg4 rfl rfl ?_
      iterate 2 refine gmv hg4 rfl rfl rfl rfl rfl ?_
      refine lg (o_call (c15g) rfl rfl rfl ca15 rfl rfl) rfl hg4 rfl rfl ?_
      refine lg (op_binI rfl rfl rfl rfl rfl (.inl rfl) rfl) rfl hg4 rfl rfl ?_
      refine xlz (o_pT rfl rfl (g11 hg4) rfl rfl) ?_
      refine lmv rfl rfl rfl rfl rfl ?_
      refine lsplit rfl (fun hg5 => ?_) (fun hg5 => ?_)
      ·
       refine gmv hg5 rfl rfl rfl rfl rfl ?_
       refine lg (op_binI rfl rfl rfl rfl rfl (.inl rfl) rfl) rfl hg5 rfl rfl ?_
       refine xlz (o_pT rfl rfl (g11 hg5) rfl rfl) ?_
       refine lmv rfl rfl rfl rfl rfl ?_
       refine lsplit rfl (fun hg6 => ?_) (fun hg6 => ?_)
       ·
        refine gmv hg6 rfl rfl rfl rfl rfl ?_
        refine lg (op_binI rfl rfl rfl rfl rfl (.inl rfl) rfl) rfl hg6 rfl rfl ?_
        refine xlz (o_pT rfl rfl (g11 hg6) rfl rfl) ?_
        refine lmv rfl rfl rfl rfl rfl ?_
        refine lsplit rfl (fun hg7 => ?_) (fun hg7 => ?_)
        ·
         refine lg (o_ldA rfl rfl rfl rfl ty40 rfl (xlb rfl) rfl) rfl hg7 rfl rfl ?_
         refine lg (op_fieldP rfl rfl rfl fl25_0) rfl hg7 rfl rfl ?_
         refine lg (op_load1 rfl rfl rfl rfl ty22 rfl rfl) rfl hg7 rfl rfl ?_
         refine lg (o_ixN (0) rfl rfl rfl rfl ty22 (by first | rfl | omega | (simp; done) | (simp; omega)) (rfl : exI.rels[0]? = some exR) ty40) rfl hg7 rfl rfl ?_
         refine lg (op_loadCA rfl rfl rfl ty40 rfl (xlb rfl)) rfl hg7 rfl rfl ?_
         refine lg (o_call (c21x) rfl rfl rfl ca21 rfl rfl) rfl hg7 rfl rfl ?_
         refine xlz (o_pT rfl rfl (g11 hg7) rfl rfl) ?_
         refine las rfl rfl rfl rfl rfl ?_
         refine lend (fun _ => by kernel_rfl) ?_
         refine awp_ret ?_
         refine ⟨[_], ⟨rfl, trivial⟩, ?_⟩
         exact ent_d1 rfl rfl
        ·
         exact absurd (g10 hg7) (by decide)
       ·
        exact absurd (g10 hg6) (by decide)
      ·
       exact absurd (g10 hg5) (by decide)
     ·
      exact absurd (g10 hg4) (by decide)
    ·
     exact absurd (g10 hg3) (by decide)
   ·
    exact absurd (g10 hg2) (by decide)
  ·
   exact absurd (g10 hg1) (by decide)

end Go.Pm

namespace Go.Pm
open Go.Proofs

set_option maxRecDepth 10000 in
set_option maxHeartbeats 4000000 in
theorem c14 (x : Idx) (hl : x.rels.length < 4611686018427387904) (hr : ∀ r ∈ x.rels, r.Sm) (needs : List Req) (hq : ∀ q ∈ needs, q.Sm) (hnl : needs.length ≤ 1000000) : Fn PR 14 [.d x.d, .d (reqsD needs)] [] [.d (selsD (refI x.rels needs))] [] := by
 refine fn_of_awp Tryz.func14 rfl (N := 102) rfl ?_
 refine xsr ?_
 refine xlz (op_box rfl rfl (by decide) rfl rfl) ?_
 refine las rfl rfl rfl rfl rfl ?_
 refine lendF ?_
 refine awp_seq ?_
 refine xsr ?_
 refine xlz (o_ldA rfl rfl rfl rfl ty25 rfl (xlb rfl) rfl) ?_
 refine xlz (o_call (c49 x hl hr) rfl rfl rfl ca49 rfl rfl) ?_
 refine xlz (op_binI rfl rfl rfl rfl rfl (.inl rfl) rfl) ?_
 refine lendF ?_
 refine awp_cond rfl rfl (fun hc1 => ?_) (fun hc1 => ?_)
 ·
  have h0 : ¬ checkI x.rels = 0 := by simpa using hc1
  refine xsr ?_
  refine las rfl rfl rfl rfl rfl ?_
  refine lendF ?_
  refine awp_ret ?_
  refine ⟨[_], ⟨rfl, trivial⟩, ?_⟩
  exact ent_d1 rfl (by rw [refI_no h0]; rfl)
 ·
  have h0 : checkI x.rels = 0 := by simpa using hc1
  have h256 := checkI_len h0
  refine awp_skip ?_
  refine xsr ?_
  refine xlz (op_fieldP rfl rfl rfl fl25_0) ?_
  refine xlz (op_load1 rfl rfl rfl rfl ty22 rfl rfl) ?_
  refine xlz (o_lenE (n := x.rels.length) rfl rfl rfl ty22 (by simp)) ?_
  refine xlz (op_mkR (n := x.rels.length) (zd := .bool false) rfl rfl rfl rfl rfl ty88 ty4 (fun M w => .bool false) rfl (by decide) (by omega) (by omega) rfl (by decide)) ?_
  refine las rfl rfl rfl rfl rfl ?_
  refine lendF ?_
  refine xsr ?_
  refine las rfl rfl rfl rfl rfl ?_
  refine lendF ?_
  refine awp_seq ?_
  refine awp_block ?_
  refine awp_loop (fun v => ⟨102, [(5, .arr 18 1 0 x.rels.length), (6, .d (.bool v.2)), (1, .d (reqsD needs)), (2, .ptr 2 0)], [(18, .arr 1 (v.1.map .bool)), (2, .cells [.d (relsD x.rels), .d (.list x.ifs)])]⟩) (fun v => 2 * cf v.1 + (if v.2 then 1 else 0)) (fun v => BOK x.rels needs v.1 ∧ (v.2 = false → Cl x.rels needs v.1 x.rels.length)) (List.replicate x.rels.length false, true) ?_ ?_ ?_
  ·
   exact ent_k [] rfl rfl ((by repeat (first | exact .nil | refine xkc ?_))) (obs_cons rfl (o_eq (by show Ob.arr 1 _ = Ob.arr 1 _; rw [List.map_replicate])) (obs_cons rfl (o_eq rfl) obs_nil)) rfl
  ·
   exact ⟨bok_zero _ _, fun h => by cases h⟩
  ·
   rintro ⟨b, ch⟩ ⟨hB, hC⟩
   dsimp only at hB hC ⊢
   refine awp_seq ?_
   refine xsr ?_
   refine lmv rfl rfl rfl rfl rfl ?_
   refine lendF ?_
   refine awp_cond rfl rfl (fun hc2 => ?_) (fun hc2 => ?_)
   ·
    have hch : ch = true := hc2
    refine awp_skip ?_
    refine awp_block ?_
    refine xsr ?_
    refine las rfl rfl rfl rfl rfl ?_
    refine lendF ?_
    refine xsr ?_
    refine las rfl rfl rfl rfl rfl ?_
    refine lendF ?_
    refine awp_block ?_
    refine awp_loop (fun u => ⟨102, [(7, .d (I (u.1 : Nat))), (6, .d (.bool u.2.2)), (5, .arr 18 1 0 x.rels.length), (1, .d (reqsD needs)), (2, .ptr 2 0), (19, .d (.bool ch))], [(18, .arr 1 (u.2.1.map .bool)), (2, .cells [.d (relsD x.rels), .d (.list x.ifs)])]⟩) (fun u => x.rels.length - u.1) (fun u => u.1 ≤ x.rels.length ∧ BOK x.rels needs u.2.1 ∧ (u.2.2 = false → Cl x.rels needs u.2.1 u.1) ∧ cf u.2.1 + (if u.2.2 then 1 else 0) ≤ cf b) (0, b, false) ?_ ?_ ?_
    ·
     exact ent_k [] rfl rfl ((by repeat (first | exact .nil | refine xkc ?_))) (obs_cons rfl (o_eq rfl) (obs_cons rfl (o_eq rfl) obs_nil)) rfl
    ·
     exact ⟨Nat.zero_le _, hB, fun _ i z hi => absurd hi (Nat.not_lt_zero _), by simp⟩
    ·
     rintro ⟨i, d, c⟩ ⟨hi, hD, hE, hF⟩
     dsimp only at hi hD hE hF ⊢
     refine awp_seq ?_
     refine xsr ?_
     refine lmv rfl rfl rfl rfl rfl ?_
     refine xlz (op_fieldP rfl rfl rfl fl25_0) ?_
     refine xlz (op_load1 rfl rfl rfl rfl ty22 rfl rfl) ?_
     refine xlz (o_lenE (n := x.rels.length) rfl rfl rfl ty22 (by simp)) ?_
     refine xlz (op_binI rfl rfl rfl rfl rfl (.inl rfl) rfl) ?_
     refine lendF ?_
     refine awp_cond rfl rfl (fun hc3 => ?_) (fun hc3 => ?_)
     ·
      obtain ⟨z, hn⟩ := rng_lt (l := x.rels) (by simpa using hc3)
      have hil := rng_le hn
      have hmem := List.mem_of_getElem? hn
      obtain ⟨bi, hbi⟩ : ∃ t, d[i]? = some t := ⟨_, List.getElem?_eq_getElem (by rw [hD.len]; exact hil)⟩
      refine awp_skip ?_
      refine awp_seq ?_
      refine awp_block ?_
      refine xsr ?_
      refine lmv rfl rfl rfl rfl rfl ?_
      refine xlz (op_fieldP rfl rfl rfl fl25_0) ?_
      refine xlz (op_load1 rfl rfl rfl rfl ty22 rfl rfl) ?_
      refine lmv rfl rfl rfl rfl rfl ?_
      refine xlz (o_ixN (i) rfl rfl rfl rfl ty22 (by first | rfl | omega | (simp; done) | (simp; omega)) hn ty40) ?_
      refine xlz (op_loadCA rfl rfl rfl ty40 rfl (xlb rfl)) ?_
      refine xlz (o_call (c50 needs z (checkI_ver h0 z hmem) (by omega) (fun q hm => by have := (hq q hm).set; omega)) rfl rfl rfl ca50 rfl rfl) ?_
      refine las rfl rfl rfl rfl rfl ?_
      refine lendF ?_
      refine awp_seq ?_
      refine xsr ?_
      refine las rfl rfl rfl rfl rfl ?_
      refine lendF ?_
      refine awp_block ?_
      refine awp_loop (fun k => ⟨102, [(9, .d (I (k : Nat))), (8, .d (.bool (anyReaches needs z || rk d x.rels z k))), (5, .arr 18 1 0 x.rels.length), (1, .d (reqsD needs)), (2, .ptr 2 0), (6, .d (.bool c)), (7, .d (I (i : Nat))), (19, .d (.bool ch)), (20, .d (I (i : Nat))), (21, .ptr 2 0), (22, .d (relsD x.rels)), (23, .d (I x.rels.length)), (27, .d (reqsD needs)), (28, .ptr 2 0), (29, .d (relsD x.rels)), (30, .d (I (i : Nat))), (32, .d (.agg [.str z.path, I z.ver.maj, I z.ver.min, I z.ver.pat, reqsD z.reqs, .str z.arch, .str z.iface, .str z.cert, .bool z.yank])), (33, .d (.bool (anyReaches needs z)))], [(2, .cells [.d (relsD x.rels), .d (.list x.ifs)]), (18, .arr 1 (d.map .bool))]⟩) (fun k => x.rels.length - k) (fun k => k ≤ x.rels.length) 0 ?_ ?_ ?_
      ·
       exact ent_k [] rfl rfl (xkc <| .cons rfl (k_b (by simp [rk])) <| (by repeat (first | exact .nil | refine xkc ?_))) (obs_cons rfl (o_eq rfl) (obs_cons rfl (o_eq rfl) obs_nil)) rfl
      ·
       exact Nat.zero_le _
      ·
       rintro k hk
       refine awp_seq ?_
       refine xsr ?_
       refine lmv rfl rfl rfl rfl rfl ?_
       refine xlz (op_fieldP rfl rfl rfl fl25_0) ?_
       refine xlz (op_load1 rfl rfl rfl rfl ty22 rfl rfl) ?_
       refine xlz (o_lenE (n := x.rels.length) rfl rfl rfl ty22 (by simp)) ?_
       refine xlz (op_binI rfl rfl rfl rfl rfl (.inl rfl) rfl) ?_
       refine lendF ?_
       refine awp_cond rfl rfl (fun hc4 => ?_) (fun hc4 => ?_)
       ·
        obtain ⟨w, hw⟩ := rng_lt (l := x.rels) (by simpa using hc4)
        have hkl := rng_le hw
        have hwm := List.mem_of_getElem? hw
        obtain ⟨bk, hb⟩ : ∃ t, d[k]? = some t := ⟨_, List.getElem?_eq_getElem (by rw [hD.len]; exact hkl)⟩
        refine awp_skip ?_
        refine awp_seq ?_
        refine awp_block ?_
        refine awp_region mixed ?_
        iterate 2 refine lmv rfl rfl rfl rfl rfl ?_
        refine lsplit rfl (fun hg5 => ?_) (fun hg5 => ?_)
        ·
         have hrc : (anyReaches needs z || rk d x.rels z k) = false := by (have h := (g01 hg5)); simpa using h
         iterate 2 refine gmv hg5 rfl rfl rfl rfl rfl ?_
         refine lg (o_ixR' (k) rfl rfl rfl rfl ty88 ty4 (by first | rfl | omega | (simp; done) | (simp; omega)) hkl (Nat.zero_add _).symm) rfl hg5 rfl rfl ?_
         refine lg (op_loadE1 rfl rfl rfl rfl (bget hb) ty4 rfl rfl) rfl hg5 rfl rfl ?_
         refine gmv hg5 rfl rfl rfl rfl rfl ?_
         refine lsplit rfl (fun hg6 => ?_) (fun hg6 => ?_)
         ·
          have hbk : bk = true := by (have h := (g11 hg6)); simpa using h
          refine lg (op_fieldP rfl rfl rfl fl25_0) rfl hg6 rfl rfl ?_
          refine lg (op_load1 rfl rfl rfl rfl ty22 rfl rfl) rfl hg6 rfl rfl ?_
          refine gmv hg6 rfl rfl rfl rfl rfl ?_
          refine lg (o_ixN (k) rfl rfl rfl rfl ty22 (by first | rfl | omega | (simp; done) | (simp; omega)) hw ty40) rfl hg6 rfl rfl ?_
          refine lg (op_fieldC rfl rfl rfl fl40_2) rfl hg6 rfl rfl ?_
          refine lg (op_loadC1 rfl rfl rfl ty26 rfl rfl) rfl hg6 rfl rfl ?_
          refine lg (op_fieldP rfl rfl rfl fl25_0) rfl hg6 rfl rfl ?_
          refine lg (op_load1 rfl rfl rfl rfl ty22 rfl rfl) rfl hg6 rfl rfl ?_
          refine gmv hg6 rfl rfl rfl rfl rfl ?_
          refine lg (o_ixN (i) rfl rfl rfl rfl ty22 (by first | rfl | omega | (simp; done) | (simp; omega)) hn ty40) rfl hg6 rfl rfl ?_
          refine lg (op_loadCA rfl rfl rfl ty40 rfl (xlb rfl)) rfl hg6 rfl rfl ?_
          refine lg (o_call (c50 w.reqs z (checkI_ver h0 z hmem) (by have := (hr w hwm).len; exact this) (fun q hm => by have := ((hr w hwm).reqs q hm).set; omega)) rfl rfl rfl ca50 rfl rfl) rfl hg6 rfl rfl ?_
          refine lg (o_pT rfl rfl (g11 hg6) rfl rfl) rfl hg5 rfl rfl ?_
          refine xlz (o_pF rfl rfl (g01 hg5) rfl rfl) ?_
          refine las rfl rfl rfl rfl rfl ?_
          refine lend (fun _ => by kernel_rfl) ?_
          refine awp_region mixed ?_
          refine lmv rfl rfl rfl rfl rfl ?_
          refine xlz (o_add rfl rfl rfl rfl (by first | omega | (simp; omega) | (simp at *; omega))) ?_
          refine las rfl rfl rfl rfl rfl ?_
          refine lendF ?_
          refine ⟨k + 1, ?_, ?_, ?_⟩
          ·
           exact rng_le hw
          ·
           exact ent_k [] rfl rfl (xkc <| .cons rfl (k_b (by rw [rk_succ hb hw, ← Bool.or_assoc, hrc]; first | rfl | (rw [hbk]; first | rfl | simp))) <| (by repeat (first | exact .nil | refine xkc ?_))) (obs_cons rfl (o_eq rfl) (obs_cons rfl (o_eq rfl) obs_nil)) rfl
          ·
           omega
         ·
          have hbk : bk = false := by (have h := (g10 hg6)); simpa using h
          iterate 12 refine lskip rfl hg6 rfl ?_
          refine lg (o_pF rfl rfl (g10 hg6) rfl rfl) rfl hg5 rfl rfl ?_
          refine xlz (o_pF rfl rfl (g01 hg5) rfl rfl) ?_
          refine las rfl rfl rfl rfl rfl ?_
          refine lend (fun _ => by kernel_rfl) ?_
          refine awp_region mixed ?_
          refine lmv rfl rfl rfl rfl rfl ?_
          refine xlz (o_add rfl rfl rfl rfl (by first | omega | (simp; omega) | (simp at *; omega))) ?_
          refine las rfl rfl rfl rfl rfl ?_
          refine lendF ?_
          refine ⟨k + 1, ?_, ?_, ?_⟩
          ·
           exact rng_le hw
          ·
           exact ent_k [] rfl rfl (xkc <| .cons rfl (k_b (by rw [rk_succ hb hw, ← Bool.or_assoc, hrc]; first | rfl | (rw [hbk]; first | rfl | simp))) <| (by repeat (first | exact .nil | refine xkc ?_))) (obs_cons rfl (o_eq rfl) (obs_cons rfl (o_eq rfl) obs_nil)) rfl
          ·
           omega
        ·
         have hrc : (anyReaches needs z || rk d x.rels z k) = true := by (have h := (g00 hg5)); simpa using h
         iterate 5 refine lskip rfl hg5 rfl ?_
         iterate 12 refine lskip rfl rfl rfl ?_
         refine lskip rfl hg5 rfl ?_
         refine xlz (o_pT rfl rfl (g00 hg5) rfl rfl) ?_
         refine las rfl rfl rfl rfl rfl ?_
         refine lend (fun _ => by kernel_rfl) ?_
         refine awp_region mixed ?_
         refine lmv rfl rfl rfl rfl rfl ?_
         refine xlz (o_add rfl rfl rfl rfl (by first | omega | (simp; omega) | (simp at *; omega))) ?_
         refine las rfl rfl rfl rfl rfl ?_
         refine lendF ?_
         refine ⟨k + 1, ?_, ?_, ?_⟩
         ·
          exact rng_le hw
         ·
          exact ent_k [] rfl rfl (xkc <| .cons rfl (k_b (by rw [rk_succ hb hw, ← Bool.or_assoc, hrc]; first | rfl | (rw [hbk]; first | rfl | simp))) <| (by repeat (first | exact .nil | refine xkc ?_))) (obs_cons rfl (o_eq rfl) (obs_cons rfl (o_eq rfl) obs_nil)) rfl
         ·
          omega
       ·
        obtain rfl := rng_ge (l := x.rels) (by simpa using hc4) hk
        refine awp_exit ?_
        refine xsr ?_
        iterate 2 refine lmv rfl rfl rfl rfl rfl ?_
        refine lsplit rfl (fun hg7 => ?_) (fun hg7 => ?_)
        ·
         have hg : got x.rels needs d z = true := by (have h := (g11 hg7)); simpa [got] using h
         iterate 2 refine gmv hg7 rfl rfl rfl rfl rfl ?_
         refine lg (o_ixR' (i) rfl rfl rfl rfl ty88 ty4 (by first | rfl | omega | (simp; done) | (simp; omega)) hil (Nat.zero_add _).symm) rfl hg7 rfl rfl ?_
         refine lg (op_loadE1 rfl rfl rfl rfl (bget hbi) ty4 rfl rfl) rfl hg7 rfl rfl ?_
         refine lg (op_not rfl rfl rfl) rfl hg7 rfl rfl ?_
         refine xlz (o_pT rfl rfl (g11 hg7) rfl rfl) ?_
         refine lendF ?_
         refine awp_cond rfl rfl (fun hc8 => ?_) (fun hc8 => ?_)
         ·
          have hbf : bi = false := by simpa using hc8
          refine xsr ?_
          iterate 2 refine lmv rfl rfl rfl rfl rfl ?_
          refine xlz (o_ixR' (i) rfl rfl rfl rfl ty88 ty4 (by first | rfl | omega | (simp; done) | (simp; omega)) hil (Nat.zero_add _).symm) ?_
          refine xlz (op_storeE rfl rfl rfl rfl (bget hbi) rfl rfl rfl ty4 rfl rfl rfl) ?_
          refine lendF ?_
          refine awp_region mixed ?_
          refine las rfl rfl rfl rfl rfl ?_
          refine lendF ?_
          refine awp_region mixed ?_
          refine lmv rfl rfl rfl rfl rfl ?_
          refine xlz (o_add rfl rfl rfl rfl (by first | omega | (simp; omega) | (simp at *; omega))) ?_
          refine las rfl rfl rfl rfl rfl ?_
          refine lendF ?_
          refine ⟨(i + 1, d.set i true, true), ?_, ?_, ?_⟩
          ·
           subst hbf
           exact ⟨hil, bok_set hD hn (got_rch hD hmem hg), fun h => (by cases h), by have h1 := cf_set hbi; have h2 : cf d ≤ cf b := Nat.le_trans (Nat.le_add_right _ _) hF; show cf (d.set i true) + 1 ≤ cf b; omega⟩
          ·
           exact ent_k [] rfl rfl ((by repeat (first | exact .nil | refine xkc ?_))) (obs_cons rfl (o_eq (by show Ob.arr 1 _ = Ob.arr 1 _; rw [List.map_set]; rfl)) (obs_cons rfl (o_eq rfl) obs_nil)) rfl
          ·
           show x.rels.length - (i + 1) < x.rels.length - i
           omega
         ·
          have hbt : bi = true := by simpa using hc8
          refine awp_skip ?_
          refine awp_region mixed ?_
          refine lmv rfl rfl rfl rfl rfl ?_
          refine xlz (o_add rfl rfl rfl rfl (by first | omega | (simp; omega) | (simp at *; omega))) ?_
          refine las rfl rfl rfl rfl rfl ?_
          refine lendF ?_
          refine ⟨(i + 1, d, c), ?_, ?_, ?_⟩
          ·
           subst hbt
           exact ⟨hil, hD, fun h => cl_step (hE h) hn (fun _ => hbi), hF⟩
          ·
           exact ent_k [] rfl rfl ((by repeat (first | exact .nil | refine xkc ?_))) (obs_cons rfl (o_eq rfl) (obs_cons rfl (o_eq rfl) obs_nil)) rfl
          ·
           show x.rels.length - (i + 1) < x.rels.length - i
           omega
        ·
         have hg : got x.rels needs d z = false := by (have h := (g10 hg7)); simpa [got] using h
         iterate 5 refine lskip rfl hg7 rfl ?_
         refine xlz (o_pF rfl rfl (g10 hg7) rfl rfl) ?_
         refine lendF ?_
         refine awp_condF rfl rfl rfl ?_
         refine awp_skip ?_
         refine awp_region mixed ?_
         refine lmv rfl rfl rfl rfl rfl ?_
         refine xlz (o_add rfl rfl rfl rfl (by first | omega | (simp; omega) | (simp at *; omega))) ?_
         refine las rfl rfl rfl rfl rfl ?_
         refine lendF ?_
         refine ⟨(i + 1, d, c), ?_, ?_, ?_⟩
         ·
          exact ⟨hil, hD, fun h => cl_step (hE h) hn (fun h2 => absurd h2 (by simp [hg])), hF⟩
         ·
          exact ent_k [] rfl rfl ((by repeat (first | exact .nil | refine xkc ?_))) (obs_cons rfl (o_eq rfl) (obs_cons rfl (o_eq rfl) obs_nil)) rfl
         ·
          show x.rels.length - (i + 1) < x.rels.length - i
          omega
     ·
      obtain rfl := rng_ge (l := x.rels) (by simpa using hc3) hi
      refine awp_exit ?_
      refine ⟨(d, c), ?_, ?_, ?_⟩
      ·
       exact ⟨hD, hE⟩
      ·
       exact ent_k [] rfl rfl ((by repeat (first | exact .nil | refine xkc ?_))) (obs_cons rfl (o_eq rfl) (obs_cons rfl (o_eq rfl) obs_nil)) rfl
      ·
       subst hch
       show 2 * cf d + (if c = true then 1 else 0) < 2 * cf b + 1
       split <;> simp_all <;> omega
   ·
    have hch : ch = false := hc2
    have hR := cl_rch hB (hC hch)
    refine awp_exit ?_
    refine xsr ?_
    refine xlz (o_bs rfl rfl rfl rfl rfl ty27 ty54 rfl rfl) ?_
    refine las rfl rfl rfl rfl rfl ?_
    refine lendF ?_
    refine awp_seq ?_
    refine xsr ?_
    refine las rfl rfl rfl rfl rfl ?_
    refine lendF ?_
    refine awp_block ?_
    refine awp_ent (ent_tail 10 500010 4 rfl rfl rfl (by decide)) ?_
    refine awp_loop (fun j => ⟨102, [(10, .tl (((x.rels.take j).filter (rchB x.rels needs)).map (fun r => r.sel.d)) (some 500010)), (11, .d (I (j : Nat))), (5, .arr 18 1 0 x.rels.length), (2, .ptr 2 0)], [(500010, .tail 4), (2, .cells [.d (relsD x.rels), .d (.list x.ifs)]), (18, .arr 1 (b.map .bool))]⟩) (fun j => x.rels.length - j) (fun j => j ≤ x.rels.length) 0 ?_ ?_ ?_
    ·
     exact ent_k [] rfl rfl ((by repeat (first | exact .nil | refine xkc ?_))) (obs_cons rfl (o_eq rfl) (obs_cons rfl (o_eq rfl) (obs_cons rfl (o_eq rfl) obs_nil))) rfl
    ·
     exact Nat.zero_le _
    ·
     rintro j hj
     refine awp_seq ?_
     refine xsr ?_
     refine lmv rfl rfl rfl rfl rfl ?_
     refine xlz (op_fieldP rfl rfl rfl fl25_0) ?_
     refine xlz (op_load1 rfl rfl rfl rfl ty22 rfl rfl) ?_
     refine xlz (o_lenE (n := x.rels.length) rfl rfl rfl ty22 (by simp)) ?_
     refine xlz (op_binI rfl rfl rfl rfl rfl (.inl rfl) rfl) ?_
     refine lendF ?_
     refine awp_cond rfl rfl (fun hc10 => ?_) (fun hc10 => ?_)
     ·
      obtain ⟨y, hm⟩ := rng_lt (l := x.rels) (by simpa using hc10)
      have hjl := rng_le hm
      obtain ⟨bj, hbj⟩ : ∃ t, b[j]? = some t := ⟨_, List.getElem?_eq_getElem (by rw [hB.len]; exact hjl)⟩
      refine awp_skip ?_
      refine awp_seq ?_
      refine awp_block ?_
      refine xsr ?_
      iterate 2 refine lmv rfl rfl rfl rfl rfl ?_
      refine xlz (o_ixR' (j) rfl rfl rfl rfl ty88 ty4 (by first | rfl | omega | (simp; done) | (simp; omega)) hjl (Nat.zero_add _).symm) ?_
      refine xlz (op_loadE1 rfl rfl rfl rfl (bget hbj) ty4 rfl rfl) ?_
      refine lendF ?_
      refine awp_cond rfl rfl (fun hc11 => ?_) (fun hc11 => ?_)
      ·
       have hyr : rchB x.rels needs y = true := rchB_iff.2 ((hR j y hm).1 (by have h : bj = true := hc11; rw [hbj, h]))
       refine awp_region mixed ?_
       refine lmv rfl rfl rfl rfl rfl ?_
       refine xlz (op_fieldP rfl rfl rfl fl25_0) ?_
       refine xlz (op_load1 rfl rfl rfl rfl ty22 rfl rfl) ?_
       refine lmv rfl rfl rfl rfl rfl ?_
       refine xlz (o_ixN (j) rfl rfl rfl rfl ty22 (by first | rfl | omega | (simp; done) | (simp; omega)) hm ty40) ?_
       refine xlz (op_fieldC rfl rfl rfl fl40_0) ?_
       refine xlz (op_loadC1 rfl rfl rfl ty9 rfl rfl) ?_
       refine xlz (op_fieldP rfl rfl rfl fl25_0) ?_
       refine xlz (op_load1 rfl rfl rfl rfl ty22 rfl rfl) ?_
       refine lmv rfl rfl rfl rfl rfl ?_
       refine xlz (o_ixN (j) rfl rfl rfl rfl ty22 (by first | rfl | omega | (simp; done) | (simp; omega)) hm ty40) ?_
       refine xlz (op_fieldC rfl rfl rfl fl40_1) ?_
       refine xlz (op_loadCA rfl rfl rfl ty38 rfl (xlb rfl)) ?_
       refine xlz (o_bld rfl rfl rfl bl54 ty54 zk54 rfl rfl rfl) ?_
       refine xlz (o_bs rfl rfl rfl rfl rfl ty27 ty54 rfl rfl) ?_
       refine xlz (o_app rfl rfl (by decide) rfl rfl rfl ty27 ty54 rfl (by decide) rfl (by intro d hd; obtain ⟨x, _, rfl⟩ := List.mem_map.1 hd; rfl) (by simp [D.cells]) (by have := List.length_filter_le (rchB x.rels needs) (x.rels.take j); simp at this ⊢; omega) (by decide) rfl) ?_
       refine las rfl rfl rfl rfl rfl ?_
       refine lend (fun _ => by kernel_rfl) ?_
       refine awp_region mixed ?_
       refine lmv rfl rfl rfl rfl rfl ?_
       refine xlz (o_add rfl rfl rfl rfl (by first | omega | (simp; omega) | (simp at *; omega))) ?_
       refine las rfl rfl rfl rfl rfl ?_
       refine lendF ?_
       refine ⟨j + 1, ?_, ?_, ?_⟩
       ·
        exact rng_le hm
       ·
        exact ent_k [(500010, 100)] rfl rfl (.cons rfl (k_tl rfl (by rw [take_succ hm, List.filter_append]; simp [hyr])) <| .cons rfl (k_i (by simp)) <| by repeat (first | exact .nil | refine .cons rfl (by first | exact k_eq rfl | exact .data rfl) ?_)) (by repeat (first | exact obs_nil | refine obs_cons rfl (o_eq rfl) ?_)) rfl
       ·
        omega
      ·
       have hyr : rchB x.rels needs y = false := by (have h : bj = false := hc11); refine Bool.eq_false_iff.2 fun hx => ?_; have := (hR j y hm).2 (rchB_iff.1 hx); rw [hbj, h] at this; cases this
       refine awp_skip ?_
       refine awp_region mixed ?_
       refine lmv rfl rfl rfl rfl rfl ?_
       refine xlz (o_add rfl rfl rfl rfl (by first | omega | (simp; omega) | (simp at *; omega))) ?_
       refine las rfl rfl rfl rfl rfl ?_
       refine lendF ?_
       refine ⟨j + 1, ?_, ?_, ?_⟩
       ·
        exact rng_le hm
       ·
        exact ent_k [] rfl rfl (.cons rfl (k_tl rfl (by rw [take_succ hm, List.filter_append]; simp [hyr])) <| .cons rfl (k_i (by simp)) <| by repeat (first | exact .nil | refine .cons rfl (by first | exact k_eq rfl | exact .data rfl) ?_)) (by repeat (first | exact obs_nil | refine obs_cons rfl (o_eq rfl) ?_)) rfl
       ·
        omega
     ·
      obtain rfl := rng_ge (l := x.rels) (by simpa using hc10) hj
      refine awp_exit ?_
      refine xsr ?_
      refine lmv rfl rfl rfl rfl rfl ?_
      refine las rfl rfl rfl rfl rfl ?_
      refine lendF ?_
      refine awp_ret ?_
      refine ⟨[_], ⟨rfl, trivial⟩, ?_⟩
      exact ent_d1 rfl (by rw [List.take_length, refI_yes h0]; unfold selsD; rw [List.map_map]; rfl)

end Go.Pm

namespace Go.Pm
open Go.Proofs

set_option maxRecDepth 10000 in
set_option maxHeartbeats 4000000 in
theorem c16 (x : Idx) (hl : x.rels.length ≤ 1000000) (hr : ∀ r ∈ x.rels, r.Sm) (needs : List Req) (ss : List Sel) (hq : ∀ q ∈ needs, q.Sm) (hnl : needs.length ≤ 1000000) (hs : ss.length ≤ 256) : Fn PR 16 [.d x.d, .d (reqsD needs), .d (selsD ss)] [] [.d (I (refSol x needs ss))] [] := by
 refine fn_of_awp Tryz.func16 rfl (N := 87) rfl ?_
 refine xsr ?_
 refine xlz (op_box rfl rfl (by decide) rfl rfl) ?_
 refine las rfl rfl rfl rfl rfl ?_
 refine lendF ?_
 refine awp_seq ?_
 refine xsr ?_
 refine xlz (o_ldA rfl rfl rfl rfl ty25 rfl (xlb rfl) rfl) ?_
 refine xlz (o_call (c49 x (by omega) hr) rfl rfl rfl ca49 rfl rfl) ?_
 refine xlz (op_binI rfl rfl rfl rfl rfl (.inl rfl) rfl) ?_
 refine lmv rfl rfl rfl rfl rfl ?_
 refine lsplit rfl (fun hg1 => ?_) (fun hg1 => ?_)
 ·
  have h0 : checkI x.rels = 0 := by (have h := (g01 hg1)); simpa using h
  refine gmv hg1 rfl rfl rfl rfl rfl ?_
  refine lg (o_call (c53 ss (by omega)) rfl rfl rfl ca53 rfl rfl) rfl hg1 rfl rfl ?_
  refine lg (op_not rfl rfl rfl) rfl hg1 rfl rfl ?_
  refine xlz (o_pF rfl rfl (g01 hg1) rfl rfl) ?_
  refine lendF ?_
  refine awp_cond rfl rfl (fun hc2 => ?_) (fun hc2 => ?_)
  ·
   have hbad : checkI x.rels ≠ 0 ∨ incr ss = false := .inr (by (have h := hc2); simpa using h)
   refine xsr ?_
   refine las rfl rfl rfl rfl rfl ?_
   refine lendF ?_
   refine awp_ret ?_
   refine ⟨[_], ⟨rfl, trivial⟩, ?_⟩
   first | exact ent_i rfl (refSol_1 hbad).symm | exact ent_i rfl (refSol_6 hgood hno).symm | exact ent_i rfl (refSol_17 hgood hyes h17).symm | exact ent_i rfl ((refSol_8 hgood hyes hall).trans (if_pos hne)).symm | exact ent_i rfl ((refSol_8 hgood hyes hall).trans (if_neg hne)).symm
  ·
   have hin : incr ss = true := by (have h := hc2); simpa using h
   have hgood : ¬ (checkI x.rels ≠ 0 ∨ incr ss = false) := by simp [h0, hin]
   have hgk : getR x = getK x.rels := getR_getK h0
   refine awp_skip ?_
   refine xsr ?_
   refine xlz (o_bs rfl rfl rfl rfl rfl ty22 ty40 rfl rfl) ?_
   refine las rfl rfl rfl rfl rfl ?_
   refine lendF ?_
   refine awp_seq ?_
   refine xsr ?_
   refine las rfl rfl rfl rfl rfl ?_
   refine lendF ?_
   refine awp_block ?_
   refine awp_ent (ent_tail 7 500007 9 rfl rfl rfl (by decide)) ?_
   refine awp_loop (fun i => ⟨87, [(7, .tl (((ss.take i).map (getR x)).map Rls.d) (some 500007)), (8, .d (I (i : Nat))), (1, .d (reqsD needs)), (2, .d (selsD ss)), (3, .ptr 3 0)], [(500007, .tail 9), (3, .cells [.d (relsD x.rels), .d (.list x.ifs)])]⟩) (fun i => ss.length - i) (fun i => i ≤ ss.length ∧ (ss.take i).all (hasK x.rels) = true) 0 ?_ ?_ ?_
   ·
    exact ent_k [] rfl rfl ((by repeat (first | exact .nil | refine xkc ?_))) (obs_cons rfl (o_eq rfl) (obs_cons rfl (o_eq rfl) obs_nil)) rfl
   ·
    exact ⟨Nat.zero_le _, rfl⟩
   ·
    rintro i ⟨hi, hA⟩
    refine awp_seq ?_
    refine xsr ?_
    iterate 2 refine lmv rfl rfl rfl rfl rfl ?_
    refine xlz (o_lenE (n := ss.length) rfl rfl rfl ty27 (by simp)) ?_
    refine xlz (op_binI rfl rfl rfl rfl rfl (.inl rfl) rfl) ?_
    refine lendF ?_
    refine awp_cond rfl rfl (fun hc3 => ?_) (fun hc3 => ?_)
    ·
     obtain ⟨y, hn⟩ := rng_lt (l := ss) (by simpa using hc3)
     have hil := rng_le hn
     refine awp_skip ?_
     refine awp_seq ?_
     refine awp_block ?_
     refine xsr ?_
     refine xlz (o_ldA rfl rfl rfl rfl ty25 rfl (xlb rfl) rfl) ?_
     iterate 2 refine lmv rfl rfl rfl rfl rfl ?_
     refine xlz (o_ixN (i) rfl rfl rfl rfl ty27 (by first | rfl | omega | (simp; done) | (simp; omega)) hn ty54) ?_
     refine xlz (op_fieldC rfl rfl rfl fl54_0) ?_
     refine xlz (op_loadC1 rfl rfl rfl ty9 rfl rfl) ?_
     iterate 2 refine lmv rfl rfl rfl rfl rfl ?_
     refine xlz (o_ixN (i) rfl rfl rfl rfl ty27 (by first | rfl | omega | (simp; done) | (simp; omega)) hn ty54) ?_
     refine xlz (op_fieldC rfl rfl rfl fl54_1) ?_
     refine xlz (op_loadCA rfl rfl rfl ty38 rfl (xlb rfl)) ?_
     refine xlz (o_call (c35 x (by omega) hr y.path y.ver) rfl rfl rfl ca35 rfl rfl) ?_
     refine lmv rfl rfl rfl rfl rfl ?_
     refine xlz (op_extract rfl rfl rfl rfl) ?_
     refine xlz (op_extract rfl rfl rfl rfl) ?_
     refine xlz (op_alloc rfl rfl (by decide) ty40 zk40 rfl) ?_
     refine xlz (op_store rfl rfl rfl rfl rfl rfl ty40 rfl (xlb rfl)) ?_
     refine las rfl rfl rfl rfl rfl ?_
     refine lend (fun _ => by kernel_rfl) ?_
     refine awp_seq ?_
     refine xsr ?_
     refine lmv rfl rfl rfl rfl rfl ?_
     refine xlz (op_not rfl rfl rfl) ?_
     refine lendF ?_
     refine awp_cond rfl rfl (fun hc4 => ?_) (fun hc4 => ?_)
     ·
      have hno : ss.all (hasK x.rels) = false := all_no hn (by (have h := hc4); simpa [okR_yes h0, hasK] using h)
      refine xsr ?_
      refine las rfl rfl rfl rfl rfl ?_
      refine lendF ?_
      refine awp_ret ?_
      refine ⟨[_], ⟨rfl, trivial⟩, ?_⟩
      first | exact ent_i rfl (refSol_1 hbad).symm | exact ent_i rfl (refSol_6 hgood hno).symm | exact ent_i rfl (refSol_17 hgood hyes h17).symm | exact ent_i rfl ((refSol_8 hgood hyes hall).trans (if_pos hne)).symm | exact ent_i rfl ((refSol_8 hgood hyes hall).trans (if_neg hne)).symm
     ·
      have hyk : hasK x.rels y = true := by (have h := hc4); simpa [okR_yes h0, hasK] using h
      refine awp_skip ?_
      refine awp_region mixed ?_
      refine lmv rfl rfl rfl rfl rfl ?_
      refine xlz (o_ldA rfl rfl rfl rfl ty40 rfl (xlb rfl) rfl) ?_
      refine xlz (o_bs rfl rfl rfl rfl rfl ty22 ty40 rfl rfl) ?_
      refine xlz (o_app rfl rfl (by decide) rfl rfl rfl ty22 ty40 rfl (by decide) rfl (by intro d hd; obtain ⟨x, _, rfl⟩ := List.mem_map.1 hd; rfl) (by first | (simp [D.cells]; done) | (intro d hd; obtain ⟨x, _, rfl⟩ := List.mem_map.1 hd; rfl)) (by simp; omega) (by decide) (show _ = ((ss.take (i + 1)).map (getR x)).map Rls.d from by rw [take_succ hn]; simp)) ?_
      refine las rfl rfl rfl rfl rfl ?_
      refine lendF ?_
      refine awp_region mixed ?_
      refine lmv rfl rfl rfl rfl rfl ?_
      refine xlz (o_add rfl rfl rfl rfl (by first | omega | (simp; omega) | (simp at *; omega))) ?_
      refine las rfl rfl rfl rfl rfl ?_
      refine lendF ?_
      refine ⟨i + 1, ?_, ?_, ?_⟩
      ·
       exact ⟨rng_le hn, by rw [take_succ hn, List.all_append, hA]; simp [hyk]⟩
      ·
       exact ent_k [(500007, 49)] rfl rfl ((by repeat (first | exact .nil | refine xkc ?_))) (obs_cons rfl (o_eq rfl) (obs_cons rfl (o_eq rfl) obs_nil)) rfl
      ·
       omega
    ·
     obtain rfl := rng_ge (l := ss) (by simpa using hc3) hi
     rw [List.take_length] at hA
     have hyes : ¬ ss.all (hasK x.rels) = false := by rw [hA]; simp
     have hvk := ver_ok h0 hA
     have hsm := allR_sm hr hq ss (ss.map (getR x)).length
     have hal := fun j => allR_len hr needs ss j
     have hml : (ss.map (getR x)).length = ss.length := List.length_map _
     refine awp_exit ?_
     refine xsr ?_
     refine xlz (o_bs rfl rfl rfl rfl rfl ty26 ty51 rfl rfl) ?_
     refine lmv rfl rfl rfl rfl rfl ?_
     refine xlz (o_app rfl rfl (by decide) rfl rfl rfl ty26 ty51 rfl (by decide) rfl (by intro d hd; simp at hd) (by first | (simp [D.cells]; done) | (intro d hd; obtain ⟨x, _, rfl⟩ := List.mem_map.1 hd; rfl)) (by simp; omega) (by decide) (show _ = needs.map Req.d from by simp)) ?_
     refine las rfl rfl rfl rfl rfl ?_
     refine lendF ?_
     refine awp_seq ?_
     refine xsr ?_
     refine las rfl rfl rfl rfl rfl ?_
     refine lendF ?_
     refine awp_block ?_
     refine awp_loop (fun j => ⟨87, [(7, .tl ((ss.map (getR x)).map Rls.d) (some 500007)), (11, .tl ((allR x needs ss j).map Req.d) (some 500011)), (12, .d (I (j : Nat))), (1, .d (reqsD needs)), (2, .d (selsD ss))], [(500011, .tail 2), (500007, .tail 9)]⟩) (fun j => (ss.map (getR x)).length - j) (fun j => j ≤ (ss.map (getR x)).length) 0 ?_ ?_ ?_
     ·
      exact ent_k [(500011, 52)] rfl rfl (.cons rfl (k_tl rfl (by rw [List.take_length])) <| .cons rfl (k_tl rfl (by simp [allR])) <| (by repeat (first | exact .nil | refine xkc ?_))) (obs_cons rfl (o_eq rfl) (obs_cons rfl (o_eq rfl) obs_nil)) rfl
     ·
      exact Nat.zero_le _
     ·
      rintro j hj
      refine awp_seq ?_
      refine xsr ?_
      iterate 2 refine lmv rfl rfl rfl rfl rfl ?_
      refine xlz (op_len rfl rfl rfl ty22) ?_
      refine xlz (op_binI rfl rfl rfl rfl rfl (.inl rfl) rfl) ?_
      refine lendF ?_
      refine awp_cond rfl rfl (fun hc5 => ?_) (fun hc5 => ?_)
      ·
       obtain ⟨z, hz⟩ := rng_lt (l := (ss.map (getR x))) (by simpa using hc5)
       have hjl := rng_le hz
       have hzl : z.reqs.length ≤ 16 := by obtain ⟨k, _, rfl⟩ := List.mem_map.1 (List.mem_of_getElem? hz); exact (getR_sm hr k).2
       refine awp_skip ?_
       refine awp_seq ?_
       refine awp_block ?_
       refine awp_region mixed ?_
       iterate 3 refine lmv rfl rfl rfl rfl rfl ?_
       refine xlz (o_ixN (j) rfl rfl rfl rfl ty22 (by first | rfl | omega | (simp; done) | (simp; omega)) hz ty40) ?_
       refine xlz (op_fieldC rfl rfl rfl fl40_2) ?_
       refine xlz (op_loadC1 rfl rfl rfl ty26 rfl rfl) ?_
       refine xlz (o_app rfl rfl (by decide) rfl rfl rfl ty26 ty51 rfl (by decide) rfl (by intro d hd; obtain ⟨x, _, rfl⟩ := List.mem_map.1 hd; rfl) (by first | (simp [D.cells]; done) | (intro d hd; obtain ⟨x, _, rfl⟩ := List.mem_map.1 hd; rfl)) (by have := hal j; simp at hjl ⊢; omega) (by decide) (show _ = (allR x needs ss (j + 1)).map Req.d from by rw [allR_succ hz]; simp)) ?_
       refine las rfl rfl rfl rfl rfl ?_
       refine lendF ?_
       refine awp_region mixed ?_
       refine lmv rfl rfl rfl rfl rfl ?_
       refine xlz (o_add rfl rfl rfl rfl (by first | omega | (simp; omega) | (simp at *; omega))) ?_
       refine las rfl rfl rfl rfl rfl ?_
       refine lendF ?_
       refine ⟨j + 1, ?_, ?_, ?_⟩
       ·
        exact rng_le hz
       ·
        exact ent_k [(500011, 65)] rfl rfl ((by repeat (first | exact .nil | refine xkc ?_))) (obs_cons rfl (o_eq rfl) (obs_cons rfl (o_eq rfl) obs_nil)) rfl
       ·
        omega
      ·
       obtain rfl := rng_ge (l := (ss.map (getR x))) (by simpa using hc5) hj
       refine awp_exit ?_
       refine awp_seq ?_
       refine xsr ?_
       refine las rfl rfl rfl rfl rfl ?_
       refine lendF ?_
       refine awp_block ?_
       refine awp_loop (fun k => ⟨87, [(7, .tl ((ss.map (getR x)).map Rls.d) (some 500007)), (11, .tl ((allR x needs ss (ss.map (getR x)).length).map Req.d) (some 500011)), (13, .d (I (k : Nat))), (1, .d (reqsD needs)), (2, .d (selsD ss))], [(500011, .tail 2), (500007, .tail 9)]⟩) (fun k => (allR x needs ss (ss.map (getR x)).length).length - k) (fun k => k ≤ (allR x needs ss (ss.map (getR x)).length).length ∧ ((allR x needs ss (ss.map (getR x)).length).take k).all (fun q => ss.any (satBy q)) = true) 0 ?_ ?_ ?_
       ·
        exact ent_k [] rfl rfl ((by repeat (first | exact .nil | refine xkc ?_))) (obs_cons rfl (o_eq rfl) (obs_cons rfl (o_eq rfl) obs_nil)) rfl
       ·
        exact ⟨Nat.zero_le _, rfl⟩
       ·
        rintro k ⟨hk, hS⟩
        refine awp_seq ?_
        refine xsr ?_
        iterate 2 refine lmv rfl rfl rfl rfl rfl ?_
        refine xlz (op_len rfl rfl rfl ty26) ?_
        refine xlz (op_binI rfl rfl rfl rfl rfl (.inl rfl) rfl) ?_
        refine lendF ?_
        refine awp_cond rfl rfl (fun hc6 => ?_) (fun hc6 => ?_)
        ·
         obtain ⟨q, hm⟩ := rng_lt (l := (allR x needs ss (ss.map (getR x)).length)) (by simpa using hc6)
         have hkl := rng_le hm
         have hqm := List.mem_of_getElem? hm
         have hkb := hal (ss.map (getR x)).length
         refine awp_skip ?_
         refine awp_seq ?_
         refine awp_block ?_
         refine xsr ?_
         iterate 2 refine lmv rfl rfl rfl rfl rfl ?_
         refine xlz (o_ixN (k) rfl rfl rfl rfl ty26 (by first | rfl | omega | (simp; done) | (simp; omega)) hm ty51) ?_
         refine xlz (op_loadCA rfl rfl rfl ty51 rfl (xlb rfl)) ?_
         refine lmv rfl rfl rfl rfl rfl ?_
         refine xlz (o_call (c54 q ss (by have := (hsm q hqm).set; omega) (by omega) hvk) rfl rfl rfl ca54 rfl rfl) ?_
         refine xlz (op_not rfl rfl rfl) ?_
         refine lendF ?_
         refine awp_cond rfl rfl (fun hc7 => ?_) (fun hc7 => ?_)
         ·
          have h17 : (allQ x.rels needs ss).all (fun q => ss.any (satBy q)) = false := by rw [← allR_full h0]; exact allq_no hm (by (have h := hc7); simpa using h)
          refine xsr ?_
          refine las rfl rfl rfl rfl rfl ?_
          refine lendF ?_
          refine awp_ret ?_
          refine ⟨[_], ⟨rfl, trivial⟩, ?_⟩
          first | exact ent_i rfl (refSol_1 hbad).symm | exact ent_i rfl (refSol_6 hgood hno).symm | exact ent_i rfl (refSol_17 hgood hyes h17).symm | exact ent_i rfl ((refSol_8 hgood hyes hall).trans (if_pos hne)).symm | exact ent_i rfl ((refSol_8 hgood hyes hall).trans (if_neg hne)).symm
         ·
          have hqs : ss.any (satBy q) = true := by (have h := hc7); simpa using h
          refine awp_skip ?_
          refine awp_region mixed ?_
          refine lmv rfl rfl rfl rfl rfl ?_
          refine xlz (o_add rfl rfl rfl rfl (by first | omega | (simp; omega) | (simp at *; omega))) ?_
          refine las rfl rfl rfl rfl rfl ?_
          refine lendF ?_
          refine ⟨k + 1, ?_, ?_, ?_⟩
          ·
           exact ⟨rng_le hm, by rw [take_succ hm, List.all_append, hS]; simp; simpa using hqs⟩
          ·
           exact ent_k [] rfl rfl ((by repeat (first | exact .nil | refine xkc ?_))) (obs_cons rfl (o_eq rfl) (obs_cons rfl (o_eq rfl) obs_nil)) rfl
          ·
           omega
        ·
         obtain rfl := rng_ge (l := (allR x needs ss (ss.map (getR x)).length)) (by simpa using hc6) hk
         rw [List.take_length, allR_full h0] at hS
         have hall : ¬ (allQ x.rels needs ss).all (fun q => ss.any (satBy q)) = false := by rw [hS]; simp
         refine awp_exit ?_
         refine awp_seq ?_
         refine xsr ?_
         refine lmv rfl rfl rfl rfl rfl ?_
         refine xlz (o_bld rfl rfl rfl bl25 ty25 zk25 rfl rfl rfl) ?_
         refine lmv rfl rfl rfl rfl rfl ?_
         refine xlz (o_call (c14 ⟨(ss.map (getR x)), []⟩ (by simp; omega) (by intro r hr2; obtain ⟨k, _, rfl⟩ := List.mem_map.1 hr2; exact (getR_sm hr k).1) needs hq hnl) rfl rfl rfl ca14 rfl rfl) ?_
         refine xlz (op_len rfl rfl rfl ty27) ?_
         refine lmv rfl rfl rfl rfl rfl ?_
         refine xlz (o_lenE (n := ss.length) rfl rfl rfl ty27 (by simp)) ?_
         refine xlz (op_binI rfl rfl rfl rfl rfl (.inl rfl) rfl) ?_
         refine lendF ?_
         refine awp_cond rfl rfl (fun hc8 => ?_) (fun hc8 => ?_)
         ·
          have hne : (refI (ss.map (getK x.rels)) needs).length ≠ ss.length := by (have h := hc8); rw [hgk] at h; simp at h; omega
          refine xsr ?_
          refine las rfl rfl rfl rfl rfl ?_
          refine lendF ?_
          refine awp_ret ?_
          refine ⟨[_], ⟨rfl, trivial⟩, ?_⟩
          first | exact ent_i rfl (refSol_1 hbad).symm | exact ent_i rfl (refSol_6 hgood hno).symm | exact ent_i rfl (refSol_17 hgood hyes h17).symm | exact ent_i rfl ((refSol_8 hgood hyes hall).trans (if_pos hne)).symm | exact ent_i rfl ((refSol_8 hgood hyes hall).trans (if_neg hne)).symm
         ·
          have hne : ¬ (refI (ss.map (getK x.rels)) needs).length ≠ ss.length := by (have h := hc8); rw [hgk] at h; simp at h; omega
          refine awp_skip ?_
          refine xsr ?_
          refine las rfl rfl rfl rfl rfl ?_
          refine lendF ?_
          refine awp_ret ?_
          refine ⟨[_], ⟨rfl, trivial⟩, ?_⟩
          first | exact ent_i rfl (refSol_1 hbad).symm | exact ent_i rfl (refSol_6 hgood hno).symm | exact ent_i rfl (refSol_17 hgood hyes h17).symm | exact ent_i rfl ((refSol_8 hgood hyes hall).trans (if_pos hne)).symm | exact ent_i rfl ((refSol_8 hgood hyes hall).trans (if_neg hne)).symm
 ·
  have hbad : checkI x.rels ≠ 0 ∨ incr ss = false := .inl (by (have h := (g00 hg1)); simpa using h)
  iterate 3 refine lskip rfl hg1 rfl ?_
  refine xlz (o_pT rfl rfl (g00 hg1) rfl rfl) ?_
  refine lendF ?_
  refine awp_condT rfl rfl rfl ?_
  refine xsr ?_
  refine las rfl rfl rfl rfl rfl ?_
  refine lendF ?_
  refine awp_ret ?_
  refine ⟨[_], ⟨rfl, trivial⟩, ?_⟩
  first | exact ent_i rfl (refSol_1 hbad).symm | exact ent_i rfl (refSol_6 hgood hno).symm | exact ent_i rfl (refSol_17 hgood hyes h17).symm | exact ent_i rfl ((refSol_8 hgood hyes hall).trans (if_pos hne)).symm | exact ent_i rfl ((refSol_8 hgood hyes hall).trans (if_neg hne)).symm

end Go.Pm

namespace Go.Pm
open Go.Proofs

set_option maxRecDepth 10000 in
set_option maxHeartbeats 4000000 in
theorem c3 (x : Idx) (hl : x.rels.length < 4611686018427387904) (hrl : ∀ r ∈ x.rels, r.reqs.length < 4611686018427387904) (needs : List Req) (hnl : needs.length < 4611686018427387904) (ss : List Sel) (hsl : ss.length < 4611686018427387904) : Fn PR 3 [.d x.d, .d (reqsD needs), .d (selsD ss)] [] [.d (.bool true)] [] := by
 refine fn_of_awp Tryz.func3 rfl (N := 41) rfl ?_
 refine xsr ?_
 refine xlz (op_box rfl rfl (by decide) rfl rfl) ?_
 refine las rfl rfl rfl rfl rfl ?_
 refine lendF ?_
 refine awp_seq ?_
 refine xsr ?_
 refine xlz (o_call (c9) rfl rfl rfl ca9 rfl rfl) ?_
 refine xlz (op_not rfl rfl rfl) ?_
 refine lendF ?_
 refine awp_cond rfl rfl (fun hc1 => ?_) (fun hc1 => ?_)
 ·
  exact absurd hc1 (by decide)
 ·
  refine awp_skip ?_
  refine awp_seq ?_
  refine xsr ?_
  refine xlz (op_fieldP rfl rfl rfl fl25_0) ?_
  refine xlz (op_load1 rfl rfl rfl rfl ty22 rfl rfl) ?_
  refine xlz (o_call (c10 x.rels 30 hl hrl) rfl rfl rfl ca10 rfl rfl) ?_
  refine xlz (op_not rfl rfl rfl) ?_
  refine lmv rfl rfl rfl rfl rfl ?_
  refine lsplit rfl (fun hg2 => ?_) (fun hg2 => ?_)
  ·
   have hf : fewRlss x.rels 30 = true := by (have h := (g01 hg2)); simpa using h
   obtain ⟨hr, h30⟩ := fewRlss_ok hf
   refine gmv hg2 rfl rfl rfl rfl rfl ?_
   refine lg (o_call (c11 needs hnl) rfl rfl rfl ca11 rfl rfl) rfl hg2 rfl rfl ?_
   refine lg (op_not rfl rfl rfl) rfl hg2 rfl rfl ?_
   refine xlz (o_pF rfl rfl (g01 hg2) rfl rfl) ?_
   refine lmv rfl rfl rfl rfl rfl ?_
   refine lsplit rfl (fun hg3 => ?_) (fun hg3 => ?_)
   ·
    have hfn : fewReqs needs = true := by (have h := (g01 hg3)); simpa using h
    obtain ⟨hq, h20⟩ := fewReqs_ok hfn
    refine gmv hg3 rfl rfl rfl rfl rfl ?_
    refine lg (o_lenE (n := ss.length) rfl rfl rfl ty27 (by simp)) rfl hg3 rfl rfl ?_
    refine lg (op_binI rfl rfl rfl rfl rfl (.inl rfl) rfl) rfl hg3 rfl rfl ?_
    refine xlz (o_pF rfl rfl (g01 hg3) rfl rfl) ?_
    refine lendF ?_
    refine awp_cond rfl rfl (fun hc4 => ?_) (fun hc4 => ?_)
    ·
     refine xsr ?_
     refine las rfl rfl rfl rfl rfl ?_
     refine lendF ?_
     refine awp_ret ?_
     refine ⟨[_], ⟨rfl, trivial⟩, ?_⟩
     first | exact ent_d1 rfl rfl | exact ent_d1 rfl (by rw [solI_eq (by omega)]; simp)
    ·
     have hss : ss.length ≤ 20 := by (have h := hc4); simp at h; omega
     refine awp_skip ?_
     refine xsr ?_
     refine xlz (o_ldA rfl rfl rfl rfl ty25 rfl (xlb rfl) rfl) ?_
     refine lmv rfl rfl rfl rfl rfl ?_
     refine xlz (o_call (c13 x (by omega) hr needs hq (by omega)) rfl rfl rfl ca13 rfl rfl) ?_
     refine xlz (o_ldA rfl rfl rfl rfl ty25 rfl (xlb rfl) rfl) ?_
     refine lmv rfl rfl rfl rfl rfl ?_
     refine xlz (o_call (c14 x hl hr needs hq (by omega)) rfl rfl rfl ca14 rfl rfl) ?_
     refine xlz (o_call (c12 (reachI x needs) (refI x.rels needs) (by have := reachI_len x needs; omega)) rfl rfl rfl ca12 rfl rfl) ?_
     refine lmv rfl rfl rfl rfl rfl ?_
     refine lsplit rfl (fun hg5 => ?_) (fun hg5 => ?_)
     ·
      refine lg (o_ldA rfl rfl rfl rfl ty25 rfl (xlb rfl) rfl) rfl hg5 rfl rfl ?_
      iterate 2 refine gmv hg5 rfl rfl rfl rfl rfl ?_
      refine lg (o_call (c15 x hl hr needs ss hq (by omega) (by omega)) rfl rfl rfl ca15 rfl rfl) rfl hg5 rfl rfl ?_
      refine lg (o_ldA rfl rfl rfl rfl ty25 rfl (xlb rfl) rfl) rfl hg5 rfl rfl ?_
      iterate 2 refine gmv hg5 rfl rfl rfl rfl rfl ?_
      refine lg (o_call (c16 x (by omega) hr needs ss hq (by omega) (by omega)) rfl rfl rfl ca16 rfl rfl) rfl hg5 rfl rfl ?_
      refine lg (op_binI rfl rfl rfl rfl rfl (.inl rfl) rfl) rfl hg5 rfl rfl ?_
      refine xlz (o_pT rfl rfl (g11 hg5) rfl rfl) ?_
      refine las rfl rfl rfl rfl rfl ?_
      refine lend (fun _ => by kernel_rfl) ?_
      refine awp_ret ?_
      refine ⟨[_], ⟨rfl, trivial⟩, ?_⟩
      first | exact ent_d1 rfl rfl | exact ent_d1 rfl (by rw [solI_eq (by omega)]; simp)
     ·
      exact absurd (g10 hg5) (by rw [reachI_eq]; simp)
   ·
    iterate 3 refine lskip rfl hg3 rfl ?_
    refine xlz (o_pT rfl rfl (g00 hg3) rfl rfl) ?_
    refine lendF ?_
    refine awp_condT rfl rfl rfl ?_
    refine xsr ?_
    refine las rfl rfl rfl rfl rfl ?_
    refine lendF ?_
    refine awp_ret ?_
    refine ⟨[_], ⟨rfl, trivial⟩, ?_⟩
    first | exact ent_d1 rfl rfl | exact ent_d1 rfl (by rw [solI_eq (by omega)]; simp)
  ·
   iterate 3 refine lskip rfl hg2 rfl ?_
   refine xlz (o_pT rfl rfl (g00 hg2) rfl rfl) ?_
   refine lmv rfl rfl rfl rfl rfl ?_
   iterate 3 refine lskip rfl rfl rfl ?_
   refine xlz (o_pT rfl rfl rfl rfl rfl) ?_
   refine lendF ?_
   refine awp_condT rfl rfl rfl ?_
   refine xsr ?_
   refine las rfl rfl rfl rfl rfl ?_
   refine lendF ?_
   refine awp_ret ?_
   refine ⟨[_], ⟨rfl, trivial⟩, ?_⟩
   first | exact ent_d1 rfl rfl | exact ent_d1 rfl (by rw [solI_eq (by omega)]; simp)

end Go.Pm
