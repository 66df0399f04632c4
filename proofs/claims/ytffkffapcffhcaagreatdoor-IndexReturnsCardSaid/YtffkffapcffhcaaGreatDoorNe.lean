/- Part 5 of a proof about the index of a registry: plain functions, and walks through the program that show that it computes them (W35 .. W44). Own work. -/
import Derived.Test.YtffkffapcffhcaaGreatDoorNd
set_option autoImplicit false
set_option linter.unusedVariables false
set_option linter.unusedSimpArgs false
namespace Go.Pm
open Go.Proofs

set_option maxRecDepth 10000 in
set_option maxHeartbeats 4000000 in
theorem c19 (m : Bytes) (hm : m.length ≤ 100000) : Fn PR 19 [.d (.str m)] [] [.d (readI m).1.d, .d (I (readI m).2)] [] := by
 refine fn_of_awp Tryz.func19 rfl (N := 91) rfl ?_
 refine xsr ?_
 refine xlz (op_alloc rfl rfl (by decide) ty40 zk40 rfl) ?_
 refine las rfl rfl rfl rfl rfl ?_
 refine lendF ?_
 refine xsr ?_
 refine lmv rfl rfl rfl rfl rfl ?_
 refine xlz (o_callX (p := .ptr 6011 0) (news := [6011]) (upd := [(6011, some (.cells [.d (.str m), .d (I 0), .d (I 0)]))]) [] 11 (c63 m) rfl rfl rfl ca63 rfl (by decide) handOK_nil rfl rfl rfl rfl (by kernel_rfl) (by kernel_rfl) (by kernel_rfl)) ?_
 refine las rfl rfl rfl rfl rfl ?_
 refine lendF ?_
 refine awp_joinX (fun _ : Unit => ⟨91, [(5, .ptr 5 0), (4, .ptr 6011 0), (0, .d (.str m)), (2, .ptr 2 0)], [(5, .cells [.d (.str (rd1 m).1), .d (I 0), .d (I 0), .d (I 0), .nils, .d (.str []), .d (.str []), .d (.str []), .d (.bool false)]), (6011, (rd1 m).2.ob), (2, .cells [.d (.str []), .d (I 0), .d (I 0), .d (I 0), .nils, .d (.str []), .d (.str []), .d (.str []), .d (.bool false)])]⟩) (fun _ : Unit => True) ?_ ?_
 ·
  refine awp_region mixed ?_
  refine lmv rfl rfl rfl rfl rfl ?_
  refine xlz (o_callX (p := .d (.str (rd1 m).1)) (news := []) (upd := [(6011, some ((rd1 m).2.ob))]) [6011] 13 (c64 ⟨m, 0, 0⟩ (by show m.length < _; omega) (Nat.zero_le _)) rfl rfl rfl ca64 rfl (by decide) (handOK_cons (by decide) (by decide) rfl rfl handOK_nil) rfl rfl rfl rfl (by kernel_rfl) (by kernel_rfl) (by kernel_rfl)) ?_
  refine xlz (o_bldP rfl rfl rfl bl40 ty40 zk40 rfl rfl) ?_
  refine xlz (op_alloc rfl rfl (by decide) ty40 zk40 rfl) ?_
  refine xlz (op_storeX [.d (.str (rd1 m).1), .d (I 0), .d (I 0), .d (I 0), .nils, .d (.str []), .d (.str []), .d (.str []), .d (.bool false)] rfl rfl rfl rfl rfl rfl ty40 rfl (xlb rfl) (by kernel_rfl)) ?_
  refine lendF ?_
  refine ⟨(), ?_, ?_⟩
  ·
   exact True.intro
  ·
   exact ent_k [] rfl rfl ((by repeat (first | exact .nil | refine xkc ?_))) (obs_cons rfl (.cells (by repeat (first | exact .nil | refine .cons (by first | exact k_eq rfl | exact .same _ | exact k_i (by rw [majN_eq hp]; simp [hp])) ?_))) (obs_cons rfl (o_eq rfl) (obs_cons rfl (o_eq rfl) obs_nil))) rfl
 ·
  rintro _ _
  refine xsr ?_
  refine xlz (op_fieldP rfl rfl rfl fl40_0) ?_
  refine xlz (op_load1 rfl rfl rfl rfl ty9 rfl rfl) ?_
  refine xlz (o_call (c65 (rd1 m).1 (Nat.le_trans (text_len (m := m) (r := ⟨m, 0, 0⟩) ⟨rfl, Nat.zero_le _⟩) hm)) rfl rfl rfl ca65 rfl rfl) ?_
  refine lmv rfl rfl rfl rfl rfl ?_
  refine xlz (op_extract rfl rfl rfl rfl) ?_
  refine xlz (op_extract rfl rfl rfl rfl) ?_
  refine xlz (op_extract rfl rfl rfl rfl) ?_
  iterate 3 refine las rfl rfl rfl rfl rfl ?_
  refine lendF ?_
  refine awp_seq ?_
  refine xsr ?_
  refine lmv rfl rfl rfl rfl rfl ?_
  refine xlz (op_binI rfl rfl rfl rfl rfl (.inl rfl) rfl) ?_
  refine lendF ?_
  refine awp_cond rfl rfl (fun hc1 => ?_) (fun hc1 => ?_)
  ·
   have hp : isPath (rd1 m).1 = false := by (have h := hc1); split at h; (simp at h); (rename_i h2; simpa using h2)
   have hmj := majN_no hp
   have hb : readB m := .inl hmj
   refine xsr ?_
   refine xlz (o_bld rfl rfl rfl bl40 ty40 zk40 rfl rfl rfl) ?_
   refine xlz (op_storeX [.d (.str []), .d (I 0), .d (I 0), .d (I 0), .d (.list []), .d (.str []), .d (.str []), .d (.str []), .d (.bool false)] rfl rfl rfl rfl rfl rfl ty40 rfl (xlb rfl) (by kernel_rfl)) ?_
   refine las rfl rfl rfl rfl rfl ?_
   refine lendF ?_
   refine awp_ret ?_
   refine ⟨[_, _], ⟨⟨_, _, _, _, _, _, _, rfl, rfl, ty40, (xlb rfl), rfl⟩, rfl, trivial⟩, ?_⟩
   first | exact ent_d2 rfl (by rw [readI, if_pos hb] <;> rfl) rfl (by rw [readI, if_pos hb] <;> rfl) | exact ent_d2 rfl (by rw [readI, if_neg hb] <;> rfl) rfl (by rw [readI, if_neg hb] <;> rfl)
  ·
   have hp : isPath (rd1 m).1 = true := by (have h := hc1); split at h; (assumption); (simp at h)
   have hmj := majN_yes hp
   have hme := majN_eq hp
   refine awp_skip ?_
   refine awp_joinX (fun _ : Unit => ⟨91, [(5, .ptr 5 0), (4, .ptr 6011 0), (0, .d (.str m)), (2, .ptr 2 0)], [(5, .cells [.d (.str (rd1 m).1), .d (I (majN (rd1 m).1)), .d (I (rd2 m).1), .d (I (rd3 m).1), .nils, .d (.str []), .d (.str []), .d (.str []), .d (.bool false)]), (6011, (rd3 m).2.ob), (2, .cells [.d (.str []), .d (I 0), .d (I 0), .d (I 0), .nils, .d (.str []), .d (.str []), .d (.str []), .d (.bool false)])]⟩) (fun _ : Unit => True) ?_ ?_
   ·
    refine awp_region mixed ?_
    iterate 2 refine lmv rfl rfl rfl rfl rfl ?_
    refine xlz (o_callX (p := .d (I (rd2 m).1)) (news := []) (upd := [(6011, some ((rd2 m).2.ob))]) [6011] 27 (c66 (rd1 m).2 ((in1 m).hs hm) (in1 m).hp) rfl rfl rfl ca66 rfl (by decide) (handOK_cons (by decide) (by decide) rfl rfl handOK_nil) rfl rfl rfl rfl (by kernel_rfl) (by kernel_rfl) (by kernel_rfl)) ?_
    refine lmv rfl rfl rfl rfl rfl ?_
    refine xlz (o_callX (p := .d (I (rd3 m).1)) (news := []) (upd := [(6011, some ((rd3 m).2.ob))]) [6011] 29 (c66 (rd2 m).2 ((in2 m).hs hm) (in2 m).hp) rfl rfl rfl ca66 rfl (by decide) (handOK_cons (by decide) (by decide) rfl rfl handOK_nil) rfl rfl rfl rfl (by kernel_rfl) (by kernel_rfl) (by kernel_rfl)) ?_
    refine xlz (o_bld rfl rfl rfl bl38 ty38 zk38 rfl rfl rfl) ?_
    refine xlz (op_fieldP rfl rfl rfl fl40_1) ?_
    refine xlz (op_storeX [.d (.str (rd1 m).1), .d (I (if isPath (rd1 m).1 then (majorF (rd1 m).1).1 else 0)), .d (I (rd2 m).1), .d (I (rd3 m).1), .nils, .d (.str []), .d (.str []), .d (.str []), .d (.bool false)] rfl rfl rfl rfl rfl rfl ty38 rfl (xlb rfl) (by kernel_rfl)) ?_
    refine lendF ?_
    refine ⟨(), ?_, ?_⟩
    ·
     exact True.intro
    ·
     exact ent_k [] rfl rfl ((by repeat (first | exact .nil | refine xkc ?_))) (obs_cons rfl (.cells (by repeat (first | exact .nil | refine .cons (by first | exact k_eq rfl | exact .same _ | exact k_i (by rw [majN_eq hp]; simp [hp])) ?_))) (obs_cons rfl (o_eq rfl) (obs_cons rfl (o_eq rfl) obs_nil))) rfl
   ·
    rintro _ _
    refine awp_joinX (fun _ : Unit => ⟨91, [(5, .ptr 5 0), (4, .ptr 6011 0), (0, .d (.str m)), (2, .ptr 2 0)], [(5, .cells [.d (.str (rd1 m).1), .d (I (majN (rd1 m).1)), .d (I (rd2 m).1), .d (I (rd3 m).1), .nils, .d (.str []), .d (.str []), .d (.str []), .d (.bool ((rd4 m).1 == 1))]), (6011, (rd4 m).2.ob), (2, .cells [.d (.str []), .d (I 0), .d (I 0), .d (I 0), .nils, .d (.str []), .d (.str []), .d (.str []), .d (.bool false)])]⟩) (fun _ : Unit => True) ?_ ?_
    ·
     refine awp_region mixed ?_
     refine lmv rfl rfl rfl rfl rfl ?_
     refine xlz (o_callX (p := .d (I (rd4 m).1)) (news := []) (upd := [(6011, some ((rd4 m).2.ob))]) [6011] 33 (c67 (rd3 m).2 1 ((in3 m).hs hm) (in3 m).hp) rfl rfl rfl ca67 rfl (by decide) (handOK_cons (by decide) (by decide) rfl rfl handOK_nil) rfl rfl rfl rfl (by kernel_rfl) (by kernel_rfl) (by kernel_rfl)) ?_
     refine xlz (op_binI rfl rfl rfl rfl rfl (.inl rfl) rfl) ?_
     refine xlz (op_fieldP rfl rfl rfl fl40_6) ?_
     refine xlz (op_storeX [.d (.str (rd1 m).1), .d (I (majN (rd1 m).1)), .d (I (rd2 m).1), .d (I (rd3 m).1), .nils, .d (.str []), .d (.str []), .d (.str []), .d (.bool ((rd4 m).1 == 1))] rfl rfl rfl rfl rfl rfl ty4 rfl (xlb rfl) (by kernel_rfl)) ?_
     refine lendF ?_
     refine ⟨(), ?_, ?_⟩
     ·
      exact True.intro
     ·
      exact ent_k [] rfl rfl ((by repeat (first | exact .nil | refine xkc ?_))) (obs_cons rfl (.cells (by repeat (first | exact .nil | refine .cons (by first | exact k_eq rfl | exact .same _ | exact k_i (by rw [majN_eq hp]; simp [hp])) ?_))) (obs_cons rfl (o_eq rfl) (obs_cons rfl (o_eq rfl) obs_nil))) rfl
    ·
     rintro _ _
     refine awp_joinX (fun _ : Unit => ⟨91, [(5, .ptr 5 0), (4, .ptr 6011 0), (0, .d (.str m)), (2, .ptr 2 0)], [(5, .cells [.d (.str (rd1 m).1), .d (I (majN (rd1 m).1)), .d (I (rd2 m).1), .d (I (rd3 m).1), .nils, .d (.str (rd5 m).1), .d (.str (rd6 m).1), .d (.str (rd7 m).1), .d (.bool ((rd4 m).1 == 1))]), (6011, (rd7 m).2.ob), (2, .cells [.d (.str []), .d (I 0), .d (I 0), .d (I 0), .nils, .d (.str []), .d (.str []), .d (.str []), .d (.bool false)])]⟩) (fun _ : Unit => True) ?_ ?_
     ·
      refine awp_region mixed ?_
      refine lmv rfl rfl rfl rfl rfl ?_
      refine xlz (o_callX (p := .d (.str (rd5 m).1)) (news := []) (upd := [(6011, some ((rd5 m).2.ob))]) [6011] 37 (c64 (rd4 m).2 ((in4 m).hs hm) (in4 m).hp) rfl rfl rfl ca64 rfl (by decide) (handOK_cons (by decide) (by decide) rfl rfl handOK_nil) rfl rfl rfl rfl (by kernel_rfl) (by kernel_rfl) (by kernel_rfl)) ?_
      refine lmv rfl rfl rfl rfl rfl ?_
      refine xlz (o_callX (p := .d (.str (rd6 m).1)) (news := []) (upd := [(6011, some ((rd6 m).2.ob))]) [6011] 39 (c64 (rd5 m).2 ((in5 m).hs hm) (in5 m).hp) rfl rfl rfl ca64 rfl (by decide) (handOK_cons (by decide) (by decide) rfl rfl handOK_nil) rfl rfl rfl rfl (by kernel_rfl) (by kernel_rfl) (by kernel_rfl)) ?_
      refine lmv rfl rfl rfl rfl rfl ?_
      refine xlz (o_callX (p := .d (.str (rd7 m).1)) (news := []) (upd := [(6011, some ((rd7 m).2.ob))]) [6011] 41 (c64 (rd6 m).2 ((in6 m).hs hm) (in6 m).hp) rfl rfl rfl ca64 rfl (by decide) (handOK_cons (by decide) (by decide) rfl rfl handOK_nil) rfl rfl rfl rfl (by kernel_rfl) (by kernel_rfl) (by kernel_rfl)) ?_
      refine xlz (op_fieldP rfl rfl rfl fl40_3) ?_
      refine xlz (op_storeX [.d (.str (rd1 m).1), .d (I (majN (rd1 m).1)), .d (I (rd2 m).1), .d (I (rd3 m).1), .nils, .d (.str (rd5 m).1), .d (.str []), .d (.str []), .d (.bool ((rd4 m).1 == 1))] rfl rfl rfl rfl rfl rfl ty9 rfl (xlb rfl) (by kernel_rfl)) ?_
      refine xlz (op_fieldP rfl rfl rfl fl40_4) ?_
      refine xlz (op_storeX [.d (.str (rd1 m).1), .d (I (majN (rd1 m).1)), .d (I (rd2 m).1), .d (I (rd3 m).1), .nils, .d (.str (rd5 m).1), .d (.str (rd6 m).1), .d (.str []), .d (.bool ((rd4 m).1 == 1))] rfl rfl rfl rfl rfl rfl ty9 rfl (xlb rfl) (by kernel_rfl)) ?_
      refine xlz (op_fieldP rfl rfl rfl fl40_5) ?_
      refine xlz (op_storeX [.d (.str (rd1 m).1), .d (I (majN (rd1 m).1)), .d (I (rd2 m).1), .d (I (rd3 m).1), .nils, .d (.str (rd5 m).1), .d (.str (rd6 m).1), .d (.str (rd7 m).1), .d (.bool ((rd4 m).1 == 1))] rfl rfl rfl rfl rfl rfl ty9 rfl (xlb rfl) (by kernel_rfl)) ?_
      refine lendF ?_
      refine ⟨(), ?_, ?_⟩
      ·
       exact True.intro
      ·
       exact ent_k [] rfl rfl ((by repeat (first | exact .nil | refine xkc ?_))) (obs_cons rfl (.cells (by repeat (first | exact .nil | refine .cons (by first | exact k_eq rfl | exact .same _ | exact k_i (by rw [majN_eq hp]; simp [hp])) ?_))) (obs_cons rfl (o_eq rfl) (obs_cons rfl (o_eq rfl) obs_nil))) rfl
     ·
      rintro _ _
      refine awp_seq ?_
      refine xsr ?_
      refine lmv rfl rfl rfl rfl rfl ?_
      refine xlz (o_callX (p := .d (I (rd8 m).1)) (news := []) (upd := [(6011, some ((rd8 m).2.ob))]) [6011] 46 (c67 (rd7 m).2 16 ((in7 m).hs hm) (in7 m).hp) rfl rfl rfl ca67 rfl (by decide) (handOK_cons (by decide) (by decide) rfl rfl handOK_nil) rfl rfl rfl rfl (by kernel_rfl) (by kernel_rfl) (by kernel_rfl)) ?_
      refine lmv rfl rfl rfl rfl rfl ?_
      refine lendF ?_
      refine awp_block ?_
      refine awp_ent (ent_tailc 5 4 500076 2 rfl rfl rfl (by decide) rfl) ?_
      refine awp_loop (fun i => ⟨91, [(47, .d (I (i : Nat))), (46, .d (I (rd8 m).1)), (5, .ptr 5 0), (4, .ptr 6011 0), (0, .d (.str m)), (2, .ptr 2 0)], [(5, .cells [.d (.str (rd1 m).1), .d (I (majN (rd1 m).1)), .d (I (rd2 m).1), .d (I (rd3 m).1), .tl ((qI m.length (rd8 m).2 i).1.map Req.d) (some 500076), .d (.str (rd5 m).1), .d (.str (rd6 m).1), .d (.str (rd7 m).1), .d (.bool ((rd4 m).1 == 1))]), (500076, .tail 2), (6011, (qI m.length (rd8 m).2 i).2.ob), (2, .cells [.d (.str []), .d (I 0), .d (I 0), .d (I 0), .nils, .d (.str []), .d (.str []), .d (.str []), .d (.bool false)])]⟩) (fun i => (rd8 m).1.toNat - i) (fun i => i ≤ (rd8 m).1.toNat) 0 ?_ ?_ ?_
      ·
       exact ent_k [] rfl rfl ((by repeat (first | exact .nil | refine xkc ?_))) (obs_cons rfl (.cells (by repeat (first | exact .nil | refine .cons (by first | exact k_eq rfl | exact .same _ | exact k_i (by rw [majN_eq hp]; simp [hp])) ?_))) (obs_cons rfl (o_eq rfl) (obs_cons rfl (o_eq rfl) (obs_cons rfl (o_eq rfl) obs_nil)))) rfl
      ·
       exact Nat.zero_le _
      ·
       rintro i hi
       refine xsr ?_
       refine xlz (op_binI rfl rfl rfl rfl rfl (.inl rfl) rfl) ?_
       refine lendF ?_
       refine awp_seq ?_
       refine awp_cond rfl rfl (fun hc2 => ?_) (fun hc2 => ?_)
       ·
        have h8 := cnt8 m
        have hlt : i < (rd8 m).1.toNat := by (have h : decide ((i : Int) < (rd8 m).1) = true := hc2); simp at h; omega
        refine awp_skip ?_
        refine awp_seq ?_
        refine awp_block ?_
        refine xsr ?_
        refine lmv rfl rfl rfl rfl rfl ?_
        refine xlz (o_callX (p := .d (.str ((qI m.length (rd8 m).2 i).2.text).1)) (news := []) (upd := [(6011, some (((qI m.length (rd8 m).2 i).2.text).2.ob))]) [6011] 50 (c64 (qI m.length (rd8 m).2 i).2 ((qI_in (in8 m) m.length i).hs hm) (qI_in (in8 m) m.length i).hp) rfl rfl rfl ca64 rfl (by decide) (handOK_cons (by decide) (by decide) rfl rfl handOK_nil) rfl rfl rfl rfl (by kernel_rfl) (by kernel_rfl) (by kernel_rfl)) ?_
        refine xlz (o_bldP rfl rfl rfl bl51 ty51 zk51 rfl rfl) ?_
        refine xlz (op_alloc rfl rfl (by decide) ty51 zk51 rfl) ?_
        refine xlz (op_storeX [.d (.str (qI m.length (rd8 m).2 i).2.text.1), .nils] rfl rfl rfl rfl rfl rfl ty51 rfl (xlb rfl) (by kernel_rfl)) ?_
        refine lendF ?_
        refine awp_seq ?_
        refine xsr ?_
        iterate 2 refine lmv rfl rfl rfl rfl rfl ?_
        refine xlz (op_lenS rfl rfl rfl ty9) ?_
        refine xlz (o_callX (p := .d (I (rdc m.length (qI m.length (rd8 m).2 i).2).1)) (news := []) (upd := [(6011, some ((rdc m.length (qI m.length (rd8 m).2 i).2).2.ob))]) [6011] 55 (c67 (qI m.length (rd8 m).2 i).2.text.2 m.length ((text_in (qI_in (in8 m) m.length i)).hs hm) (text_in (qI_in (in8 m) m.length i)).hp) rfl rfl rfl ca67 rfl (by decide) (handOK_cons (by decide) (by decide) rfl rfl handOK_nil) rfl rfl rfl rfl (by kernel_rfl) (by kernel_rfl) (by kernel_rfl)) ?_
        refine lmv rfl rfl rfl rfl rfl ?_
        refine lendF ?_
        refine awp_block ?_
        refine awp_ent (ent_tailc 9 1 500069 2 rfl rfl rfl (by decide) rfl) ?_
        refine awp_loop (fun k => ⟨91, [(56, .d (I (k : Nat))), (55, .d (I (rdc m.length (qI m.length (rd8 m).2 i).2).1)), (9, .ptr 9 0), (0, .d (.str m)), (2, .ptr 2 0), (4, .ptr 6011 0), (5, .ptr 5 0), (46, .d (I (rd8 m).1)), (47, .d (I (i : Nat))), (49, .ptr 6011 0), (50, .d (.str ((qI m.length (rd8 m).2 i).2.text).1)), (51, .agg [.d (.str (qI m.length (rd8 m).2 i).2.text.1), .nils]), (52, .ptr 6011 0), (53, .d (.str m)), (54, .d (I m.length))], [(9, .cells [.d (.str (qI m.length (rd8 m).2 i).2.text.1), .tl ((sI (rdc m.length (qI m.length (rd8 m).2 i).2).2 k).1.map Span.d) (some 500069)]), (500069, .tail 2), (6011, (sI (rdc m.length (qI m.length (rd8 m).2 i).2).2 k).2.ob), (5, .cells [.d (.str (rd1 m).1), .d (I (majN (rd1 m).1)), .d (I (rd2 m).1), .d (I (rd3 m).1), .tl ((qI m.length (rd8 m).2 i).1.map Req.d) (some 500076), .d (.str (rd5 m).1), .d (.str (rd6 m).1), .d (.str (rd7 m).1), .d (.bool ((rd4 m).1 == 1))]), (500076, .tail 2), (2, .cells [.d (.str []), .d (I 0), .d (I 0), .d (I 0), .nils, .d (.str []), .d (.str []), .d (.str []), .d (.bool false)])]⟩) (fun k => (rdc m.length (qI m.length (rd8 m).2 i).2).1.toNat - k) (fun k => k ≤ (rdc m.length (qI m.length (rd8 m).2 i).2).1.toNat) 0 ?_ ?_ ?_
        ·
         exact ent_k [] rfl rfl ((by repeat (first | exact .nil | refine xkc ?_))) (obs_cons rfl (.cells (by repeat (first | exact .nil | refine .cons (by first | exact k_eq rfl | exact .same _ | exact k_i (by rw [majN_eq hp]; simp [hp])) ?_))) (obs_cons rfl (o_eq rfl) (obs_cons rfl (o_eq rfl) (obs_cons rfl (o_eq rfl) (obs_cons rfl (o_eq rfl) (obs_cons rfl (o_eq rfl) obs_nil)))))) rfl
        ·
         exact Nat.zero_le _
        ·
         rintro k hk
         refine xsr ?_
         refine xlz (op_binI rfl rfl rfl rfl rfl (.inl rfl) rfl) ?_
         refine lendF ?_
         refine awp_seq ?_
         refine awp_cond rfl rfl (fun hc3 => ?_) (fun hc3 => ?_)
         ·
          have hcb : (rdc m.length (qI m.length (rd8 m).2 i).2).1 ≤ m.length := (count_bnd (qI m.length (rd8 m).2 i).2.text.2 m.length (by omega)).2
          have hk2 : k < (rdc m.length (qI m.length (rd8 m).2 i).2).1.toNat := by (have h : decide ((k : Int) < (rdc m.length (qI m.length (rd8 m).2 i).2).1) = true := hc3); simp at h; omega
          refine awp_skip ?_
          refine awp_seq ?_
          refine awp_block ?_
          refine awp_seq ?_
          refine xsr ?_
          refine lmv rfl rfl rfl rfl rfl ?_
          refine xlz (o_callR [6011] (c68 (sI (rdc m.length (qI m.length (rd8 m).2 i).2).2 k).2) rfl rfl rfl ca68 rfl (by decide) (handOK_cons (by decide) (by decide) rfl rfl handOK_nil) rfl) ?_
          refine xlz (op_binI rfl rfl rfl rfl rfl (.inl rfl) rfl) ?_
          refine lendF ?_
          refine awp_cond rfl rfl (fun hc4 => ?_) (fun hc4 => ?_)
          ·
           have he : (sI (rdc m.length (qI m.length (rd8 m).2 i).2).2 k).2.e ≠ 0 := by simpa using hc4
           rw [sI_stop he hk]
           refine awp_exit ?_
           refine awp_region mixed ?_
           refine xlz (op_fieldP rfl rfl rfl fl40_2) ?_
           refine xlz (op_load1 rfl rfl rfl rfl ty26 rfl rfl) ?_
           refine xlz (o_ldA rfl rfl rfl rfl ty51 rfl (xlb rfl) rfl) ?_
           refine xlz (o_bs rfl rfl rfl rfl rfl ty26 ty51 rfl rfl) ?_
           refine xlz (o_app rfl rfl (by decide) rfl rfl rfl ty26 ty51 rfl (by decide) rfl (by intro d hd; obtain ⟨x, _, rfl⟩ := List.mem_map.1 hd; rfl) (by simp [D.cells]) (by have := qI_len m.length (rd8 m).2 i; have := cnt8 m; simp; omega) (by decide) (show _ = (qI m.length (rd8 m).2 (i + 1)).1.map Req.d from by simp [qI, qstep])) ?_
           refine xlz (op_fieldP rfl rfl rfl fl40_2) ?_
           refine xlz (op_storeX [.d (.str (rd1 m).1), .d (I (majN (rd1 m).1)), .d (I (rd2 m).1), .d (I (rd3 m).1), .tl ((qI m.length (rd8 m).2 (i + 1)).1.map Req.d) (some 76), .d (.str (rd5 m).1), .d (.str (rd6 m).1), .d (.str (rd7 m).1), .d (.bool ((rd4 m).1 == 1))] rfl rfl rfl rfl rfl rfl ty26 rfl (xlb rfl) (by kernel_rfl)) ?_
           refine lendF ?_
           refine awp_region mixed ?_
           refine xlz (o_add rfl rfl rfl rfl (by first | omega | (simp; omega) | (simp at *; omega))) ?_
           refine lmv rfl rfl rfl rfl rfl ?_
           refine lendF ?_
           refine ⟨i + 1, ?_, ?_, ?_⟩
           ·
            exact hlt
           ·
            exact ent_k [(500076, 76)] rfl rfl ((by repeat (first | exact .nil | refine xkc ?_))) (obs_cons rfl (.cells (by repeat (first | exact .nil | refine .cons (by first | exact k_eq rfl | exact .same _ | exact k_i (by rw [majN_eq hp]; simp [hp])) ?_))) (obs_cons rfl (o_eq rfl) (obs_cons rfl (o_eq rfl) (obs_cons rfl (o_eq rfl) obs_nil)))) rfl
           ·
            omega
          ·
           have he : (sI (rdc m.length (qI m.length (rd8 m).2 i).2).2 k).2.e = 0 := by simpa using hc4
           refine awp_skip ?_
           refine awp_region mixed ?_
           refine xlz (op_fieldP rfl rfl rfl fl51_1) ?_
           refine xlz (op_load1 rfl rfl rfl rfl ty49 rfl rfl) ?_
           refine lmv rfl rfl rfl rfl rfl ?_
           refine xlz (o_callX (p := .d (I ((sI (rdc m.length (qI m.length (rd8 m).2 i).2).2 k).2.uint).1)) (news := []) (upd := [(6011, some (((sI (rdc m.length (qI m.length (rd8 m).2 i).2).2 k).2.uint).2.ob))]) [6011] 64 (c66 (sI (rdc m.length (qI m.length (rd8 m).2 i).2).2 k).2 ((sI_in (count_in (text_in (qI_in (in8 m) m.length i)) m.length) k).hs hm) (sI_in (count_in (text_in (qI_in (in8 m) m.length i)) m.length) k).hp) rfl rfl rfl ca66 rfl (by decide) (handOK_cons (by decide) (by decide) rfl rfl handOK_nil) rfl rfl rfl rfl (by kernel_rfl) (by kernel_rfl) (by kernel_rfl)) ?_
           refine lmv rfl rfl rfl rfl rfl ?_
           refine xlz (o_callX (p := .d (I ((sI (rdc m.length (qI m.length (rd8 m).2 i).2).2 k).2.uint.2.uint).1)) (news := []) (upd := [(6011, some (((sI (rdc m.length (qI m.length (rd8 m).2 i).2).2 k).2.uint.2.uint).2.ob))]) [6011] 66 (c66 (sI (rdc m.length (qI m.length (rd8 m).2 i).2).2 k).2.uint.2 ((uint_in (sI_in (count_in (text_in (qI_in (in8 m) m.length i)) m.length) k)).hs hm) (uint_in (sI_in (count_in (text_in (qI_in (in8 m) m.length i)) m.length) k)).hp) rfl rfl rfl ca66 rfl (by decide) (handOK_cons (by decide) (by decide) rfl rfl handOK_nil) rfl rfl rfl rfl (by kernel_rfl) (by kernel_rfl) (by kernel_rfl)) ?_
           refine xlz (o_bld rfl rfl rfl bl78 ty78 zk78 rfl rfl rfl) ?_
           refine xlz (o_bs rfl rfl rfl rfl rfl ty49 ty78 rfl rfl) ?_
           refine xlz (o_app rfl rfl (by decide) rfl rfl rfl ty49 ty78 rfl (by decide) rfl (by intro d hd; obtain ⟨x, _, rfl⟩ := List.mem_map.1 hd; rfl) (by simp [D.cells]) (by have := sI_len (rdc m.length (qI m.length (rd8 m).2 i).2).2 k; have := (count_bnd (qI m.length (rd8 m).2 i).2.text.2 m.length (by omega)).2; unfold rdc at *; simp; omega) (by decide) (show _ = (sI (rdc m.length (qI m.length (rd8 m).2 i).2).2 (k + 1)).1.map Span.d from by rw [sI_next he]; simp)) ?_
           refine xlz (op_fieldP rfl rfl rfl fl51_1) ?_
           refine xlz (op_storeX [.d (.str (qI m.length (rd8 m).2 i).2.text.1), .tl ((sI (rdc m.length (qI m.length (rd8 m).2 i).2).2 (k + 1)).1.map Span.d) (some 69)] rfl rfl rfl rfl rfl rfl ty49 rfl (xlb rfl) (by kernel_rfl)) ?_
           refine lend (fun _ => by kernel_rfl) ?_
           refine awp_region mixed ?_
           refine xlz (o_add rfl rfl rfl rfl (by first | omega | (simp; omega) | (simp at *; omega))) ?_
           refine lmv rfl rfl rfl rfl rfl ?_
           refine lendF ?_
           refine ⟨k + 1, ?_, ?_, ?_⟩
           ·
            exact hk2
           ·
            exact ent_k [(500069, 69)] rfl rfl ((by repeat (first | exact .nil | refine xkc ?_))) (obs_cons rfl (.cells (by repeat (first | exact .nil | refine .cons (by first | exact k_eq rfl | exact .same _ | exact k_i (by rw [majN_eq hp]; simp [hp])) ?_))) (obs_cons rfl (o_eq rfl) (obs_cons rfl (o_eq (by rw [sI_next he]; rfl)) (obs_cons rfl (o_eq rfl) (obs_cons rfl (o_eq rfl) (obs_cons rfl (o_eq rfl) obs_nil)))))) rfl
           ·
            omega
         ·
          obtain rfl : k = (rdc m.length (qI m.length (rd8 m).2 i).2).1.toNat := by (have h : decide ((k : Int) < (rdc m.length (qI m.length (rd8 m).2 i).2).1) = false := hc3); simp at h; omega
          refine awp_exit ?_
          refine awp_region mixed ?_
          refine xlz (op_fieldP rfl rfl rfl fl40_2) ?_
          refine xlz (op_load1 rfl rfl rfl rfl ty26 rfl rfl) ?_
          refine xlz (o_ldA rfl rfl rfl rfl ty51 rfl (xlb rfl) rfl) ?_
          refine xlz (o_bs rfl rfl rfl rfl rfl ty26 ty51 rfl rfl) ?_
          refine xlz (o_app rfl rfl (by decide) rfl rfl rfl ty26 ty51 rfl (by decide) rfl (by intro d hd; obtain ⟨x, _, rfl⟩ := List.mem_map.1 hd; rfl) (by simp [D.cells]) (by have := qI_len m.length (rd8 m).2 i; have := cnt8 m; simp; omega) (by decide) (show _ = (qI m.length (rd8 m).2 (i + 1)).1.map Req.d from by simp [qI, qstep])) ?_
          refine xlz (op_fieldP rfl rfl rfl fl40_2) ?_
          refine xlz (op_storeX [.d (.str (rd1 m).1), .d (I (majN (rd1 m).1)), .d (I (rd2 m).1), .d (I (rd3 m).1), .tl ((qI m.length (rd8 m).2 (i + 1)).1.map Req.d) (some 76), .d (.str (rd5 m).1), .d (.str (rd6 m).1), .d (.str (rd7 m).1), .d (.bool ((rd4 m).1 == 1))] rfl rfl rfl rfl rfl rfl ty26 rfl (xlb rfl) (by kernel_rfl)) ?_
          refine lendF ?_
          refine awp_region mixed ?_
          refine xlz (o_add rfl rfl rfl rfl (by first | omega | (simp; omega) | (simp at *; omega))) ?_
          refine lmv rfl rfl rfl rfl rfl ?_
          refine lendF ?_
          refine ⟨i + 1, ?_, ?_, ?_⟩
          ·
           exact hlt
          ·
           exact ent_k [(500076, 76)] rfl rfl ((by repeat (first | exact .nil | refine xkc ?_))) (obs_cons rfl (.cells (by repeat (first | exact .nil | refine .cons (by first | exact k_eq rfl | exact .same _ | exact k_i (by rw [majN_eq hp]; simp [hp])) ?_))) (obs_cons rfl (o_eq rfl) (obs_cons rfl (o_eq rfl) (obs_cons rfl (o_eq rfl) obs_nil)))) rfl
          ·
           omega
       ·
        obtain rfl : i = (rd8 m).1.toNat := by (have h : decide ((i : Int) < (rd8 m).1) = false := hc2); simp at h; omega
        refine awp_exit ?_
        refine awp_seq ?_
        refine xsr ?_
        refine lmv rfl rfl rfl rfl rfl ?_
        refine xlz (o_callR [6011] (c69 (rd9 m).2 ((in9 m).hs hm)) rfl rfl rfl ca69 rfl (by decide) (handOK_cons (by decide) (by decide) rfl rfl handOK_nil) rfl) ?_
        refine xlz (op_binI rfl rfl rfl rfl rfl (.inl rfl) rfl) ?_
        refine lmv rfl rfl rfl rfl rfl ?_
        refine lsplit rfl (fun hg5 => ?_) (fun hg5 => ?_)
        ·
         have hd : (rd9 m).2.done = 0 := by (have h := (g01 hg5)); simpa using h
         refine lg (o_ldA rfl rfl rfl rfl ty40 rfl (xlb rfl) rfl) rfl hg5 rfl rfl ?_
         refine lg (o_bs rfl rfl rfl rfl rfl ty22 ty40 rfl rfl) rfl hg5 rfl rfl ?_
         refine lg (o_bld rfl rfl rfl bl25 ty25 zk25 rfl rfl rfl) rfl hg5 rfl rfl ?_
         refine lg (o_call (c22 ⟨[outI m], []⟩ (by simp) (by simpa using out_sm m hm)) rfl rfl rfl ca22 rfl rfl) rfl hg5 rfl rfl ?_
         refine lg (op_binI rfl rfl rfl rfl rfl (.inl rfl) rfl) rfl hg5 rfl rfl ?_
         refine xlz (o_pF rfl rfl (g01 hg5) rfl rfl) ?_
         refine lendF ?_
         refine awp_cond rfl rfl (fun hc6 => ?_) (fun hc6 => ?_)
         ·
          have hb : readB m := .inr (.inr (by (have h := hc6); simpa using h))
          refine xsr ?_
          refine xlz (o_bld rfl rfl rfl bl40 ty40 zk40 rfl rfl rfl) ?_
          refine xlz (op_storeX [.d (.str []), .d (I 0), .d (I 0), .d (I 0), .d (.list []), .d (.str []), .d (.str []), .d (.str []), .d (.bool false)] rfl rfl rfl rfl rfl rfl ty40 rfl (xlb rfl) (by kernel_rfl)) ?_
          refine las rfl rfl rfl rfl rfl ?_
          refine lendF ?_
          refine awp_ret ?_
          refine ⟨[_, _], ⟨⟨_, _, _, _, _, _, _, rfl, rfl, ty40, (xlb rfl), rfl⟩, rfl, trivial⟩, ?_⟩
          first | exact ent_d2 rfl (by rw [readI, if_pos hb] <;> rfl) rfl (by rw [readI, if_pos hb] <;> rfl) | exact ent_d2 rfl (by rw [readI, if_neg hb] <;> rfl) rfl (by rw [readI, if_neg hb] <;> rfl)
         ·
          have hc : checkI [outI m] = 0 := by (have h := hc6); simpa using h
          have hb : ¬ readB m := by (have := majN_yes hp); simp [readB, hd, hc, this]
          refine awp_skip ?_
          refine xsr ?_
          refine xlz (o_ldA rfl rfl rfl rfl ty40 rfl (xlb rfl) rfl) ?_
          refine xlz (op_store rfl rfl rfl rfl rfl rfl ty40 rfl (xlb rfl)) ?_
          refine las rfl rfl rfl rfl rfl ?_
          refine lendF ?_
          refine awp_ret ?_
          refine ⟨[_, _], ⟨⟨_, _, _, _, _, _, _, rfl, rfl, ty40, (xlb rfl), rfl⟩, rfl, trivial⟩, ?_⟩
          first | exact ent_d2 rfl (by rw [readI, if_pos hb] <;> rfl) rfl (by rw [readI, if_pos hb] <;> rfl) | exact ent_d2 rfl (by rw [readI, if_neg hb] <;> rfl) rfl (by rw [readI, if_neg hb] <;> rfl)
        ·
         have hb : readB m := .inr (.inl (by (have h := (g00 hg5)); simpa using h))
         iterate 5 refine lskip rfl hg5 rfl ?_
         refine xlz (o_pT rfl rfl (g00 hg5) rfl rfl) ?_
         refine lendF ?_
         refine awp_condT rfl rfl rfl ?_
         refine xsr ?_
         refine xlz (o_bld rfl rfl rfl bl40 ty40 zk40 rfl rfl rfl) ?_
         refine xlz (op_storeX [.d (.str []), .d (I 0), .d (I 0), .d (I 0), .d (.list []), .d (.str []), .d (.str []), .d (.str []), .d (.bool false)] rfl rfl rfl rfl rfl rfl ty40 rfl (xlb rfl) (by kernel_rfl)) ?_
         refine las rfl rfl rfl rfl rfl ?_
         refine lendF ?_
         refine awp_ret ?_
         refine ⟨[_, _], ⟨⟨_, _, _, _, _, _, _, rfl, rfl, ty40, (xlb rfl), rfl⟩, rfl, trivial⟩, ?_⟩
         first | exact ent_d2 rfl (by rw [readI, if_pos hb] <;> rfl) rfl (by rw [readI, if_pos hb] <;> rfl) | exact ent_d2 rfl (by rw [readI, if_neg hb] <;> rfl) rfl (by rw [readI, if_neg hb] <;> rfl)

end Go.Pm

namespace Go.Pm
open Go.Proofs
set_option maxRecDepth 100000
theorem exI_len : exI.rels.length = 4 := by decide
theorem c45x : Fn PR 45 [] [] [.d exI.d] [] := c45
theorem c17x : Fn PR 17 [.d exR.d] [] [.d (.str (manX exR)), .d (I 0)] [] := by
  have h := c17 exR exR_sm
  rw [show (if checkI [exR] = 0 then manT exR else []) = manX exR from rfl, ex_man] at h; exact h
theorem c19x : Fn PR 19 [.d (.str (manX exR))] [] [.d exR.d, .d (I 0)] [] := by
  have h := c19 (manX exR) ex_len
  rw [ex_read] at h; exact h
theorem c22x : Fn PR 22 [.d exI.d] [] [.d (I 0)] [] := by
  have h := c22 exI (by rw [exI_len]; decide) exI_sm
  rw [ex_check] at h; exact h
theorem c13x : Fn PR 13 [.d exI.d, .d (reqsD exN)] [] [.d (selsD exL)] [] := by
  have h := c13 exI (by rw [exI_len]; decide) exI_sm exN exN_sm (by decide)
  rw [ex_reachL] at h; exact h
theorem c43x : Fn PR 43 [.d exI.d, .d (.str pB)] [] [.d (setD exV)] [] := by
  have h := c43 exI (by rw [exI_len]; decide) exI_sm pB
  rw [ex_avV] at h; exact h
theorem c42x : Fn PR 42 [.d (setD exV), .d (setD exV)] [] [.d (.bool true)] [] := by
  have h := c42 exV exV (by decide)
  rw [decide_eq_true rfl] at h; exact h
theorem c15s : Fn PR 15 [.d exI.d, .d (reqsD exN), .d (selsD exS)] [] [.d (I 17)] [] := by
  have h := c15 exI (by rw [exI_len]; decide) exI_sm exN exS exN_sm (by decide) (by decide)
  rw [ex_sol] at h; exact h
theorem c15g : Fn PR 15 [.d exI.d, .d (reqsD exN), .d (selsD exG)] [] [.d (I 0)] [] := by
  have h := c15 exI (by rw [exI_len]; decide) exI_sm exN exG exN_sm (by decide) (by decide)
  rw [ex_good] at h; exact h
theorem c21x : Fn PR 21 [.d exR.d, .d exR.d] [] [.d (.bool true)] [] := by
  have h := c21 exR exR (by decide) (by decide)
  rw [decide_eq_true rfl] at h; exact h
end Go.Pm

namespace Go.Pm
open Go.Proofs

set_option maxRecDepth 10000 in
set_option maxHeartbeats 4000000 in
theorem c9  : Fn PR 9 [] [] [.d (.bool true)] [] := by
 refine fn_of_awp Tryz.func9 rfl (N := 89) rfl ?_
 refine xsr ?_
 refine las rfl rfl rfl rfl rfl ?_
 refine lendF ?_
 refine xsr ?_
 refine xlz (o_call (c45x) rfl rfl rfl ca45 rfl rfl) ?_
 refine xlz (op_alloc rfl rfl (by decide) ty25 zk25 rfl) ?_
 refine xlz (op_store rfl rfl rfl rfl rfl rfl ty25 rfl (xlb rfl)) ?_
 refine lendF ?_
 refine xsr ?_
 refine xlz (o_bld rfl rfl rfl bl78 ty78 zk78 rfl rfl rfl) ?_
 refine xlz (o_bs rfl rfl rfl rfl rfl ty49 ty78 rfl rfl) ?_
 refine xlz (o_bld rfl rfl rfl bl51 ty51 zk51 rfl rfl rfl) ?_
 refine xlz (o_bs rfl rfl rfl rfl rfl ty26 ty51 rfl rfl) ?_
 refine las rfl rfl rfl rfl rfl ?_
 refine lendF ?_
 refine xsr ?_
 refine xlz (o_bld rfl rfl rfl bl38 ty38 zk38 rfl rfl rfl) ?_
 refine xlz (o_bld rfl rfl rfl bl38 ty38 zk38 rfl rfl rfl) ?_
 refine xlz (op_alloc rfl rfl (by decide) ty38 zk38 rfl) ?_
 refine xlz (op_alloc rfl rfl (by decide) ty38 zk38 rfl) ?_
 refine xlz (op_store rfl rfl rfl rfl rfl rfl ty38 rfl (xlb rfl)) ?_
 refine xlz (op_store rfl rfl rfl rfl rfl rfl ty38 rfl (xlb rfl)) ?_
 refine lendF ?_
 refine xsr ?_
 refine xlz (o_ldA rfl rfl rfl rfl ty38 rfl (xlb rfl) rfl) ?_
 refine xlz (o_bld rfl rfl rfl bl54 ty54 zk54 rfl rfl rfl) ?_
 refine xlz (o_ldA rfl rfl rfl rfl ty38 rfl (xlb rfl) rfl) ?_
 refine xlz (o_bld rfl rfl rfl bl54 ty54 zk54 rfl rfl rfl) ?_
 refine xlz (o_bs rfl rfl rfl rfl rfl ty27 ty54 rfl rfl) ?_
 refine las rfl rfl rfl rfl rfl ?_
 refine lendF ?_
 refine xsr ?_
 refine xlz (o_ldA rfl rfl rfl rfl ty38 rfl (xlb rfl) rfl) ?_
 refine xlz (o_bld rfl rfl rfl bl54 ty54 zk54 rfl rfl rfl) ?_
 refine xlz (o_ldA rfl rfl rfl rfl ty38 rfl (xlb rfl) rfl) ?_
 refine xlz (o_bld rfl rfl rfl bl54 ty54 zk54 rfl rfl rfl) ?_
 refine xlz (o_bs rfl rfl rfl rfl rfl ty27 ty54 rfl rfl) ?_
 refine las rfl rfl rfl rfl rfl ?_
 refine lendF ?_
 refine xsr ?_
 refine xlz (op_fieldP rfl rfl rfl fl25_0) ?_
 refine xlz (op_load1 rfl rfl rfl rfl ty22 rfl rfl) ?_
 refine xlz (o_ixN (0) rfl rfl rfl rfl ty22 (by first | rfl | omega | (simp; done) | (simp; omega)) (rfl : exI.rels[0]? = some exR) ty40) ?_
 refine xlz (op_loadCA rfl rfl rfl ty40 rfl (xlb rfl)) ?_
 refine xlz (o_call (c17x) rfl rfl rfl ca17 rfl rfl) ?_
 refine lmv rfl rfl rfl rfl rfl ?_
 refine xlz (op_extract rfl rfl rfl rfl) ?_
 refine xlz (op_extract rfl rfl rfl rfl) ?_
 iterate 2 refine las rfl rfl rfl rfl rfl ?_
 refine lendF ?_
 refine awp_joinX (fun _ : Unit => ⟨89, [(2, .d (reqsD exN)), (5, .d (selsD exS)), (6, .d (selsD exG)), (8, .d (I 0)), (10, .d (I 0)), (1, .ptr 1 0), (9, .ptr 9 0)], [(1, .cells [.d (relsD exI.rels), .d (.list exI.ifs)]), (9, .cells [.d (.str exR.path), .d (I exR.ver.maj), .d (I exR.ver.min), .d (I exR.ver.pat), .d (reqsD exR.reqs), .d (.str exR.arch), .d (.str exR.iface), .d (.str exR.cert), .d (.bool exR.yank)])]⟩) (fun _ : Unit => True) ?_ ?_
 ·
  refine awp_region mixed ?_
  refine lmv rfl rfl rfl rfl rfl ?_
  refine xlz (o_call (c19x) rfl rfl rfl ca19 rfl rfl) ?_
  refine lmv rfl rfl rfl rfl rfl ?_
  refine xlz (op_extract rfl rfl rfl rfl) ?_
  refine xlz (op_extract rfl rfl rfl rfl) ?_
  refine xlz (op_alloc rfl rfl (by decide) ty40 zk40 rfl) ?_
  refine xlz (op_store rfl rfl rfl rfl rfl rfl ty40 rfl (xlb rfl)) ?_
  refine las rfl rfl rfl rfl rfl ?_
  refine lendF ?_
  refine ⟨(), ?_, ?_⟩
  ·
   exact True.intro
  ·
   exact ent_k [] rfl rfl ((by repeat (first | exact .nil | refine xkc ?_))) (obs_cons rfl (o_eq rfl) (obs_cons rfl (o_eq rfl) obs_nil)) rfl
 ·
  rintro _ _
  refine xsr ?_
  refine xlz (o_ldA rfl rfl rfl rfl ty25 rfl (xlb rfl) rfl) ?_
  refine xlz (o_call (c22x) rfl rfl rfl ca22 rfl rfl) ?_
  refine xlz (op_binI rfl rfl rfl rfl rfl (.inl rfl) rfl) ?_
  refine lmv rfl rfl rfl rfl rfl ?_
  refine lsplit rfl (fun hg1 => ?_) (fun hg1 => ?_)
  ·
   refine lg (o_ldA rfl rfl rfl rfl ty25 rfl (xlb rfl) rfl) rfl hg1 rfl rfl ?_
   refine gmv hg1 rfl rfl rfl rfl rfl ?_
   refine lg (o_call (c13x) rfl rfl rfl ca13 rfl rfl) rfl hg1 rfl rfl ?_
   refine lg (o_lenE (n := exL.length) rfl rfl rfl ty27 (by simp)) rfl hg1 rfl rfl ?_
   refine lg (op_binI rfl rfl rfl rfl rfl (.inl rfl) rfl) rfl hg1 rfl rfl ?_
   refine xlz (o_pT rfl rfl (g11 hg1) rfl rfl) ?_
   refine lmv rfl rfl rfl rfl rfl ?_
   refine lsplit rfl (fun hg2 => ?_) (fun hg2 => ?_)
   ·
    refine lg (o_ldA rfl rfl rfl rfl ty25 rfl (xlb rfl) rfl) rfl hg2 rfl rfl ?_
    refine lg (o_call (c43x) rfl rfl rfl ca43 rfl rfl) rfl hg2 rfl rfl ?_
    refine lg (o_bld rfl rfl rfl bl78 ty78 zk78 rfl rfl rfl) rfl hg2 rfl rfl ?_
    refine lg (o_bld rfl rfl rfl bl78 ty78 zk78 rfl rfl rfl) rfl hg2 rfl rfl ?_
    refine lg (o_bsD rfl rfl rfl rfl rfl ty49 ty78 rfl rfl) rfl hg2 rfl rfl ?_
    refine lg (o_call (c42x) rfl rfl rfl ca42 rfl rfl) rfl hg2 rfl rfl ?_
    refine xlz (o_pT rfl rfl (g11 hg2) rfl rfl) ?_
    refine lmv rfl rfl rfl rfl rfl ?_
    refine lsplit rfl (fun hg3 => ?_) (fun hg3 => ?_)
    ·
     refine lg (o_ldA rfl rfl rfl rfl ty25 rfl (xlb rfl) rfl) rfl hg3 rfl rfl ?_
     iterate 2 refine gmv hg3 rfl rfl rfl rfl rfl ?_
     refine lg (o_call (c15s) rfl rfl rfl ca15 rfl rfl) rfl hg3 rfl rfl ?_
     refine lg (op_binI rfl rfl rfl rfl rfl (.inl rfl) rfl) rfl hg3 rfl rfl ?_
     refine xlz (o_pT rfl rfl (g11 hg3) rfl rfl) ?_
     refine lmv rfl rfl rfl rfl rfl ?_
     refine lsplit rfl (fun hg4 => ?_) (fun hg4 => ?_)
     ·
      refine lg (o_ldA rfl rfl rfl rfl ty25 rfl (xlb rfl) rfl) rfl hg4 rfl rfl ?_
      iterate 2 refine gmv hg4 rfl rfl rfl rfl rfl ?_
      refine lg (o_call (c15g) rfl rfl rfl ca15 rfl rfl) rfl hg4 rfl rfl ?_
      refine lg (op_binI rfl rfl rfl rfl rfl (.inl rfl) rfl) rfl hg4 rfl rfl ?_
      refine xlz (o_pT rfl rfl (g11 hg4) rfl rfl) ?_
      refine lmv rfl rfl rfl rfl rfl ?_
      refine lsplit rfl (fun hg5 => ?_) (fun hg5 => ?_)
      ·
       refine gmv hg5 rfl rfl rfl rfl rfl ?_
       refine lg (op_binI rfl rfl rfl rfl rfl (.inl rfl) rfl) rfl hg5 rfl rfl ?_
       refine xlz (o_pT rfl rfl (g11 hg5) rfl rfl) ?_
       refine lmv rfl rfl rfl rfl rfl ?_
       refine lsplit rfl (fun hg6 => ?_) (fun hg6 => ?_)
       ·
        refine gmv hg6 rfl rfl rfl rfl rfl ?_
        refine lg (op_binI rfl rfl rfl rfl rfl (.inl rfl) rfl) rfl hg6 rfl rfl ?_
        refine xlz (o_pT rfl rfl (g11 hg6) rfl rfl) ?_
        refine lmv rfl rfl rfl rfl rfl ?_
        refine lsplit rfl (fun hg7 => ?_) (fun hg7 => ?_)
        ·
         refine lg (o_ldA rfl rfl rfl rfl ty40 rfl (xlb rfl) rfl) rfl hg7 rfl rfl ?_
         refine lg (op_fieldP rfl rfl rfl fl25_0) rfl hg7 rfl rfl ?_
         refine lg (op_load1 rfl rfl rfl rfl ty22 rfl rfl) rfl hg7 rfl rfl ?_
         refine lg (o_ixN (0) rfl rfl rfl rfl ty22 (by first | rfl | omega | (simp; done) | (simp; omega)) (rfl : exI.rels[0]? = some exR) ty40) rfl hg7 rfl rfl ?_
         refine lg (op_loadCA rfl rfl rfl ty40 rfl (xlb rfl)) rfl hg7 rfl rfl ?_
         refine lg (o_call (c21x) rfl rfl rfl ca21 rfl rfl) rfl hg7 rfl rfl ?_
         refine xlz (o_pT rfl rfl (g11 hg7) rfl rfl) ?_
         refine las rfl rfl rfl rfl rfl ?_
         refine lend (fun _ => by kernel_rfl) ?_
         refine awp_ret ?_
         refine ⟨[_], ⟨rfl, trivial⟩, ?_⟩
         exact ent_d1 rfl rfl
        ·
         exact absurd (g10 hg7) (by decide)
       ·
        exact absurd (g10 hg6) (by decide)
      ·
       exact absurd (g10 hg5) (by decide)
     ·
      exact absurd (g10 hg4) (by decide)
    ·
     exact absurd (g10 hg3) (by decide)
   ·
    exact absurd (g10 hg2) (by decide)
  ·
   exact absurd (g10 hg1) (by decide)

end Go.Pm

namespace Go.Pm
theorem checkI_one (r : Rls) : checkI [r] = relE r := by
  unfold checkI
  rw [if_neg (by simp)]
  unfold relsE
  split
  · rfl
  · rename_i h
    have h0 : relE r = 0 := by simpa using h
    rw [h0]; rfl
def spansT (l : List Span) : Bytes := l.flatMap fun y => intsS [y.lo, y.hi]
def manR (l : List Req) : Bytes := intsS [(l.length : Int)] ++ l.flatMap reqT
theorem manT_eq (r : Rls) : manT r = textS r.path ++ (uintS r.ver.min).1 ++ (uintS r.ver.pat).1 ++ (uintS (if r.yank then 1 else 0)).1 ++ textS r.arch ++ textS r.iface ++ textS r.cert ++ manR r.reqs := by
  simp [manT, headT, manR, textsS, intsS]
theorem reqT_eq (q : Req) : reqT q = textS q.path ++ (uintS (q.set.length : Int)).1 ++ spansT q.set := by
  simp [reqT, textsS, intsS, spansT]
theorem spans_take {l : List Span} {k : Nat} {y : Span} (h : l[k]? = some y) : spansT (l.take (k + 1)) = spansT (l.take k) ++ (uintS y.lo).1 ++ (uintS y.hi).1 := by
  unfold spansT; rw [take_succ h]; simp [intsS]
end Go.Pm

namespace Go.Pm
def stU (m : Bytes) (p : Nat × Bool) : Nat × Nat × Bool := if p.2 then rdN m p.1 else (0, p)
def stT (m : Bytes) (p : Nat × Bool) : Bytes × Nat × Bool := if p.2 then rdT m p.1 else ([], p)
def spStep (m : Bytes) (x : List Span × Nat × Bool) : List Span × Nat × Bool := if x.2.2 then (x.1 ++ [⟨((rdN m x.2.1).1 : Nat), ((stU m (rdN m x.2.1).2).1 : Nat)⟩], (stU m (rdN m x.2.1).2).2) else x
def spI (m : Bytes) (p : Nat × Bool) : Nat → List Span × Nat × Bool
  | 0 => ([], p)
  | k + 1 => spStep m (spI m p k)
def cU (m : Bytes) (p : Nat) : Nat × Nat × Bool := stU m (rdT m p).2
def qsStep (m : Bytes) (x : List Req × Nat × Bool) : List Req × Nat × Bool := if x.2.2 then (x.1 ++ [⟨(rdT m x.2.1).1, (spI m (cU m x.2.1).2 (cU m x.2.1).1).1⟩], (spI m (cU m x.2.1).2 (cU m x.2.1).1).2) else x
def qsI (m : Bytes) (p : Nat × Bool) : Nat → List Req × Nat × Bool
  | 0 => ([], p)
  | i + 1 => qsStep m (qsI m p i)
def rqs (m : Bytes) (p : Nat) : List Req × Nat × Bool := qsI m (rdN m p).2 (rdN m p).1
section
variable {m : Bytes}
theorem scanL_gt : ∀ (l : Bytes) (p i acc : Nat), (scanL l p i acc).2.2 = true → p + 1 ≤ (scanL l p i acc).2.1
  | [], p, i, acc, h => by simp [scanL] at h
  | b :: r, p, i, acc, h => by
    unfold scanL at h ⊢
    split at h
    · simp at h
    · rename_i h1
      rw [if_neg h1]
      split at h
      · simp at h
      · rename_i h2
        rw [if_neg h2]
        split at h
        · rename_i h3; rw [if_pos h3]; exact Nat.le_refl _
        · rename_i h3; rw [if_neg h3]
          have := scanL_gt r (p + 1) (i + 1) _ h
          omega
theorem rdN_gt {p : Nat} (h : (rdN m p).2.2 = true) : p + 1 ≤ (rdN m p).2.1 := by
  unfold rdN at h ⊢
  split at h
  · rename_i h1; rw [if_pos h1]
    simp [rdOK] at h1
    exact scanL_gt _ _ _ _ h1.1
  · simp at h
theorem rdT_gt {p : Nat} (h : (rdT m p).2.2 = true) : p + 1 ≤ (rdT m p).2.1 := by
  rw [rdT_rdN] at h ⊢
  split at h
  · rename_i h1; rw [if_pos h1]
    simp at h1
    have := rdN_gt h1.1
    dsimp only; omega
  · simp at h
theorem stU_le {p : Nat × Bool} (h : p.1 ≤ m.length) : (stU m p).2.1 ≤ m.length := by
  unfold stU; split
  · exact rdN_le h
  · exact h
theorem stU_ge {p : Nat × Bool} (h : (stU m p).2.2 = true) : p.1 + 1 ≤ (stU m p).2.1 ∧ p.2 = true := by
  unfold stU at h ⊢; split
  · rename_i h2; rw [if_pos h2] at h; exact ⟨rdN_gt h, h2⟩
  · rename_i h2; rw [if_neg h2] at h; exact absurd h h2
theorem sp_next {p : Nat × Bool} {k : Nat} (h : (spI m p k).2.2 = true) : spI m p (k + 1) = ((spI m p k).1 ++ [⟨((rdN m (spI m p k).2.1).1 : Nat), ((stU m (rdN m (spI m p k).2.1).2).1 : Nat)⟩], (stU m (rdN m (spI m p k).2.1).2).2) := by
  show spStep m _ = _; unfold spStep; rw [if_pos h]
theorem sp_stop {p : Nat × Bool} {k : Nat} (h : (spI m p k).2.2 = false) : ∀ {n : Nat}, k ≤ n → spI m p k = spI m p n
  | 0, hn => by rw [Nat.le_zero.1 hn]
  | n + 1, hn => by
    rcases Nat.lt_or_ge n k with h1 | h1
    · rw [show k = n + 1 from by omega]
    · have := sp_stop h h1
      show _ = spStep m _
      unfold spStep; rw [← this, if_neg (by simp [h])]
theorem sp_le {p : Nat × Bool} (h : p.1 ≤ m.length) : ∀ k, (spI m p k).2.1 ≤ m.length
  | 0 => h
  | k + 1 => by
    have ih := sp_le h k
    show (spStep m _).2.1 ≤ _
    unfold spStep; split
    · exact stU_le (rdN_le ih)
    · exact ih
theorem sp_ge {p : Nat × Bool} : ∀ k, (spI m p k).2.2 = true → p.1 + 2 * k ≤ (spI m p k).2.1 ∧ p.2 = true ∧ (spI m p k).1.length = k
  | 0, h => ⟨Nat.le_refl _, h, rfl⟩
  | k + 1, h => by
    have h0 : (spI m p k).2.2 = true := by
      cases hx : (spI m p k).2.2 with
      | true => rfl
      | false => rw [← sp_stop hx (Nat.le_succ k)] at h; rw [hx] at h; cases h
    obtain ⟨h1, h2, h3⟩ := sp_ge k h0
    rw [sp_next h0] at h ⊢
    obtain ⟨h4, h5⟩ := stU_ge h
    have := rdN_gt h5
    refine ⟨by dsimp only; omega, h2, by simp [h3]⟩
theorem cU_le (p : Nat) : (cU m p).2.1 ≤ m.length := stU_le (rdT_le _ _)
theorem qs_next {p : Nat × Bool} {i : Nat} (h : (qsI m p i).2.2 = true) : qsI m p (i + 1) = ((qsI m p i).1 ++ [⟨(rdT m (qsI m p i).2.1).1, (spI m (cU m (qsI m p i).2.1).2 (cU m (qsI m p i).2.1).1).1⟩], (spI m (cU m (qsI m p i).2.1).2 (cU m (qsI m p i).2.1).1).2) := by
  show qsStep m _ = _; unfold qsStep; rw [if_pos h]
theorem qs_stop {p : Nat × Bool} {k : Nat} (h : (qsI m p k).2.2 = false) : ∀ {n : Nat}, k ≤ n → qsI m p k = qsI m p n
  | 0, hn => by rw [Nat.le_zero.1 hn]
  | n + 1, hn => by
    rcases Nat.lt_or_ge n k with h1 | h1
    · rw [show k = n + 1 from by omega]
    · have := qs_stop h h1
      show _ = qsStep m _
      unfold qsStep; rw [← this, if_neg (by simp [h])]
theorem qs_step_gt {p : Nat × Bool} {k : Nat} (h : (qsI m p (k + 1)).2.2 = true) : (qsI m p k).2.2 = true ∧ (qsI m p k).2.1 + 1 ≤ (qsI m p (k + 1)).2.1 := by
  have h0 : (qsI m p k).2.2 = true := by
    cases hx : (qsI m p k).2.2 with
    | true => rfl
    | false => rw [← qs_stop hx (Nat.le_succ k)] at h; rw [hx] at h; cases h
  refine ⟨h0, ?_⟩
  rw [qs_next h0] at h ⊢
  obtain ⟨h1, h2, _⟩ := sp_ge _ h
  obtain ⟨h3, h4⟩ := stU_ge (p := (rdT m (qsI m p k).2.1).2) h2
  have := rdT_gt h4
  have h3' : (rdT m (qsI m p k).2.1).2.1 + 1 ≤ (cU m (qsI m p k).2.1).2.1 := h3
  dsimp only; omega
theorem qs_ge {p : Nat × Bool} : ∀ k, (qsI m p k).2.2 = true → p.1 + k ≤ (qsI m p k).2.1 ∧ p.2 = true ∧ (qsI m p k).1.length = k
  | 0, h => ⟨Nat.le_refl _, h, rfl⟩
  | k + 1, h => by
    obtain ⟨h0, hg⟩ := qs_step_gt h
    obtain ⟨h1, h2, h3⟩ := qs_ge k h0
    refine ⟨by omega, h2, ?_⟩
    rw [qs_next h0]; simp [h3]
end
def rr1 (m : Bytes) : Bytes × Nat × Bool := rdT m 0
def rr2 (m : Bytes) : Nat × Nat × Bool := stU m (rr1 m).2
def rr3 (m : Bytes) : Nat × Nat × Bool := stU m (rr2 m).2
def rr4 (m : Bytes) : Nat × Nat × Bool := stU m (rr3 m).2
def rr5 (m : Bytes) : Bytes × Nat × Bool := stT m (rr4 m).2
def rr6 (m : Bytes) : Bytes × Nat × Bool := stT m (rr5 m).2
def rr7 (m : Bytes) : Bytes × Nat × Bool := stT m (rr6 m).2
def rr8 (m : Bytes) : List Req × Nat × Bool := if (rr7 m).2.2 then rqs m (rr7 m).2.1 else ([], (rr7 m).2)
@[reducible] def outR (m : Bytes) : Rls := ⟨(rr1 m).1, ⟨majN (rr1 m).1, ((rr2 m).1 : Nat), ((rr3 m).1 : Nat)⟩, (rr8 m).1, (rr5 m).1, (rr6 m).1, (rr7 m).1, (((rr4 m).1 : Nat) : Int) == 1⟩
def refB (m : Bytes) : Prop := (rr8 m).2.2 = false ∨ (((rr4 m).1 : Nat) : Int) > 1 ∨ (rr8 m).2.1 ≠ m.length ∨ relE (outR m) ≠ 0
instance (m : Bytes) : Decidable (refB m) := by unfold refB; infer_instance
def refRd (m : Bytes) : Rls × Int := if refB m then (zeroR, 9) else (outR m, 0)
section
variable (m : Bytes)
theorem stT_le {p : Nat × Bool} (h : p.1 ≤ m.length) : (stT m p).2.1 ≤ m.length := by
  unfold stT; split
  · exact rdT_le _ _
  · exact h
theorem le1 : (rr1 m).2.1 ≤ m.length := rdT_le _ _
theorem le2 : (rr2 m).2.1 ≤ m.length := stU_le (le1 m)
theorem le3 : (rr3 m).2.1 ≤ m.length := stU_le (le2 m)
theorem le4 : (rr4 m).2.1 ≤ m.length := stU_le (le3 m)
theorem le5 : (rr5 m).2.1 ≤ m.length := stT_le m (le4 m)
theorem le6 : (rr6 m).2.1 ≤ m.length := stT_le m (le5 m)
theorem le7 : (rr7 m).2.1 ≤ m.length := stT_le m (le6 m)
end
end Go.Pm
namespace Go.Pm
end Go.Pm

namespace Go.Pm
structure RR (m : Bytes) (r : RS) (p : Nat × Bool) : Prop where
  s : r.s = m
  t : p.2 = true → r.e = 0 ∧ r.pos = p.1
  f : p.2 = false → r.e ≠ 0
section
variable {m : Bytes} {r : RS} {p : Nat × Bool}
theorem rdN_no {a : Nat} (h : (rdN m a).2.2 = false) : (rdN m a).1 = 0 := by
  unfold rdN at h ⊢; split at h
  · simp at h
  · rename_i h1; rw [if_neg h1]
theorem rdT_no {a : Nat} (h : (rdT m a).2.2 = false) : (rdT m a).1 = [] := by
  unfold rdT at h ⊢; split at h
  · simp at h
  · rename_i h1; rw [if_neg h1]
theorem take_bad {α : Type} (h : r.e ≠ 0) (y : α × Nat × Bool) (z : α) : r.take y z = (z, r) := by unfold RS.take; rw [if_neg h]
theorem take_yes {α : Type} (h : r.e = 0) {y : α × Nat × Bool} (hy : y.2.2 = true) (z : α) : r.take y z = (y.1, { r with pos := y.2.1 }) := by unfold RS.take; rw [if_pos h, if_pos hy]
theorem take_no {α : Type} (h : r.e = 0) {y : α × Nat × Bool} (hy : y.2.2 = false) (z : α) : r.take y z = (z, { r with e := 9 }) := by unfold RS.take; rw [if_pos h, if_neg (by simp [hy])]
theorem uint_rr (h : RR m r p) : r.uint.1 = (((stU m p).1 : Nat) : Int) ∧ RR m r.uint.2 (stU m p).2 := by
  obtain ⟨a, b⟩ := p
  cases b with
  | false =>
    have he := h.f rfl
    have e : r.uint = (0, r) := take_bad he _ _
    rw [e]
    exact ⟨rfl, h⟩
  | true =>
    obtain ⟨rs, rp, re⟩ := r
    obtain rfl : rs = m := h.s
    obtain rfl : re = 0 := (h.t rfl).1
    obtain rfl : rp = a := (h.t rfl).2
    have e2 : stU rs (rp, true) = rdN rs rp := rfl
    rw [e2]
    cases hy : (rdN rs rp).2.2 with
    | true =>
      have e : RS.uint ⟨rs, rp, 0⟩ = ((((rdN rs rp).1 : Nat) : Int), ⟨rs, (rdN rs rp).2.1, 0⟩) := take_yes (r := ⟨rs, rp, 0⟩) (y := ((((rdN rs rp).1 : Nat) : Int), (rdN rs rp).2)) rfl hy 0
      rw [e]
      exact ⟨rfl, rfl, fun _ => ⟨rfl, rfl⟩, fun h2 => by rw [hy] at h2; cases h2⟩
    | false =>
      have e : RS.uint ⟨rs, rp, 0⟩ = (0, ⟨rs, rp, 9⟩) := take_no (r := ⟨rs, rp, 0⟩) (y := ((((rdN rs rp).1 : Nat) : Int), (rdN rs rp).2)) rfl hy 0
      rw [e, rdN_no hy]
      exact ⟨rfl, rfl, fun h2 => by (rw [hy] at h2; cases h2), fun _ => by simp⟩
theorem text_rr (h : RR m r p) : r.text.1 = (stT m p).1 ∧ RR m r.text.2 (stT m p).2 := by
  obtain ⟨a, b⟩ := p
  cases b with
  | false =>
    have he := h.f rfl
    have e : r.text = ([], r) := take_bad he _ _
    rw [e]
    exact ⟨rfl, h⟩
  | true =>
    obtain ⟨rs, rp, re⟩ := r
    obtain rfl : rs = m := h.s
    obtain rfl : re = 0 := (h.t rfl).1
    obtain rfl : rp = a := (h.t rfl).2
    have e2 : stT rs (rp, true) = rdT rs rp := rfl
    rw [e2]
    cases hy : (rdT rs rp).2.2 with
    | true =>
      have e : RS.text ⟨rs, rp, 0⟩ = ((rdT rs rp).1, ⟨rs, (rdT rs rp).2.1, 0⟩) := take_yes (r := ⟨rs, rp, 0⟩) (y := rdT rs rp) rfl hy []
      rw [e]
      exact ⟨rfl, rfl, fun _ => ⟨rfl, rfl⟩, fun h2 => by rw [hy] at h2; cases h2⟩
    | false =>
      have e : RS.text ⟨rs, rp, 0⟩ = ([], ⟨rs, rp, 9⟩) := take_no (r := ⟨rs, rp, 0⟩) (y := rdT rs rp) rfl hy []
      rw [e, rdT_no hy]
      exact ⟨rfl, rfl, fun h2 => by (rw [hy] at h2; cases h2), fun _ => by simp⟩
/-- A count that is small enough is read as a number; a greater one is an error. -/
theorem count_rr (h : RR m r p) (most : Int) (h0 : 0 ≤ most) :
    ((((stU m p).1 : Nat) : Int) ≤ most ∧ (r.count most).1 = (((stU m p).1 : Nat) : Int) ∧ RR m (r.count most).2 (stU m p).2) ∨ (most < (((stU m p).1 : Nat) : Int) ∧ (r.count most).1 = 0 ∧ (r.count most).2.e ≠ 0) := by
  obtain ⟨a, b⟩ := p
  cases b with
  | false =>
    have he := h.f rfl
    have e : r.count most = (0, r) := take_bad he _ _
    rw [e]
    exact .inl ⟨h0, rfl, h⟩
  | true =>
    obtain ⟨rs, rp, re⟩ := r
    obtain rfl : rs = m := h.s
    obtain rfl : re = 0 := (h.t rfl).1
    obtain rfl : rp = a := (h.t rfl).2
    have e2 : stU rs (rp, true) = rdN rs rp := rfl
    rw [e2]
    by_cases hm : (((rdN rs rp).1 : Nat) : Int) ≤ most
    · refine .inl ⟨hm, ?_⟩
      cases hy : (rdN rs rp).2.2 with
      | true =>
        have hc : rdC rs rp most = rdN rs rp := by unfold rdC; rw [if_pos (by simp [hy, hm])]
        have e : RS.count ⟨rs, rp, 0⟩ most = ((((rdN rs rp).1 : Nat) : Int), ⟨rs, (rdN rs rp).2.1, 0⟩) := by
          unfold RS.count
          show RS.take _ ((((rdC rs rp most).1 : Nat) : Int), (rdC rs rp most).2) 0 = _
          rw [hc]; exact take_yes (r := ⟨rs, rp, 0⟩) (y := ((((rdN rs rp).1 : Nat) : Int), (rdN rs rp).2)) rfl hy 0
        rw [e]
        exact ⟨rfl, rfl, fun _ => ⟨rfl, rfl⟩, fun h2 => by rw [hy] at h2; cases h2⟩
      | false =>
        have hc : rdC rs rp most = (0, 0, false) := by unfold rdC; rw [if_neg (by simp [hy])]
        have e : RS.count ⟨rs, rp, 0⟩ most = (0, ⟨rs, rp, 9⟩) := by
          unfold RS.count
          show RS.take _ ((((rdC rs rp most).1 : Nat) : Int), (rdC rs rp most).2) 0 = _
          rw [hc]; exact take_no (r := ⟨rs, rp, 0⟩) (y := (((0 : Nat) : Int), 0, false)) rfl rfl 0
        rw [e, rdN_no hy]
        exact ⟨rfl, rfl, fun h2 => by (rw [hy] at h2; cases h2), fun _ => by simp⟩
    · refine .inr ⟨by omega, ?_⟩
      have hc : rdC rs rp most = (0, 0, false) := by unfold rdC; rw [if_neg (by simp [hm])]
      have e : RS.count ⟨rs, rp, 0⟩ most = (0, ⟨rs, rp, 9⟩) := by
        unfold RS.count
        show RS.take _ ((((rdC rs rp most).1 : Nat) : Int), (rdC rs rp most).2) 0 = _
        rw [hc]; exact take_no (r := ⟨rs, rp, 0⟩) (y := (((0 : Nat) : Int), 0, false)) rfl rfl 0
      rw [e]
      exact ⟨rfl, by simp⟩
theorem sp_rr (h : RR m r p) : ∀ k, (sI r k).1 = (spI m p k).1 ∧ RR m (sI r k).2 (spI m p k).2
  | 0 => ⟨rfl, h⟩
  | k + 1 => by
    obtain ⟨h1, h2⟩ := sp_rr h k
    cases hx : (spI m p k).2.2 with
    | true =>
      have he := (h2.t hx).1
      rw [sp_next hx, sI_next he]
      have h3 := uint_rr h2
      have e3 : stU m (spI m p k).2 = rdN m (spI m p k).2.1 := by unfold stU; rw [if_pos hx]
      rw [e3] at h3
      have h4 := uint_rr h3.2
      exact ⟨by dsimp only; rw [h1, h3.1, h4.1], h4.2⟩
    | false =>
      have he := h2.f hx
      rw [← sp_stop hx (Nat.le_succ k), ← sI_stop he (Nat.le_succ k)]
      exact ⟨h1, h2⟩
theorem bad_text (h : r.e ≠ 0) : r.text = ([], r) := take_bad h _ _
theorem bad_count (h : r.e ≠ 0) (n : Int) : r.count n = (0, r) := take_bad h _ _
theorem bad_q (h : r.e ≠ 0) (len : Int) : (rdc len r).2.e ≠ 0 ∧ (sI (rdc len r).2 (rdc len r).1.toNat).2.e ≠ 0 := by
  have e : rdc len r = (0, r) := by unfold rdc; rw [bad_text h, bad_count h]
  rw [e]; exact ⟨h, h⟩
theorem bad_qI (len : Int) : ∀ i, r.e ≠ 0 → (qI len r i).2.e ≠ 0
  | 0, h => h
  | i + 1, h => (bad_q (bad_qI len i h) len).2
theorem qs_rr (h : RR m r p) (hp : p.1 ≤ m.length) : ∀ i, ((qsI m p i).2.2 = true → (qI m.length r i).1 = (qsI m p i).1 ∧ RR m (qI m.length r i).2 (qsI m p i).2) ∧ ((qsI m p i).2.2 = false → (qI m.length r i).2.e ≠ 0)
  | 0 => ⟨fun _ => ⟨rfl, h⟩, fun hx => h.f hx⟩
  | i + 1 => by
    obtain ⟨h1, h2⟩ := qs_rr h hp i
    cases hx : (qsI m p i).2.2 with
    | false =>
      rw [← qs_stop hx (Nat.le_succ i)]
      exact ⟨fun hy => by (rw [hx] at hy; cases hy), fun _ => (bad_q (h2 hx) _).2⟩
    | true =>
      obtain ⟨hl, hr⟩ := h1 hx
      rw [qs_next hx]
      have ht := text_rr hr
      have e3 : stT m (qsI m p i).2 = rdT m (qsI m p i).2.1 := by unfold stT; rw [if_pos hx]
      rw [e3] at ht
      have hstep : qI m.length r (i + 1) = qstep m.length (qI m.length r i) := rfl
      rcases count_rr ht.2 (m.length : Int) (by omega) with ⟨ha, hb, hc⟩ | ⟨ha, hb, hc⟩
      · have hn : (rdc m.length (qI m.length r i).2).1.toNat = (cU m (qsI m p i).2.1).1 := by
          show ((qI m.length r i).2.text.2.count m.length).1.toNat = _
          rw [hb]; exact Int.toNat_natCast _
        have hs := sp_rr hc (cU m (qsI m p i).2.1).1
        have e1 : (qI m.length r (i + 1)).1 = (qsI m p i).1 ++ [⟨(rdT m (qsI m p i).2.1).1, (spI m (cU m (qsI m p i).2.1).2 (cU m (qsI m p i).2.1).1).1⟩] := by
          rw [hstep]; unfold qstep
          dsimp only
          rw [hn, hl, ht.1]
          have := hs.1
          unfold cU at this ⊢
          rw [← this]; rfl
        have e2 : (qI m.length r (i + 1)).2 = (sI ((qI m.length r i).2.text.2.count m.length).2 (cU m (qsI m p i).2.1).1).2 := by
          rw [hstep]; unfold qstep
          dsimp only
          rw [hn]; rfl
        refine ⟨fun _ => ⟨e1, by rw [e2]; exact hs.2⟩, fun hy => ?_⟩
        rw [e2]; exact hs.2.f hy
      · refine ⟨fun hy => ?_, fun _ => ?_⟩
        · exfalso
          have h5 := (sp_ge _ hy).1
          have h6 := sp_le (m := m) (p := (cU m (qsI m p i).2.1).2) (cU_le _) (cU m (qsI m p i).2.1).1
          have h7 : (m.length : Int) < (((cU m (qsI m p i).2.1).1 : Nat) : Int) := ha
          omega
        · rw [hstep]; unfold qstep rdc
          dsimp only
          rw [hb]
          exact hc
end
theorem done_iff {m : Bytes} {r : RS} (hs : r.s = m) (he : r.e = 0) (hp : r.pos ≤ m.length) : r.done ≠ 0 ↔ r.pos ≠ m.length := by
  unfold RS.done
  rw [hs]
  by_cases h : r.pos < m.length
  · rw [if_pos ⟨he, h⟩]; simp; omega
  · rw [if_neg (fun h2 => h h2.2), he]; simp; omega
theorem done_bad {r : RS} (he : r.e ≠ 0) : r.done ≠ 0 := by
  unfold RS.done; rw [if_neg (fun h => he h.1)]; exact he
theorem read_eq (m : Bytes) : readI m = refRd m := by
  have r0 : RR m ⟨m, 0, 0⟩ (0, true) := ⟨rfl, fun _ => ⟨rfl, rfl⟩, fun h => by cases h⟩
  have t1 := text_rr r0
  have e1 : (rd1 m).1 = (rr1 m).1 := t1.1
  have r1 : RR m (rd1 m).2 (rr1 m).2 := t1.2
  have t2 := uint_rr r1
  have e2 : (rd2 m).1 = ((rr2 m).1 : Nat) := t2.1
  have r2 : RR m (rd2 m).2 (rr2 m).2 := t2.2
  have t3 := uint_rr r2
  have e3 : (rd3 m).1 = ((rr3 m).1 : Nat) := t3.1
  have r3 : RR m (rd3 m).2 (rr3 m).2 := t3.2
  have bad : ∀ {r : RS}, r.e ≠ 0 → ∀ n, (qI m.length r n).2.done ≠ 0 := fun h n => done_bad (bad_qI _ n h)
  have both : readB m → refB m → readI m = refRd m := fun h k => by unfold readI refRd; rw [if_pos h, if_pos k]
  rcases count_rr r3 1 (by omega) with ⟨ha, hb, hc⟩ | ⟨ha, hb, hc⟩
  rotate_left
  · refine both (.inr (.inl ?_)) (.inr (.inl ha))
    have b4 : (rd4 m).2.e ≠ 0 := hc
    have b5 : (rd5 m).2.e ≠ 0 := by unfold rd5; rw [bad_text b4]; exact b4
    have b6 : (rd6 m).2.e ≠ 0 := by unfold rd6; rw [bad_text b5]; exact b5
    have b7 : (rd7 m).2.e ≠ 0 := by unfold rd7; rw [bad_text b6]; exact b6
    have b8 : (rd8 m).2.e ≠ 0 := by unfold rd8; rw [bad_count b7]; exact b7
    exact bad b8 _
  have e4 : (rd4 m).1 = ((rr4 m).1 : Nat) := hb
  have r4 : RR m (rd4 m).2 (rr4 m).2 := hc
  have hy1 : ¬ (((rr4 m).1 : Nat) : Int) > 1 := by have : (((rr4 m).1 : Nat) : Int) ≤ 1 := ha; omega
  have t5 := text_rr r4
  have e5 : (rd5 m).1 = (rr5 m).1 := t5.1
  have r5 : RR m (rd5 m).2 (rr5 m).2 := t5.2
  have t6 := text_rr r5
  have e6 : (rd6 m).1 = (rr6 m).1 := t6.1
  have r6 : RR m (rd6 m).2 (rr6 m).2 := t6.2
  have t7 := text_rr r6
  have e7 : (rd7 m).1 = (rr7 m).1 := t7.1
  have r7 : RR m (rd7 m).2 (rr7 m).2 := t7.2
  cases h7 : (rr7 m).2.2 with
  | false =>
    refine both (.inr (.inl ?_)) (.inl ?_)
    · have b7 := r7.f h7
      have b8 : (rd8 m).2.e ≠ 0 := by unfold rd8; rw [bad_count b7]; exact b7
      exact bad b8 _
    · unfold rr8; rw [if_neg (by simp [h7])]; exact h7
  | true =>
  have e8 : rr8 m = rqs m (rr7 m).2.1 := by unfold rr8; rw [if_pos h7]
  have es : stU m (rr7 m).2 = rdN m (rr7 m).2.1 := by unfold stU; rw [if_pos h7]
  have hle8 : (rdN m (rr7 m).2.1).2.1 ≤ m.length := rdN_le (le7 m)
  rcases count_rr r7 16 (by omega) with ⟨ha, hb, hc⟩ | ⟨ha, hb, hc⟩
  · rw [es] at ha hb hc
    have hn : (rd8 m).1.toNat = (rdN m (rr7 m).2.1).1 := by
      have : (rd8 m).1 = (((rdN m (rr7 m).2.1).1 : Nat) : Int) := hb
      rw [this]; exact Int.toNat_natCast _
    have hq := qs_rr (r := (rd8 m).2) hc hle8 (rdN m (rr7 m).2.1).1
    have e9 : rd9 m = qI m.length (rd8 m).2 (rdN m (rr7 m).2.1).1 := by unfold rd9; rw [hn]
    cases h8 : (rr8 m).2.2 with
    | false =>
      refine both (.inr (.inl ?_)) (.inl h8)
      rw [e9]
      exact done_bad (hq.2 (by rw [e8] at h8; exact h8))
    | true =>
      obtain ⟨k1, k2⟩ := hq.1 (by rw [e8] at h8; exact h8)
      have hout : outI m = outR m := by
        unfold outI outR
        rw [e1, e2, e3, e4, e5, e6, e7, e9, k1, e8]; rfl
      have hkt := k2.t (by rw [e8] at h8; exact h8)
      have hpos : (rd9 m).2.pos = (rr8 m).2.1 := by rw [e9, e8]; exact hkt.2
      have hle : (rd9 m).2.pos ≤ m.length := (in9 m).p
      have hd : (rd9 m).2.done ≠ 0 ↔ (rr8 m).2.1 ≠ m.length := by
        rw [← hpos]; exact done_iff (in9 m).s (by rw [e9]; exact hkt.1) hle
      have hiff : readB m ↔ refB m := by
        unfold readB refB
        rw [hd, checkI_one, hout]
        constructor
        · rintro (h | h | h)
          · refine .inr (.inr (.inr ?_))
            rw [e1] at h
            rw [relE_1 (r := outR m) h]; decide
          · exact .inr (.inr (.inl h))
          · exact .inr (.inr (.inr h))
        · rintro (h | h | h | h)
          · rw [h8] at h; cases h
          · exact absurd h hy1
          · exact .inr (.inl h)
          · exact .inr (.inr h)
      unfold readI refRd
      by_cases hB : refB m
      · rw [if_pos (hiff.2 hB), if_pos hB]
      · rw [if_neg (fun h => hB (hiff.1 h)), if_neg hB, hout]
  · rw [es] at ha
    refine both (.inr (.inl ?_)) ?_
    · have b8 : (rd8 m).2.e ≠ 0 := hc
      exact bad b8 _
    · cases h8 : (rr8 m).2.2 with
      | false => exact .inl h8
      | true =>
        refine .inr (.inr (.inr fun h0 => ?_))
        have h1 := relE_reqs h0
        have h1 : (rr8 m).1.length ≤ 16 := h1
        rw [e8] at h1 h8
        have := (qs_ge _ h8).2.2
        have h2 : (rqs m (rr7 m).2.1).1.length = (rdN m (rr7 m).2.1).1 := this
        omega
end Go.Pm

namespace Go.Pm
open Go.Proofs
theorem readI_sm {m : Bytes} (hm : m.length ≤ 100000) {x : Rls} {e : Int} (h : readI m = (x, e)) : x.Sm := by
  unfold readI at h
  split at h
  · simp at h; rw [← h.1]; exact zeroR_sm
  · simp only [Prod.mk.injEq] at h; rw [← h.1]; exact out_sm m hm
theorem c17r (r : Rls) (hr : r.Sm) : Fn PR 17 [.d r.d] [] [.d (.str (if relE r = 0 then manT r else [])), .d (I (relE r))] [] := by
  have h := c17 r hr
  rw [checkI_one] at h; exact h
theorem c19g (m : Bytes) (hm : m.length ≤ 100000) (x : Rls) (e : Int) (h : readI m = (x, e)) : Fn PR 19 [.d (.str m)] [] [.d x.d, .d (I e)] [] := by
  have k := c19 m hm
  rw [h] at k; exact k
end Go.Pm

namespace Go.Pm
theorem of8 {n : Nat} (h : n < 256) : (UInt8.ofNat n).toNat = n := by
  rw [UInt8.toNat_ofNat']; exact Nat.mod_eq_of_lt h
/-- What is written, read from round i on. -/
theorem scan_uvar : ∀ (f n i p acc : Nat) (rest : Bytes), f + i = 9 → n < 2 * 128 ^ f → (0 < i → 0 < n) →
    scanL (uvarF f n ++ rest) p i acc = (acc + n * 128 ^ i, p + (uvarF f n).length, true)
  | 0, n, i, p, acc, rest, hi, hn, hz => by
    have h1 : n ≤ 1 := by simp at hn; omega
    have e8 : (UInt8.ofNat n).toNat = n := of8 (by omega)
    simp only [uvarF, List.singleton_append, List.length_singleton]
    rw [scanL, e8, if_neg (by omega), if_neg (by omega), if_pos (by omega)]
    rw [Nat.mod_eq_of_lt (by omega)]
    have : 0 < n := hz (by omega)
    simp [this]
  | f + 1, n, i, p, acc, rest, hi, hn, hz => by
    by_cases hl : n < 128
    · have e8 : (UInt8.ofNat n).toNat = n := of8 (by omega)
      simp only [uvarF, if_pos hl, List.singleton_append, List.length_singleton]
      rw [scanL, e8, if_neg (by omega), if_neg (by omega), if_pos hl, Nat.mod_eq_of_lt hl]
      rcases Nat.eq_zero_or_pos i with h | h
      · simp [h]
      · have := hz h; simp [this]
    · have hm : n % 128 < 128 := Nat.mod_lt _ (by omega)
      have e8 : (UInt8.ofNat (n % 128 + 128)).toNat = n % 128 + 128 := of8 (by omega)
      simp only [uvarF, if_neg hl, List.cons_append, List.length_cons]
      rw [scanL, e8, if_neg (by omega), if_neg (by omega), if_neg (by omega)]
      have hd : n / 128 < 2 * 128 ^ f := by
        rw [Nat.div_lt_iff_lt_mul (by omega), Nat.mul_assoc, ← Nat.pow_succ]; exact hn
      have hpos : 0 < n / 128 := Nat.div_pos (by omega) (by omega)
      rw [scan_uvar f (n / 128) (i + 1) (p + 1) _ rest (by omega) hd (fun _ => hpos)]
      have em : (n % 128 + 128) % 128 = n % 128 := by omega
      rw [em, Nat.pow_succ]
      have : n = 128 * (n / 128) + n % 128 := (Nat.div_add_mod n 128).symm
      refine Prod.ext ?_ (Prod.ext ?_ rfl)
      · show acc + n % 128 * 128 ^ i + n / 128 * (128 ^ i * 128) = acc + n * 128 ^ i
        conv => rhs; rw [this, Nat.add_mul]
        have e1 : n / 128 * (128 ^ i * 128) = 128 * (n / 128) * 128 ^ i := by rw [Nat.mul_comm (128 ^ i) 128, ← Nat.mul_assoc, Nat.mul_comm (n / 128) 128]
        rw [e1]; omega
      · show p + 1 + (uvarF f (n / 128)).length = p + ((uvarF f (n / 128)).length + 1)
        omega
theorem rdU_uvar {pre rest : Bytes} {n : Nat} (hn : n < 9223372036854775808) : rdU (pre ++ (uvar n ++ rest)) pre.length = (n, pre.length + (uvar n).length, true) := by
  unfold rdU uvar
  rw [List.drop_append_of_le_length (Nat.le_refl _), List.drop_length, List.nil_append]
  have := scan_uvar 9 n 0 pre.length 0 rest rfl (by have : (128 : Nat) ^ 9 = 9223372036854775808 := by decide
                                                    omega) (fun h => by omega)
  rw [this]; simp
theorem rdN_uvar {pre rest : Bytes} {n : Nat} (hn : n < 9223372036854775808) : rdN (pre ++ (uvar n ++ rest)) pre.length = (n, pre.length + (uvar n).length, true) := by
  unfold rdN rdOK; rw [rdU_uvar hn]; simp [hn]
theorem rdT_text {pre rest s : Bytes} (hs : s.length < 9223372036854775808) : rdT (pre ++ (textS s ++ rest)) pre.length = (s, pre.length + (textS s).length, true) := by
  have e : pre ++ (textS s ++ rest) = pre ++ (uvar s.length ++ (s ++ rest)) := by simp [textS]
  rw [e, rdT_rdN, rdN_uvar hs, if_pos (by simp; omega)]
  refine Prod.ext ?_ (Prod.ext ?_ rfl)
  · show ((pre ++ (uvar s.length ++ (s ++ rest))).drop (pre.length + (uvar s.length).length)).take s.length = s
    rw [← List.append_assoc, List.drop_append_of_le_length (by simp), List.drop_of_length_le (by simp), List.nil_append, List.take_append_of_le_length (Nat.le_refl _), List.take_length]
  · show pre.length + (uvar s.length).length + s.length = pre.length + (textS s).length
    simp [textS]; omega
/-- What is read from round i on was written so. -/
theorem scan_inv : ∀ (l : Bytes) (p i acc : Nat), i ≤ 9 → (scanL l p i acc).2.2 = true → ∃ v rest, l = uvarF (9 - i) v ++ rest ∧ (scanL l p i acc).1 = acc + v * 128 ^ i ∧ (scanL l p i acc).2.1 = p + (uvarF (9 - i) v).length ∧ (0 < i → 0 < v)
  | [], p, i, acc, hi, h => by simp [scanL] at h
  | b :: r, p, i, acc, hi, h => by
    unfold scanL at h ⊢
    rw [if_neg (by omega)] at h ⊢
    by_cases h9 : i = 9 ∧ 1 < b.toNat
    · rw [if_pos h9] at h; simp at h
    · rw [if_neg h9] at h ⊢
      by_cases hb : b.toNat < 128
      · rw [if_pos hb] at h ⊢
        refine ⟨b.toNat, r, ?_, by dsimp only; rw [Nat.mod_eq_of_lt hb], ?_, fun h0 => ?_⟩
        · rw [uvarF_lt hb]; simp
        · rw [uvarF_lt hb]; rfl
        · simp only [Bool.or_eq_true, decide_eq_true_eq] at h; omega
      · rw [if_neg hb] at h ⊢
        have hi9 : i < 9 := by
          rcases Nat.lt_or_ge i 9 with h1 | h1
          · exact h1
          · exfalso; exact h9 ⟨by omega, by omega⟩
        obtain ⟨v, rest, h1, h2, h3, h4⟩ := scan_inv r (p + 1) (i + 1) _ (by omega) h
        have hv := h4 (by omega)
        have hbt := UInt8.toNat_lt b
        refine ⟨b.toNat % 128 + 128 * v, rest, ?_, ?_, ?_, fun _ => by omega⟩
        · obtain ⟨g, hg⟩ : ∃ g, 9 - i = g + 1 := ⟨8 - i, by omega⟩
          have hg2 : 9 - (i + 1) = g := by omega
          rw [hg]; rw [hg2] at h1
          rw [uvarF, if_neg (by omega)]
          have e1 : (b.toNat % 128 + 128 * v) % 128 = b.toNat % 128 := by omega
          have e2 : (b.toNat % 128 + 128 * v) / 128 = v := by omega
          rw [e1, e2, h1]
          have e3 : UInt8.ofNat (b.toNat % 128 + 128) = b := by
            have : b.toNat % 128 + 128 = b.toNat := by omega
            rw [this]; exact UInt8.ofNat_toNat
          rw [e3]; rfl
        · rw [h2, Nat.pow_succ, Nat.add_mul, Nat.mul_comm 128 v, Nat.mul_assoc, Nat.mul_comm 128 (128 ^ i)]; omega
        · rw [h3]
          obtain ⟨g, hg⟩ : ∃ g, 9 - i = g + 1 := ⟨8 - i, by omega⟩
          have hg2 : 9 - (i + 1) = g := by omega
          rw [hg, hg2, uvarF, if_neg (by omega)]
          have e2 : (b.toNat % 128 + 128 * v) / 128 = v := by omega
          rw [e2]; simp; omega
theorem rdN_inv {m : Bytes} {p : Nat} (h : (rdN m p).2.2 = true) : m.drop p = uvar (rdN m p).1 ++ m.drop (rdN m p).2.1 ∧ (rdN m p).2.1 = p + (uvar (rdN m p).1).length := by
  have hr : rdN m p = ((rdU m p).1, (rdU m p).2.1, true) := by
    unfold rdN at h ⊢; split at h
    · rename_i h1; rw [if_pos h1]
    · simp at h
  have hok : (rdU m p).2.2 = true := by
    unfold rdN at h; split at h
    · rename_i h1; simp [rdOK] at h1; exact h1.1
    · simp at h
  rw [hr]
  obtain ⟨v, rest, h1, h2, h3, _⟩ := scan_inv (m.drop p) p 0 0 (by omega) hok
  have e : (rdU m p).1 = v := by
    have : (rdU m p).1 = 0 + v * 128 ^ 0 := h2
    simpa using this
  have e3 : (rdU m p).2.1 = p + (uvar v).length := h3
  dsimp only
  rw [e, e3]
  refine ⟨?_, rfl⟩
  have h1 : m.drop p = uvar v ++ rest := h1
  have : m.drop (p + (uvar v).length) = rest := by rw [← List.drop_drop, h1, List.drop_left]
  rw [h1, this]
theorem rdT_inv {m : Bytes} {p : Nat} (h : (rdT m p).2.2 = true) : m.drop p = textS (rdT m p).1 ++ m.drop (rdT m p).2.1 ∧ (rdT m p).2.1 = p + (textS (rdT m p).1).length := by
  rw [rdT_rdN] at h ⊢
  split at h
  · rename_i h1
    rw [if_pos h1]
    simp only [Bool.and_eq_true, decide_eq_true_eq] at h1
    obtain ⟨h2, h3⟩ := rdN_inv h1.1
    dsimp only
    have hl : ((m.drop (rdN m p).2.1).take (rdN m p).1).length = (rdN m p).1 := by simp; omega
    have ht : textS ((m.drop (rdN m p).2.1).take (rdN m p).1) = uvar (rdN m p).1 ++ (m.drop (rdN m p).2.1).take (rdN m p).1 := by unfold textS; rw [hl]
    rw [ht]
    refine ⟨?_, ?_⟩
    · rw [List.append_assoc, ← List.drop_drop, List.take_append_drop]; exact h2
    · rw [List.length_append, hl, ← Nat.add_assoc, ← h3]
  · simp at h
end Go.Pm

namespace Go.Pm
theorem rdT_at {m pre rest s : Bytes} (h : m = pre ++ (textS s ++ rest)) (hs : s.length < 9223372036854775808) : rdT m pre.length = (s, (pre ++ textS s).length, true) := by
  subst h; rw [rdT_text hs, List.length_append]
theorem rdN_at {m pre rest : Bytes} {n : Nat} (h : m = pre ++ (uvar n ++ rest)) (hn : n < 9223372036854775808) : rdN m pre.length = (n, (pre ++ uvar n).length, true) := by
  subst h; rw [rdN_uvar hn, List.length_append]
theorem uintS_nat {n : Int} (h : 0 ≤ n) : (uintS n).1 = uvar n.toNat := by unfold uintS; rw [if_neg (by omega)]
theorem uintS_cast (n : Nat) : (uintS (n : Int)).1 = uvar n := by rw [uintS_nat (by omega)]; rw [Int.toNat_natCast]
theorem sp_read {m : Bytes} {l : List Span} (hb : ∀ y ∈ l, 0 ≤ y.lo ∧ 0 ≤ y.hi ∧ y.lo ≤ 1000000 ∧ y.hi ≤ 1000000) {pre rest : Bytes} (h : m = pre ++ (spansT l ++ rest)) : ∀ k, k ≤ l.length → spI m (pre.length, true) k = (l.take k, (pre ++ spansT (l.take k)).length, true)
  | 0, _ => by simp [spI, spansT]
  | k + 1, hk => by
    have ih := sp_read hb h k (by omega)
    have hn : l[k]? = some l[k] := List.getElem?_eq_getElem (by omega)
    obtain ⟨y, hy⟩ : ∃ y, l[k]? = some y := ⟨_, hn⟩
    have hyb := hb y (List.mem_of_getElem? hy)
    rw [sp_next (by rw [ih]), ih]
    dsimp only
    have e0 : spansT l = spansT (l.take k) ++ ((uintS y.lo).1 ++ ((uintS y.hi).1 ++ spansT (l.drop (k + 1)))) := by
      have : l = l.take k ++ y :: l.drop (k + 1) := by rw [← drop_cons hy, List.take_append_drop]
      conv => lhs; rw [this]
      simp [spansT, intsS]
    rw [uintS_nat hyb.1, uintS_nat hyb.2.1] at e0
    have e1 : m = (pre ++ spansT (l.take k)) ++ (uvar y.lo.toNat ++ ((uvar y.hi.toNat ++ spansT (l.drop (k + 1))) ++ rest)) := by rw [h, e0]; simp
    have e2 : m = (pre ++ spansT (l.take k) ++ uvar y.lo.toNat) ++ (uvar y.hi.toNat ++ (spansT (l.drop (k + 1)) ++ rest)) := by rw [e1]; simp
    rw [rdN_at e1 (by omega)]
    have e3 : stU m ((pre ++ spansT (l.take k) ++ uvar y.lo.toNat).length, true) = rdN m (pre ++ spansT (l.take k) ++ uvar y.lo.toNat).length := rfl
    dsimp only
    rw [e3, rdN_at e2 (by omega), spans_take hy, take_succ hy, uintS_nat hyb.1, uintS_nat hyb.2.1]
    refine Prod.ext ?_ (Prod.ext ?_ rfl)
    · show l.take k ++ [_] = l.take k ++ [y]
      congr 2
      obtain ⟨a, b⟩ := y
      simp at hyb ⊢
      omega
    · simp
theorem qs_read {m : Bytes} {l : List Req} (hb : ∀ q ∈ l, q.Sm ∧ ∀ y ∈ q.set, 0 ≤ y.lo ∧ 0 ≤ y.hi ∧ y.lo ≤ 1000000 ∧ y.hi ≤ 1000000) {pre rest : Bytes} (h : m = pre ++ (l.flatMap reqT ++ rest)) : ∀ k, k ≤ l.length → qsI m (pre.length, true) k = (l.take k, (pre ++ (l.take k).flatMap reqT).length, true)
  | 0, _ => by simp [qsI]
  | k + 1, hk => by
    have ih := qs_read hb h k (by omega)
    obtain ⟨z, hz⟩ : ∃ z, l[k]? = some z := ⟨_, List.getElem?_eq_getElem (by omega)⟩
    have hzb := hb z (List.mem_of_getElem? hz)
    have hzp := hzb.1.path; have hzs := hzb.1.set
    rw [qs_next (by rw [ih]), ih]
    dsimp only
    have e0 : l.flatMap reqT = (l.take k).flatMap reqT ++ (reqT z ++ (l.drop (k + 1)).flatMap reqT) := by
      have : l = l.take k ++ z :: l.drop (k + 1) := by rw [← drop_cons hz, List.take_append_drop]
      conv => lhs; rw [this]
      simp
    rw [reqT_eq, uintS_cast] at e0
    have e1 : m = (pre ++ (l.take k).flatMap reqT) ++ (textS z.path ++ (uvar z.set.length ++ (spansT z.set ++ ((l.drop (k + 1)).flatMap reqT ++ rest)))) := by rw [h, e0]; simp
    have e2 : m = (pre ++ (l.take k).flatMap reqT ++ textS z.path) ++ (uvar z.set.length ++ (spansT z.set ++ ((l.drop (k + 1)).flatMap reqT ++ rest))) := by rw [e1]; simp
    have e3 : m = (pre ++ (l.take k).flatMap reqT ++ textS z.path ++ uvar z.set.length) ++ (spansT z.set ++ ((l.drop (k + 1)).flatMap reqT ++ rest)) := by rw [e2]; simp
    have h1 := rdT_at e1 (by omega)
    have h2 : cU m (pre ++ (l.take k).flatMap reqT).length = (z.set.length, (pre ++ (l.take k).flatMap reqT ++ textS z.path ++ uvar z.set.length).length, true) := by
      unfold cU; rw [h1]
      show rdN m (pre ++ (l.take k).flatMap reqT ++ textS z.path).length = _
      rw [rdN_at e2 (by omega)]
    have h3 := sp_read hzb.2 e3 z.set.length (Nat.le_refl _)
    rw [h1, h2]
    dsimp only
    rw [h3, List.take_length, take_succ hz]
    refine Prod.ext ?_ (Prod.ext ?_ rfl)
    · show _ ++ [_] = _ ++ [z]
      obtain ⟨a, b⟩ := z; rfl
    · show _ = (pre ++ (l.take k ++ [z]).flatMap reqT).length
      rw [List.flatMap_append]; simp [reqT_eq, uintS_cast]
theorem canonS_nonneg (s : List Span) : ∀ y ∈ canonS s, 0 ≤ y.lo ∧ 0 ≤ y.hi := by
  have mstep_nn : ∀ {out : List Span} {x : Span}, (∀ y ∈ out, 0 ≤ y.lo ∧ 0 ≤ y.hi) → (0 ≤ x.lo ∧ 0 ≤ x.hi) → ∀ y ∈ mstep out x, 0 ≤ y.lo ∧ 0 ≤ y.hi := by
    intro out x h hx
    unfold mstep
    split
    · rename_i z hz
      have hzb := h z (List.mem_of_getElem? hz)
      split
      · intro y hy
        rcases List.mem_or_eq_of_mem_set hy with hy | rfl
        · exact h y hy
        · exact ⟨hzb.1, by dsimp only; split <;> omega⟩
      · intro y hy
        rcases List.mem_append.1 hy with hy | hy
        · exact h y hy
        · simp at hy; subst hy; exact hx
    · intro y hy
      rcases List.mem_append.1 hy with hy | hy
      · exact h y hy
      · simp at hy; subst hy; exact hx
  have fold_nn : ∀ {l out : List Span}, (∀ y ∈ l, 0 ≤ y.lo ∧ 0 ≤ y.hi) → (∀ y ∈ out, 0 ≤ y.lo ∧ 0 ≤ y.hi) → ∀ y ∈ l.foldl mstep out, 0 ≤ y.lo ∧ 0 ≤ y.hi := by
    intro l
    induction l with
    | nil => intro out _ h; exact h
    | cons x r ih => intro out hl h; exact ih (fun y hy => hl y (by simp [hy])) (mstep_nn h (hl x (by simp)))
  rw [← canonP_eq]
  refine fold_nn (fun y hy => ?_) (fun y hy => by simp at hy)
  obtain ⟨z, hz, rfl⟩ := List.mem_map.1 hy
  have hz := (Proofs.pdB_perm _).mem_iff.1 hz
  have h0 := z.h0
  have hlt : z.lo < z.hi := selB_hi s z hz
  exact ⟨h0, by show 0 ≤ z.hi; omega⟩
end Go.Pm

namespace Go.Pm
theorem relE_nn {r : Rls} (h : relE r = 0) : ∀ q ∈ r.reqs, ∀ y ∈ q.set, 0 ≤ y.lo ∧ 0 ≤ y.hi ∧ y.lo ≤ 1000000 ∧ y.hi ≤ 1000000 := by
  have h4 := (relE_all h).2.2.2.1
  have hb := relE_sets h
  unfold checkReqs at h4
  split at h4
  · simp at h4
  · intro q hq y hy
    have hs : q.set = canonS q.set := by
      rcases reqsE_ok h4 q hq with h | ⟨y, h⟩
      · exact reqE_set h
      · exact reqE_set h
    have h1 := canonS_nonneg q.set y (by rw [← hs]; exact hy)
    have h2 := hb q hq y hy
    exact ⟨h1.1, h1.2, h2.1, h2.2⟩
/-- A right release's manifest is read as this release. -/
theorem read_man {r : Rls} (hr : r.Sm) (he : relE r = 0) : readI (manT r) = (r, 0) := by
  obtain ⟨_, hok, hmaj, _, ha, hb, hc⟩ := relE_all he
  have hvb := ok_bounds hok
  have ha := isDig_len ha; have hb := isDig_len hb; have hc := isDig_len hc
  have hpl := hr.path
  have hq := relE_reqs he
  rw [read_eq]
  generalize hm : manT r = m
  rw [manT_eq, uintS_nat (by omega), uintS_nat (by omega), uintS_nat (by split <;> omega)] at hm
  generalize hy : (if r.yank then (1 : Int) else 0).toNat = yk at hm
  have hyk : yk ≤ 1 := by rw [← hy]; split <;> decide
  have q1 : m = [] ++ (textS r.path ++ (uvar r.ver.min.toNat ++ uvar r.ver.pat.toNat ++ uvar yk ++ textS r.arch ++ textS r.iface ++ textS r.cert ++ manR r.reqs)) := by rw [← hm]; simp
  have q2 : m = textS r.path ++ (uvar r.ver.min.toNat ++ (uvar r.ver.pat.toNat ++ uvar yk ++ textS r.arch ++ textS r.iface ++ textS r.cert ++ manR r.reqs)) := by rw [← hm]; simp
  have q3 : m = (textS r.path ++ uvar r.ver.min.toNat) ++ (uvar r.ver.pat.toNat ++ (uvar yk ++ textS r.arch ++ textS r.iface ++ textS r.cert ++ manR r.reqs)) := by rw [← hm]; simp
  have q4 : m = (textS r.path ++ uvar r.ver.min.toNat ++ uvar r.ver.pat.toNat) ++ (uvar yk ++ (textS r.arch ++ textS r.iface ++ textS r.cert ++ manR r.reqs)) := by rw [← hm]; simp
  have q5 : m = (textS r.path ++ uvar r.ver.min.toNat ++ uvar r.ver.pat.toNat ++ uvar yk) ++ (textS r.arch ++ (textS r.iface ++ textS r.cert ++ manR r.reqs)) := by rw [← hm]; simp
  have q6 : m = (textS r.path ++ uvar r.ver.min.toNat ++ uvar r.ver.pat.toNat ++ uvar yk ++ textS r.arch) ++ (textS r.iface ++ (textS r.cert ++ manR r.reqs)) := by rw [← hm]; simp
  have q7 : m = (textS r.path ++ uvar r.ver.min.toNat ++ uvar r.ver.pat.toNat ++ uvar yk ++ textS r.arch ++ textS r.iface) ++ (textS r.cert ++ manR r.reqs) := by rw [← hm]; simp
  have q8 : m = (textS r.path ++ uvar r.ver.min.toNat ++ uvar r.ver.pat.toNat ++ uvar yk ++ textS r.arch ++ textS r.iface ++ textS r.cert) ++ (uvar r.reqs.length ++ (r.reqs.flatMap reqT ++ [])) := by
    rw [← hm]; simp [manR, intsS, uintS_cast]
  have q9 : m = (textS r.path ++ uvar r.ver.min.toNat ++ uvar r.ver.pat.toNat ++ uvar yk ++ textS r.arch ++ textS r.iface ++ textS r.cert ++ uvar r.reqs.length) ++ (r.reqs.flatMap reqT ++ []) := by rw [q8]; simp
  have s1 : rr1 m = (r.path, (textS r.path).length, true) := by
    have := rdT_at q1 (by omega)
    unfold rr1; simpa using this
  have s2 : rr2 m = (r.ver.min.toNat, (textS r.path ++ uvar r.ver.min.toNat).length, true) := by unfold rr2; rw [s1]; exact rdN_at q2 (by omega)
  have s3 : rr3 m = (r.ver.pat.toNat, (textS r.path ++ uvar r.ver.min.toNat ++ uvar r.ver.pat.toNat).length, true) := by unfold rr3; rw [s2]; exact rdN_at q3 (by omega)
  have s4 : rr4 m = (yk, (textS r.path ++ uvar r.ver.min.toNat ++ uvar r.ver.pat.toNat ++ uvar yk).length, true) := by unfold rr4; rw [s3]; exact rdN_at q4 (by omega)
  have s5 : rr5 m = (r.arch, (textS r.path ++ uvar r.ver.min.toNat ++ uvar r.ver.pat.toNat ++ uvar yk ++ textS r.arch).length, true) := by unfold rr5; rw [s4]; exact rdT_at q5 (by omega)
  have s6 : rr6 m = (r.iface, (textS r.path ++ uvar r.ver.min.toNat ++ uvar r.ver.pat.toNat ++ uvar yk ++ textS r.arch ++ textS r.iface).length, true) := by unfold rr6; rw [s5]; exact rdT_at q6 (by omega)
  have s7 : rr7 m = (r.cert, (textS r.path ++ uvar r.ver.min.toNat ++ uvar r.ver.pat.toNat ++ uvar yk ++ textS r.arch ++ textS r.iface ++ textS r.cert).length, true) := by unfold rr7; rw [s6]; exact rdT_at q7 (by omega)
  have s8 : rr8 m = (r.reqs, m.length, true) := by
    unfold rr8; rw [s7, if_pos rfl]
    unfold rqs
    rw [rdN_at q8 (by omega)]
    dsimp only
    rw [qs_read (fun q hq => ⟨hr.reqs q hq, relE_nn he q hq⟩) q9 r.reqs.length (Nat.le_refl _), List.take_length]
    refine Prod.ext rfl (Prod.ext ?_ rfl)
    have := congrArg List.length q9
    simpa using this.symm
  have hout : outR m = r := by
    unfold outR
    rw [s1, s2, s3, s4, s5, s6, s7, s8]
    obtain ⟨p, ⟨a, b, c⟩, l, x, y, z, u⟩ := r
    simp only at hmaj hvb hy
    have e1 : ((b.toNat : Nat) : Int) = b := Int.toNat_of_nonneg (by omega)
    have e2 : ((c.toNat : Nat) : Int) = c := Int.toNat_of_nonneg (by omega)
    have e3 : (((yk : Nat) : Int) == 1) = u := by rw [← hy]; cases u <;> rfl
    dsimp only
    rw [e1, e2, e3, ← hmaj]
  unfold refRd
  rw [if_neg, hout]
  unfold refB
  rw [s8, s4, hout]
  simp only [not_or]
  exact ⟨by simp, by show ¬ ((yk : Nat) : Int) > 1; omega, by simp, by simp [he]⟩
theorem sp_inv {m : Bytes} {p : Nat × Bool} : ∀ k, (spI m p k).2.2 = true → m.drop p.1 = spansT (spI m p k).1 ++ m.drop (spI m p k).2.1
  | 0, _ => by simp [spI, spansT]
  | k + 1, h => by
    have h0 : (spI m p k).2.2 = true := by
      cases hx : (spI m p k).2.2 with
      | true => rfl
      | false => rw [← sp_stop hx (Nat.le_succ k)] at h; rw [hx] at h; cases h
    have ih := sp_inv k h0
    rw [sp_next h0] at h ⊢
    have h1 := (stU_ge h).2
    have e3 : stU m (rdN m (spI m p k).2.1).2 = rdN m (rdN m (spI m p k).2.1).2.1 := by unfold stU; rw [if_pos h1]
    rw [e3] at h ⊢
    have i1 := (rdN_inv h1).1
    have i2 := (rdN_inv h).1
    rw [ih, i1, i2]
    dsimp only
    simp [spansT, intsS, uintS_cast]
theorem qs_inv {m : Bytes} {p : Nat × Bool} : ∀ k, (qsI m p k).2.2 = true → m.drop p.1 = (qsI m p k).1.flatMap reqT ++ m.drop (qsI m p k).2.1
  | 0, _ => by simp [qsI]
  | k + 1, h => by
    obtain ⟨h0, _⟩ := qs_step_gt h
    have ih := qs_inv k h0
    rw [qs_next h0] at h ⊢
    obtain ⟨_, h2, hlen⟩ := sp_ge _ h
    have h4 := (stU_ge (p := (rdT m (qsI m p k).2.1).2) h2).2
    have e3 : cU m (qsI m p k).2.1 = rdN m (rdT m (qsI m p k).2.1).2.1 := by unfold cU stU; rw [if_pos h4]
    have i1 := (rdT_inv h4).1
    have i2 := (rdN_inv (p := (rdT m (qsI m p k).2.1).2.1) (by rw [← e3]; exact h2)).1
    have i3 := sp_inv _ h
    rw [← e3] at i2
    rw [ih, i1, i2, i3]
    dsimp only at hlen ⊢
    simp [reqT_eq, uintS_cast, hlen]
/-- What is read has the manifest that was read. -/
theorem man_read {s : Bytes} {x : Rls} (h : readI s = (x, 0)) : relE x = 0 ∧ manT x = s := by
  rw [read_eq] at h
  unfold refRd at h
  split at h
  · simp at h
  rename_i hB
  simp only [Prod.mk.injEq, and_true] at h
  unfold refB at hB
  simp only [not_or, Decidable.not_not, Bool.not_eq_false] at hB
  obtain ⟨hok, hyk, hat, hrl⟩ := hB
  subst h
  refine ⟨hrl, ?_⟩
  have k7 : (rr7 s).2.2 = true := by
    cases hx : (rr7 s).2.2 with
    | true => rfl
    | false => unfold rr8 at hok; rw [if_neg (by simp [hx])] at hok; rw [hx] at hok; cases hok
  have stT_true : ∀ {p : Nat × Bool}, (stT s p).2.2 = true → p.2 = true := fun {p} h => by
    unfold stT at h; split at h
    · assumption
    · rename_i h2; exact absurd h h2
  have stU_true : ∀ {p : Nat × Bool}, (stU s p).2.2 = true → p.2 = true := fun {p} h => (stU_ge h).2
  have k6 : (rr6 s).2.2 = true := stT_true k7
  have k5 : (rr5 s).2.2 = true := stT_true k6
  have k4 : (rr4 s).2.2 = true := stT_true k5
  have k3 : (rr3 s).2.2 = true := stU_true k4
  have k2 : (rr2 s).2.2 = true := stU_true k3
  have k1 : (rr1 s).2.2 = true := stU_true k2
  have e2 : rr2 s = rdN s (rr1 s).2.1 := by unfold rr2 stU; rw [if_pos k1]
  have e3 : rr3 s = rdN s (rr2 s).2.1 := by unfold rr3 stU; rw [if_pos k2]
  have e4 : rr4 s = rdN s (rr3 s).2.1 := by unfold rr4 stU; rw [if_pos k3]
  have e5 : rr5 s = rdT s (rr4 s).2.1 := by unfold rr5 stT; rw [if_pos k4]
  have e6 : rr6 s = rdT s (rr5 s).2.1 := by unfold rr6 stT; rw [if_pos k5]
  have e7 : rr7 s = rdT s (rr6 s).2.1 := by unfold rr7 stT; rw [if_pos k6]
  have e8 : rr8 s = rqs s (rr7 s).2.1 := by unfold rr8; rw [if_pos k7]
  have i1 : s = textS (rr1 s).1 ++ s.drop (rr1 s).2.1 := by
    have := (rdT_inv (m := s) (p := 0) k1).1
    simpa [rr1] using this
  have i2 : s.drop (rr1 s).2.1 = uvar (rr2 s).1 ++ s.drop (rr2 s).2.1 := by rw [e2]; exact (rdN_inv (by rw [← e2]; exact k2)).1
  have i3 : s.drop (rr2 s).2.1 = uvar (rr3 s).1 ++ s.drop (rr3 s).2.1 := by rw [e3]; exact (rdN_inv (by rw [← e3]; exact k3)).1
  have i4 : s.drop (rr3 s).2.1 = uvar (rr4 s).1 ++ s.drop (rr4 s).2.1 := by rw [e4]; exact (rdN_inv (by rw [← e4]; exact k4)).1
  have i5 : s.drop (rr4 s).2.1 = textS (rr5 s).1 ++ s.drop (rr5 s).2.1 := by rw [e5]; exact (rdT_inv (by rw [← e5]; exact k5)).1
  have i6 : s.drop (rr5 s).2.1 = textS (rr6 s).1 ++ s.drop (rr6 s).2.1 := by rw [e6]; exact (rdT_inv (by rw [← e6]; exact k6)).1
  have i7 : s.drop (rr6 s).2.1 = textS (rr7 s).1 ++ s.drop (rr7 s).2.1 := by rw [e7]; exact (rdT_inv (by rw [← e7]; exact k7)).1
  have hqok : (qsI s (rdN s (rr7 s).2.1).2 (rdN s (rr7 s).2.1).1).2.2 = true := by rw [e8] at hok; exact hok
  obtain ⟨_, hn, hlen⟩ := qs_ge _ hqok
  have i8 := (rdN_inv hn).1
  have i9 := qs_inv _ hqok
  have hlen : (rr8 s).1.length = (rdN s (rr7 s).2.1).1 := by rw [e8]; exact hlen
  have i9 : s.drop (rdN s (rr7 s).2.1).2.1 = (rr8 s).1.flatMap reqT ++ s.drop (rr8 s).2.1 := by rw [e8]; exact i9
  have i10 : s.drop (rr8 s).2.1 = [] := by rw [hat]; exact List.drop_length
  have hY : (uintS (if ((((rr4 s).1 : Nat) : Int) == 1) = true then 1 else 0)).1 = uvar (rr4 s).1 := by
    have : (rr4 s).1 = 0 ∨ (rr4 s).1 = 1 := by omega
    rcases this with h | h <;> rw [h] <;> rfl
  have goal : manT (outR s) = textS (rr1 s).1 ++ uvar (rr2 s).1 ++ uvar (rr3 s).1 ++ uvar (rr4 s).1 ++ textS (rr5 s).1 ++ textS (rr6 s).1 ++ textS (rr7 s).1 ++ (uvar (rdN s (rr7 s).2.1).1 ++ (rr8 s).1.flatMap reqT) := by
    rw [manT_eq]
    unfold outR
    dsimp only
    rw [uintS_cast, uintS_cast, hY]
    congr 1
    unfold manR intsS
    rw [hlen]
    simp [uintS_cast]
  rw [goal]
  conv => rhs; rw [i1, i2, i3, i4, i5, i6, i7, i8, i9, i10]
  simp
theorem readI_bad {s : Bytes} {x : Rls} {e : Int} (h : readI s = (x, e)) (he : e ≠ 0) : e = 9 ∧ x.path = [] := by
  unfold readI at h
  split at h
  · simp only [Prod.mk.injEq] at h; rw [← h.1, ← h.2]; exact ⟨rfl, rfl⟩
  · simp only [Prod.mk.injEq] at h; exact absurd h.2.symm he
theorem few_man {r : Rls} (h : fewRls r = true) (he : relE r = 0) : (manT r).length ≤ 100000 := by
  simp only [fewRls, Bool.and_eq_true, decide_eq_true_eq, fewReqs, List.all_eq_true, fewReq] at h
  have hq := relE_reqs he
  obtain ⟨_, _, _, _, ha, hb, hc⟩ := relE_all he
  have ha := isDig_len ha; have hb := isDig_len hb; have hc := isDig_len hc
  rw [manT_eq]
  have t1 := textS_len r.path; have t2 := textS_len r.arch; have t3 := textS_len r.iface; have t4 := textS_len r.cert
  have u1 := uintS_len r.ver.min; have u2 := uintS_len r.ver.pat; have u3 := uintS_len (if r.yank then 1 else 0)
  have f1 := flat_len (l := r.reqs) (f := reqT) (n := 300) fun q hq => by
    have h1 := h.2.1 q hq
    rw [reqT_eq]
    have := textS_len q.path; have := uintS_len (q.set.length : Int)
    have h3 := flat_len (l := q.set) (f := fun y => intsS [y.lo, y.hi]) (n := 20) fun y _ => by have := intsS_len [y.lo, y.hi]; simpa using this
    have h4 : (spansT q.set).length ≤ 20 * q.set.length := h3
    simp only [List.length_append]; omega
  have f2 := intsS_len [(r.reqs.length : Int)]
  have : 300 * r.reqs.length ≤ 300 * 16 := Nat.mul_le_mul_left _ hq
  simp only [manR, List.length_append, List.length_cons, List.length_nil] at *; omega
end Go.Pm

namespace Go.Pm
open Go.Proofs

set_option maxRecDepth 10000 in
set_option maxHeartbeats 4000000 in
theorem c5 (r : Rls) (hrl : r.reqs.length < 4611686018427387904) (s : Bytes) (hsl : s.length < 4611686018427387904) : Fn PR 5 [.d r.d, .d (.str s)] [] [.d (.bool true)] [] := by
 refine fn_of_awp Tryz.func5 rfl (N := 77) rfl ?_
 obtain ⟨x, e, hxe⟩ : ∃ x e, readI s = (x, e) := ⟨_, _, rfl⟩
 refine xsr ?_
 refine xlz (op_box rfl rfl (by decide) rfl rfl) ?_
 refine las rfl rfl rfl rfl rfl ?_
 refine lendF ?_
 refine awp_seq ?_
 refine xsr ?_
 refine xlz (o_call (c9) rfl rfl rfl ca9 rfl rfl) ?_
 refine xlz (op_not rfl rfl rfl) ?_
 refine lendF ?_
 refine awp_cond rfl rfl (fun hc1 => ?_) (fun hc1 => ?_)
 ·
  exact absurd hc1 (by decide)
 ·
  refine awp_skip ?_
  refine awp_seq ?_
  refine xsr ?_
  refine xlz (o_ldA rfl rfl rfl rfl ty40 rfl (xlb rfl) rfl) ?_
  refine xlz (o_bsD rfl rfl rfl rfl rfl ty22 ty40 rfl rfl) ?_
  refine xlz (o_call (c10 [r] 1 (by simp) (by simpa using hrl)) rfl rfl rfl ca10 rfl rfl) ?_
  refine xlz (op_not rfl rfl rfl) ?_
  refine lmv rfl rfl rfl rfl rfl ?_
  refine lsplit rfl (fun hg2 => ?_) (fun hg2 => ?_)
  ·
   have hf : fewRlss [r] 1 = true := by (have h := (g01 hg2)); simpa using h
   have hr : r.Sm := (fewRlss_ok hf).1 r (by simp)
   have hfr : fewRls r = true := by simpa [fewRlss] using hf
   refine gmv hg2 rfl rfl rfl rfl rfl ?_
   refine lg (op_lenS rfl rfl rfl ty9) rfl hg2 rfl rfl ?_
   refine lg (op_binI rfl rfl rfl rfl rfl (.inl rfl) rfl) rfl hg2 rfl rfl ?_
   refine xlz (o_pF rfl rfl (g01 hg2) rfl rfl) ?_
   refine lendF ?_
   refine awp_cond rfl rfl (fun hc3 => ?_) (fun hc3 => ?_)
   ·
    refine xsr ?_
    refine las rfl rfl rfl rfl rfl ?_
    refine lendF ?_
    refine awp_ret ?_
    refine ⟨[_], ⟨rfl, trivial⟩, ?_⟩
    first | exact ent_d1 rfl rfl | exact ent_d1 rfl (by rw [hbad.2]; rfl) | exact ent_d1 rfl (by rw [hx0]; rfl)
   ·
    have h3 : s.length ≤ 3000 := by (have h := hc3); simp at h; omega
    refine awp_skip ?_
    refine xsr ?_
    refine xlz (o_ldA rfl rfl rfl rfl ty40 rfl (xlb rfl) rfl) ?_
    refine xlz (o_call (c17r r hr) rfl rfl rfl ca17 rfl rfl) ?_
    refine lmv rfl rfl rfl rfl rfl ?_
    refine xlz (op_extract rfl rfl rfl rfl) ?_
    refine xlz (op_extract rfl rfl rfl rfl) ?_
    iterate 2 refine las rfl rfl rfl rfl rfl ?_
    refine lendF ?_
    refine awp_seq ?_
    refine xsr ?_
    refine lmv rfl rfl rfl rfl rfl ?_
    refine xlz (o_ldA rfl rfl rfl rfl ty40 rfl (xlb rfl) rfl) ?_
    refine xlz (o_bs rfl rfl rfl rfl rfl ty22 ty40 rfl rfl) ?_
    refine xlz (o_bld rfl rfl rfl bl25 ty25 zk25 rfl rfl rfl) ?_
    refine xlz (o_call (c22 ⟨[r], []⟩ (by simp) (by simpa using hr)) rfl rfl rfl ca22 rfl rfl) ?_
    refine xlz (op_binI rfl rfl rfl rfl rfl (.inl rfl) rfl) ?_
    refine lendF ?_
    refine awp_cond rfl rfl (fun hc4 => ?_) (fun hc4 => ?_)
    ·
     exact absurd hc4 (by rw [checkI_one]; simp)
    ·
     refine awp_skip ?_
     refine awp_joinX (fun _ : Unit => ⟨77, [(1, .d (.str s)), (6, .d (I (relE r)))], []⟩) (fun _ : Unit => True) ?_ ?_
     ·
      refine xsr ?_
      refine lmv rfl rfl rfl rfl rfl ?_
      refine xlz (op_binI rfl rfl rfl rfl rfl (.inl rfl) rfl) ?_
      refine lendF ?_
      refine awp_cond rfl rfl (fun hc5 => ?_) (fun hc5 => ?_)
      ·
       have he : relE r = 0 := by simpa using hc5
       refine xsr ?_
       refine lmv rfl rfl rfl rfl rfl ?_
       refine xlz (o_call (c19g (if relE r = 0 then manT r else []) (by rw [if_pos he]; exact few_man hfr he) r 0 (by rw [if_pos he]; exact read_man hr he)) rfl rfl rfl ca19 rfl rfl) ?_
       refine lmv rfl rfl rfl rfl rfl ?_
       refine xlz (op_extract rfl rfl rfl rfl) ?_
       refine xlz (op_extract rfl rfl rfl rfl) ?_
       refine xlz (op_alloc rfl rfl (by decide) ty40 zk40 rfl) ?_
       refine xlz (op_store rfl rfl rfl rfl rfl rfl ty40 rfl (xlb rfl)) ?_
       refine las rfl rfl rfl rfl rfl ?_
       refine lendF ?_
       refine xsr ?_
       refine lmv rfl rfl rfl rfl rfl ?_
       refine xlz (op_binI rfl rfl rfl rfl rfl (.inl rfl) rfl) ?_
       refine lmv rfl rfl rfl rfl rfl ?_
       refine lsplit rfl (fun hg6 => ?_) (fun hg6 => ?_)
       ·
        refine lg (o_ldA rfl rfl rfl rfl ty40 rfl (xlb rfl) rfl) rfl hg6 rfl rfl ?_
        refine lg (o_ldA rfl rfl rfl rfl ty40 rfl (xlb rfl) rfl) rfl hg6 rfl rfl ?_
        refine lg (o_call (c21 r r hrl (fun q hq => by have := (hr.reqs q hq).set; omega)) rfl rfl rfl ca21 rfl rfl) rfl hg6 rfl rfl ?_
        refine lg (op_not rfl rfl rfl) rfl hg6 rfl rfl ?_
        refine xlz (o_pF rfl rfl (g01 hg6) rfl rfl) ?_
        refine lendF ?_
        refine awp_cond rfl rfl (fun hc7 => ?_) (fun hc7 => ?_)
        ·
         exact absurd hc7 (by simp)
        ·
         refine awp_skip ?_
         refine ⟨(), ?_, ?_⟩
         ·
          exact True.intro
         ·
          exact ent_k [] rfl rfl ((by repeat (first | exact .nil | refine xkc ?_))) obs_nil rfl
       ·
        exact absurd (g00 hg6) (by decide)
      ·
       have he : ¬ relE r = 0 := by simpa using hc5
       refine xsr ?_
       refine lmv rfl rfl rfl rfl rfl ?_
       refine xlz (op_binS rfl rfl rfl rfl rfl (fun h => by first | cases h | (simp; omega)) rfl) ?_
       refine lendF ?_
       refine awp_cond rfl rfl (fun hc8 => ?_) (fun hc8 => ?_)
       ·
        exact absurd hc8 (by rw [if_neg he]; simp)
       ·
        refine awp_skip ?_
        refine ⟨(), ?_, ?_⟩
        ·
         exact True.intro
        ·
         exact ent_k [] rfl rfl ((by repeat (first | exact .nil | refine xkc ?_))) obs_nil rfl
     ·
      rintro _ _
      refine xsr ?_
      refine lmv rfl rfl rfl rfl rfl ?_
      refine xlz (o_call (c19g s (by omega) x e hxe) rfl rfl rfl ca19 rfl rfl) ?_
      refine lmv rfl rfl rfl rfl rfl ?_
      refine xlz (op_extract rfl rfl rfl rfl) ?_
      refine xlz (op_extract rfl rfl rfl rfl) ?_
      refine xlz (op_alloc rfl rfl (by decide) ty40 zk40 rfl) ?_
      refine xlz (op_store rfl rfl rfl rfl rfl rfl ty40 rfl (xlb rfl)) ?_
      refine las rfl rfl rfl rfl rfl ?_
      refine lendF ?_
      refine awp_seq ?_
      refine xsr ?_
      refine lmv rfl rfl rfl rfl rfl ?_
      refine xlz (op_binI rfl rfl rfl rfl rfl (.inl rfl) rfl) ?_
      refine lendF ?_
      refine awp_cond rfl rfl (fun hc9 => ?_) (fun hc9 => ?_)
      ·
       have hbad := readI_bad hxe (by simpa using hc9)
       refine xsr ?_
       refine lmv rfl rfl rfl rfl rfl ?_
       refine xlz (op_binI rfl rfl rfl rfl rfl (.inl rfl) rfl) ?_
       refine lmv rfl rfl rfl rfl rfl ?_
       refine lsplit rfl (fun hg10 => ?_) (fun hg10 => ?_)
       ·
        refine lg (op_fieldP rfl rfl rfl fl40_0) rfl hg10 rfl rfl ?_
        refine lg (op_load1 rfl rfl rfl rfl ty9 rfl rfl) rfl hg10 rfl rfl ?_
        refine lg (op_binS rfl rfl rfl rfl rfl (fun h => by first | cases h | (simp; omega)) rfl) rfl hg10 rfl rfl ?_
        refine xlz (o_pT rfl rfl (g11 hg10) rfl rfl) ?_
        refine las rfl rfl rfl rfl rfl ?_
        refine lendF ?_
        refine awp_ret ?_
        refine ⟨[_], ⟨rfl, trivial⟩, ?_⟩
        first | exact ent_d1 rfl rfl | exact ent_d1 rfl (by rw [hbad.2]; rfl) | exact ent_d1 rfl (by rw [hx0]; rfl)
       ·
        exact absurd (g10 hg10) (by simp [hbad.1])
      ·
       obtain rfl : e = 0 := by simpa using hc9
       obtain ⟨hx0, hxm⟩ := man_read hxe
       refine awp_skip ?_
       refine xsr ?_
       refine xlz (o_ldA rfl rfl rfl rfl ty40 rfl (xlb rfl) rfl) ?_
       refine xlz (o_call (c17r x (readI_sm (by omega) hxe)) rfl rfl rfl ca17 rfl rfl) ?_
       refine lmv rfl rfl rfl rfl rfl ?_
       refine xlz (op_extract rfl rfl rfl rfl) ?_
       refine xlz (op_extract rfl rfl rfl rfl) ?_
       iterate 2 refine las rfl rfl rfl rfl rfl ?_
       refine lendF ?_
       refine xsr ?_
       iterate 2 refine lmv rfl rfl rfl rfl rfl ?_
       refine xlz (op_binS rfl rfl rfl rfl rfl (fun h => by first | cases h | (simp; omega)) rfl) ?_
       refine lmv rfl rfl rfl rfl rfl ?_
       refine lsplit rfl (fun hg11 => ?_) (fun hg11 => ?_)
       ·
        refine gmv hg11 rfl rfl rfl rfl rfl ?_
        refine lg (op_binI rfl rfl rfl rfl rfl (.inl rfl) rfl) rfl hg11 rfl rfl ?_
        refine xlz (o_pT rfl rfl (g11 hg11) rfl rfl) ?_
        refine las rfl rfl rfl rfl rfl ?_
        refine lendF ?_
        refine awp_ret ?_
        refine ⟨[_], ⟨rfl, trivial⟩, ?_⟩
        first | exact ent_d1 rfl rfl | exact ent_d1 rfl (by rw [hbad.2]; rfl) | exact ent_d1 rfl (by rw [hx0]; rfl)
       ·
        exact absurd (g10 hg11) (by rw [if_pos hx0, hxm]; simp)
  ·
   iterate 3 refine lskip rfl hg2 rfl ?_
   refine xlz (o_pT rfl rfl (g00 hg2) rfl rfl) ?_
   refine lendF ?_
   refine awp_condT rfl rfl rfl ?_
   refine xsr ?_
   refine las rfl rfl rfl rfl rfl ?_
   refine lendF ?_
   refine awp_ret ?_
   refine ⟨[_], ⟨rfl, trivial⟩, ?_⟩
   first | exact ent_d1 rfl rfl | exact ent_d1 rfl (by rw [hbad.2]; rfl) | exact ent_d1 rfl (by rw [hx0]; rfl)

end Go.Pm
