/- Part 5 of a proof about the index of a registry: plain functions, and walks through the program that show that it computes them (W35 .. W48). Own work. -/
import Derived.Test.YtffkffapcffhcaaGreatDoorPd
import Derived.Shelf.Spec.SlicesGrow
set_option autoImplicit false
set_option linter.unusedVariables false
set_option linter.unusedSimpArgs false
namespace Go.Pm
open Go.Proofs

set_option maxRecDepth 10000 in
set_option maxHeartbeats 4000000 in
theorem c19 (m : Bytes) (hm : m.length ≤ 100000) : Fn PR 19 [.d (.str m)] [] [.d (readI m).1.d, .d (I (readI m).2)] [] := by
 refine fn_of_awp Tryz.func19 rfl (N := 91) rfl ?_
 refine xsr ?_
 refine xlz (op_alloc rfl rfl (by decide) ty40 zk40 rfl) ?_
 refine las rfl rfl rfl rfl rfl ?_
 refine lendF ?_
 refine xsr ?_
 refine lmv rfl rfl rfl rfl rfl ?_
 refine xlz (o_callX (p := .ptr 6011 0) (news := [6011]) (upd := [(6011, some (.cells [.d (.str m), .d (I 0), .d (I 0)]))]) [] 11 (c63 m) rfl rfl rfl ca63 rfl (by decide) handOK_nil rfl rfl rfl rfl (by kernel_rfl) (by kernel_rfl) (by kernel_rfl)) ?_
 refine las rfl rfl rfl rfl rfl ?_
 refine lendF ?_
 refine awp_joinX (fun _ : Unit => ⟨91, [(5, .ptr 5 0), (4, .ptr 6011 0), (0, .d (.str m)), (2, .ptr 2 0)], [(5, .cells [.d (.str (rd1 m).1), .d (I 0), .d (I 0), .d (I 0), .nils, .d (.str []), .d (.str []), .d (.str []), .d (.bool false)]), (6011, (rd1 m).2.ob), (2, .cells [.d (.str []), .d (I 0), .d (I 0), .d (I 0), .nils, .d (.str []), .d (.str []), .d (.str []), .d (.bool false)])]⟩) (fun _ : Unit => True) ?_ ?_
 ·
  refine awp_region mixed ?_
  refine lmv rfl rfl rfl rfl rfl ?_
  refine xlz (o_callX (p := .d (.str (rd1 m).1)) (news := []) (upd := [(6011, some ((rd1 m).2.ob))]) [6011] 13 (c64 ⟨m, 0, 0⟩ (by show m.length < _; omega) (Nat.zero_le _)) rfl rfl rfl ca64 rfl (by decide) (handOK_cons (by decide) (by decide) rfl rfl handOK_nil) rfl rfl rfl rfl (by kernel_rfl) (by kernel_rfl) (by kernel_rfl)) ?_
  refine xlz (o_bldP rfl rfl rfl bl40 ty40 zk40 rfl rfl) ?_
  refine xlz (op_alloc rfl rfl (by decide) ty40 zk40 rfl) ?_
  refine xlz (op_storeX [.d (.str (rd1 m).1), .d (I 0), .d (I 0), .d (I 0), .nils, .d (.str []), .d (.str []), .d (.str []), .d (.bool false)] rfl rfl rfl rfl rfl rfl ty40 rfl (xlb rfl) (by kernel_rfl)) ?_
  refine lendF ?_
  refine ⟨(), ?_, ?_⟩
  ·
   exact True.intro
  ·
   exact ent_k [] rfl rfl ((by repeat (first | exact .nil | refine xkc ?_))) (obs_cons rfl (.cells (by repeat (first | exact .nil | refine .cons (by first | exact k_eq rfl | exact .same _ | exact k_i (by rw [majN_eq hp]; simp [hp])) ?_))) (obs_cons rfl (o_eq rfl) (obs_cons rfl (o_eq rfl) obs_nil))) rfl
 ·
  rintro _ _
  refine xsr ?_
  refine xlz (op_fieldP rfl rfl rfl fl40_0) ?_
  refine xlz (op_load1 rfl rfl rfl rfl ty9 rfl rfl) ?_
  refine xlz (o_call (c65 (rd1 m).1 (Nat.le_trans (text_len (m := m) (r := ⟨m, 0, 0⟩) ⟨rfl, Nat.zero_le _⟩) hm)) rfl rfl rfl ca65 rfl rfl) ?_
  refine lmv rfl rfl rfl rfl rfl ?_
  refine xlz (op_extract rfl rfl rfl rfl) ?_
  refine xlz (op_extract rfl rfl rfl rfl) ?_
  refine xlz (op_extract rfl rfl rfl rfl) ?_
  iterate 3 refine las rfl rfl rfl rfl rfl ?_
  refine lendF ?_
  refine awp_seq ?_
  refine xsr ?_
  refine lmv rfl rfl rfl rfl rfl ?_
  refine xlz (op_binI rfl rfl rfl rfl rfl (.inl rfl) rfl) ?_
  refine lendF ?_
  refine awp_cond rfl rfl (fun hc1 => ?_) (fun hc1 => ?_)
  ·
   have hp : isPath (rd1 m).1 = false := by (have h := hc1); split at h; (simp at h); (rename_i h2; simpa using h2)
   have hmj := majN_no hp
   have hb : readB m := .inl hmj
   refine xsr ?_
   refine xlz (o_bld rfl rfl rfl bl40 ty40 zk40 rfl rfl rfl) ?_
   refine xlz (op_storeX [.d (.str []), .d (I 0), .d (I 0), .d (I 0), .d (.list []), .d (.str []), .d (.str []), .d (.str []), .d (.bool false)] rfl rfl rfl rfl rfl rfl ty40 rfl (xlb rfl) (by kernel_rfl)) ?_
   refine las rfl rfl rfl rfl rfl ?_
   refine lendF ?_
   refine awp_ret ?_
   refine ⟨[_, _], ⟨⟨_, _, _, _, _, _, _, rfl, rfl, ty40, (xlb rfl), rfl⟩, rfl, trivial⟩, ?_⟩
   first | exact ent_d2 rfl (by rw [readI, if_pos hb] <;> rfl) rfl (by rw [readI, if_pos hb] <;> rfl) | exact ent_d2 rfl (by rw [readI, if_neg hb] <;> rfl) rfl (by rw [readI, if_neg hb] <;> rfl)
  ·
   have hp : isPath (rd1 m).1 = true := by (have h := hc1); split at h; (assumption); (simp at h)
   have hmj := majN_yes hp
   have hme := majN_eq hp
   refine awp_skip ?_
   refine awp_joinX (fun _ : Unit => ⟨91, [(5, .ptr 5 0), (4, .ptr 6011 0), (0, .d (.str m)), (2, .ptr 2 0)], [(5, .cells [.d (.str (rd1 m).1), .d (I (majN (rd1 m).1)), .d (I (rd2 m).1), .d (I (rd3 m).1), .nils, .d (.str []), .d (.str []), .d (.str []), .d (.bool false)]), (6011, (rd3 m).2.ob), (2, .cells [.d (.str []), .d (I 0), .d (I 0), .d (I 0), .nils, .d (.str []), .d (.str []), .d (.str []), .d (.bool false)])]⟩) (fun _ : Unit => True) ?_ ?_
   ·
    refine awp_region mixed ?_
    iterate 2 refine lmv rfl rfl rfl rfl rfl ?_
    refine xlz (o_callX (p := .d (I (rd2 m).1)) (news := []) (upd := [(6011, some ((rd2 m).2.ob))]) [6011] 27 (c66 (rd1 m).2 ((in1 m).hs hm) (in1 m).hp) rfl rfl rfl ca66 rfl (by decide) (handOK_cons (by decide) (by decide) rfl rfl handOK_nil) rfl rfl rfl rfl (by kernel_rfl) (by kernel_rfl) (by kernel_rfl)) ?_
    refine lmv rfl rfl rfl rfl rfl ?_
    refine xlz (o_callX (p := .d (I (rd3 m).1)) (news := []) (upd := [(6011, some ((rd3 m).2.ob))]) [6011] 29 (c66 (rd2 m).2 ((in2 m).hs hm) (in2 m).hp) rfl rfl rfl ca66 rfl (by decide) (handOK_cons (by decide) (by decide) rfl rfl handOK_nil) rfl rfl rfl rfl (by kernel_rfl) (by kernel_rfl) (by kernel_rfl)) ?_
    refine xlz (o_bld rfl rfl rfl bl38 ty38 zk38 rfl rfl rfl) ?_
    refine xlz (op_fieldP rfl rfl rfl fl40_1) ?_
    refine xlz (op_storeX [.d (.str (rd1 m).1), .d (I (if isPath (rd1 m).1 then (majorF (rd1 m).1).1 else 0)), .d (I (rd2 m).1), .d (I (rd3 m).1), .nils, .d (.str []), .d (.str []), .d (.str []), .d (.bool false)] rfl rfl rfl rfl rfl rfl ty38 rfl (xlb rfl) (by kernel_rfl)) ?_
    refine lendF ?_
    refine ⟨(), ?_, ?_⟩
    ·
     exact True.intro
    ·
     exact ent_k [] rfl rfl ((by repeat (first | exact .nil | refine xkc ?_))) (obs_cons rfl (.cells (by repeat (first | exact .nil | refine .cons (by first | exact k_eq rfl | exact .same _ | exact k_i (by rw [majN_eq hp]; simp [hp])) ?_))) (obs_cons rfl (o_eq rfl) (obs_cons rfl (o_eq rfl) obs_nil))) rfl
   ·
    rintro _ _
    refine awp_joinX (fun _ : Unit => ⟨91, [(5, .ptr 5 0), (4, .ptr 6011 0), (0, .d (.str m)), (2, .ptr 2 0)], [(5, .cells [.d (.str (rd1 m).1), .d (I (majN (rd1 m).1)), .d (I (rd2 m).1), .d (I (rd3 m).1), .nils, .d (.str []), .d (.str []), .d (.str []), .d (.bool ((rd4 m).1 == 1))]), (6011, (rd4 m).2.ob), (2, .cells [.d (.str []), .d (I 0), .d (I 0), .d (I 0), .nils, .d (.str []), .d (.str []), .d (.str []), .d (.bool false)])]⟩) (fun _ : Unit => True) ?_ ?_
    ·
     refine awp_region mixed ?_
     refine lmv rfl rfl rfl rfl rfl ?_
     refine xlz (o_callX (p := .d (I (rd4 m).1)) (news := []) (upd := [(6011, some ((rd4 m).2.ob))]) [6011] 33 (c67 (rd3 m).2 1 ((in3 m).hs hm) (in3 m).hp) rfl rfl rfl ca67 rfl (by decide) (handOK_cons (by decide) (by decide) rfl rfl handOK_nil) rfl rfl rfl rfl (by kernel_rfl) (by kernel_rfl) (by kernel_rfl)) ?_
     refine xlz (op_binI rfl rfl rfl rfl rfl (.inl rfl) rfl) ?_
     refine xlz (op_fieldP rfl rfl rfl fl40_6) ?_
     refine xlz (op_storeX [.d (.str (rd1 m).1), .d (I (majN (rd1 m).1)), .d (I (rd2 m).1), .d (I (rd3 m).1), .nils, .d (.str []), .d (.str []), .d (.str []), .d (.bool ((rd4 m).1 == 1))] rfl rfl rfl rfl rfl rfl ty4 rfl (xlb rfl) (by kernel_rfl)) ?_
     refine lendF ?_
     refine ⟨(), ?_, ?_⟩
     ·
      exact True.intro
     ·
      exact ent_k [] rfl rfl ((by repeat (first | exact .nil | refine xkc ?_))) (obs_cons rfl (.cells (by repeat (first | exact .nil | refine .cons (by first | exact k_eq rfl | exact .same _ | exact k_i (by rw [majN_eq hp]; simp [hp])) ?_))) (obs_cons rfl (o_eq rfl) (obs_cons rfl (o_eq rfl) obs_nil))) rfl
    ·
     rintro _ _
     refine awp_joinX (fun _ : Unit => ⟨91, [(5, .ptr 5 0), (4, .ptr 6011 0), (0, .d (.str m)), (2, .ptr 2 0)], [(5, .cells [.d (.str (rd1 m).1), .d (I (majN (rd1 m).1)), .d (I (rd2 m).1), .d (I (rd3 m).1), .nils, .d (.str (rd5 m).1), .d (.str (rd6 m).1), .d (.str (rd7 m).1), .d (.bool ((rd4 m).1 == 1))]), (6011, (rd7 m).2.ob), (2, .cells [.d (.str []), .d (I 0), .d (I 0), .d (I 0), .nils, .d (.str []), .d (.str []), .d (.str []), .d (.bool false)])]⟩) (fun _ : Unit => True) ?_ ?_
     ·
      refine awp_region mixed ?_
      refine lmv rfl rfl rfl rfl rfl ?_
      refine xlz (o_callX (p := .d (.str (rd5 m).1)) (news := []) (upd := [(6011, some ((rd5 m).2.ob))]) [6011] 37 (c64 (rd4 m).2 ((in4 m).hs hm) (in4 m).hp) rfl rfl rfl ca64 rfl (by decide) (handOK_cons (by decide) (by decide) rfl rfl handOK_nil) rfl rfl rfl rfl (by kernel_rfl) (by kernel_rfl) (by kernel_rfl)) ?_
      refine lmv rfl rfl rfl rfl rfl ?_
      refine xlz (o_callX (p := .d (.str (rd6 m).1)) (news := []) (upd := [(6011, some ((rd6 m).2.ob))]) [6011] 39 (c64 (rd5 m).2 ((in5 m).hs hm) (in5 m).hp) rfl rfl rfl ca64 rfl (by decide) (handOK_cons (by decide) (by decide) rfl rfl handOK_nil) rfl rfl rfl rfl (by kernel_rfl) (by kernel_rfl) (by kernel_rfl)) ?_
      refine lmv rfl rfl rfl rfl rfl ?_
      refine xlz (o_callX (p := .d (.str (rd7 m).1)) (news := []) (upd := [(6011, some ((rd7 m).2.ob))]) [6011] 41 (c64 (rd6 m).2 ((in6 m).hs hm) (in6 m).hp) rfl rfl rfl ca64 rfl (by decide) (handOK_cons (by decide) (by decide) rfl rfl handOK_nil) rfl rfl rfl rfl (by kernel_rfl) (by kernel_rfl) (by kernel_rfl)) ?_
      refine xlz (op_fieldP rfl rfl rfl fl40_3) ?_
      refine xlz (op_storeX [.d (.str (rd1 m).1), .d (I (majN (rd1 m).1)), .d (I (rd2 m).1), .d (I (rd3 m).1), .nils, .d (.str (rd5 m).1), .d (.str []), .d (.str []), .d (.bool ((rd4 m).1 == 1))] rfl rfl rfl rfl rfl rfl ty9 rfl (xlb rfl) (by kernel_rfl)) ?_
      refine xlz (op_fieldP rfl rfl rfl fl40_4) ?_
      refine xlz (op_storeX [.d (.str (rd1 m).1), .d (I (majN (rd1 m).1)), .d (I (rd2 m).1), .d (I (rd3 m).1), .nils, .d (.str (rd5 m).1), .d (.str (rd6 m).1), .d (.str []), .d (.bool ((rd4 m).1 == 1))] rfl rfl rfl rfl rfl rfl ty9 rfl (xlb rfl) (by kernel_rfl)) ?_
      refine xlz (op_fieldP rfl rfl rfl fl40_5) ?_
      refine xlz (op_storeX [.d (.str (rd1 m).1), .d (I (majN (rd1 m).1)), .d (I (rd2 m).1), .d (I (rd3 m).1), .nils, .d (.str (rd5 m).1), .d (.str (rd6 m).1), .d (.str (rd7 m).1), .d (.bool ((rd4 m).1 == 1))] rfl rfl rfl rfl rfl rfl ty9 rfl (xlb rfl) (by kernel_rfl)) ?_
      refine lendF ?_
      refine ⟨(), ?_, ?_⟩
      ·
       exact True.intro
      ·
       exact ent_k [] rfl rfl ((by repeat (first | exact .nil | refine xkc ?_))) (obs_cons rfl (.cells (by repeat (first | exact .nil | refine .cons (by first | exact k_eq rfl | exact .same _ | exact k_i (by rw [majN_eq hp]; simp [hp])) ?_))) (obs_cons rfl (o_eq rfl) (obs_cons rfl (o_eq rfl) obs_nil))) rfl
     ·
      rintro _ _
      refine awp_seq ?_
      refine xsr ?_
      refine lmv rfl rfl rfl rfl rfl ?_
      refine xlz (o_callX (p := .d (I (rd8 m).1)) (news := []) (upd := [(6011, some ((rd8 m).2.ob))]) [6011] 46 (c67 (rd7 m).2 16 ((in7 m).hs hm) (in7 m).hp) rfl rfl rfl ca67 rfl (by decide) (handOK_cons (by decide) (by decide) rfl rfl handOK_nil) rfl rfl rfl rfl (by kernel_rfl) (by kernel_rfl) (by kernel_rfl)) ?_
      refine lmv rfl rfl rfl rfl rfl ?_
      refine lendF ?_
      refine awp_block ?_
      refine awp_ent (ent_tailc 5 4 500076 2 rfl rfl rfl (by decide) rfl) ?_
      refine awp_loop (fun i => ⟨91, [(47, .d (I (i : Nat))), (46, .d (I (rd8 m).1)), (5, .ptr 5 0), (4, .ptr 6011 0), (0, .d (.str m)), (2, .ptr 2 0)], [(5, .cells [.d (.str (rd1 m).1), .d (I (majN (rd1 m).1)), .d (I (rd2 m).1), .d (I (rd3 m).1), .tl ((qI m.length (rd8 m).2 i).1.map Req.d) (some 500076), .d (.str (rd5 m).1), .d (.str (rd6 m).1), .d (.str (rd7 m).1), .d (.bool ((rd4 m).1 == 1))]), (500076, .tail 2), (6011, (qI m.length (rd8 m).2 i).2.ob), (2, .cells [.d (.str []), .d (I 0), .d (I 0), .d (I 0), .nils, .d (.str []), .d (.str []), .d (.str []), .d (.bool false)])]⟩) (fun i => (rd8 m).1.toNat - i) (fun i => i ≤ (rd8 m).1.toNat) 0 ?_ ?_ ?_
      ·
       exact ent_k [] rfl rfl ((by repeat (first | exact .nil | refine xkc ?_))) (obs_cons rfl (.cells (by repeat (first | exact .nil | refine .cons (by first | exact k_eq rfl | exact .same _ | exact k_i (by rw [majN_eq hp]; simp [hp])) ?_))) (obs_cons rfl (o_eq rfl) (obs_cons rfl (o_eq rfl) (obs_cons rfl (o_eq rfl) obs_nil)))) rfl
      ·
       exact Nat.zero_le _
      ·
       rintro i hi
       refine xsr ?_
       refine xlz (op_binI rfl rfl rfl rfl rfl (.inl rfl) rfl) ?_
       refine lendF ?_
       refine awp_seq ?_
       refine awp_cond rfl rfl (fun hc2 => ?_) (fun hc2 => ?_)
       ·
        have h8 := cnt8 m
        have hlt : i < (rd8 m).1.toNat := by (have h : decide ((i : Int) < (rd8 m).1) = true := hc2); simp at h; omega
        refine awp_skip ?_
        refine awp_seq ?_
        refine awp_block ?_
        refine xsr ?_
        refine lmv rfl rfl rfl rfl rfl ?_
        refine xlz (o_callX (p := .d (.str ((qI m.length (rd8 m).2 i).2.text).1)) (news := []) (upd := [(6011, some (((qI m.length (rd8 m).2 i).2.text).2.ob))]) [6011] 50 (c64 (qI m.length (rd8 m).2 i).2 ((qI_in (in8 m) m.length i).hs hm) (qI_in (in8 m) m.length i).hp) rfl rfl rfl ca64 rfl (by decide) (handOK_cons (by decide) (by decide) rfl rfl handOK_nil) rfl rfl rfl rfl (by kernel_rfl) (by kernel_rfl) (by kernel_rfl)) ?_
        refine xlz (o_bldP rfl rfl rfl bl51 ty51 zk51 rfl rfl) ?_
        refine xlz (op_alloc rfl rfl (by decide) ty51 zk51 rfl) ?_
        refine xlz (op_storeX [.d (.str (qI m.length (rd8 m).2 i).2.text.1), .nils] rfl rfl rfl rfl rfl rfl ty51 rfl (xlb rfl) (by kernel_rfl)) ?_
        refine lendF ?_
        refine awp_seq ?_
        refine xsr ?_
        iterate 2 refine lmv rfl rfl rfl rfl rfl ?_
        refine xlz (op_lenS rfl rfl rfl ty9) ?_
        refine xlz (o_callX (p := .d (I (rdc m.length (qI m.length (rd8 m).2 i).2).1)) (news := []) (upd := [(6011, some ((rdc m.length (qI m.length (rd8 m).2 i).2).2.ob))]) [6011] 55 (c67 (qI m.length (rd8 m).2 i).2.text.2 m.length ((text_in (qI_in (in8 m) m.length i)).hs hm) (text_in (qI_in (in8 m) m.length i)).hp) rfl rfl rfl ca67 rfl (by decide) (handOK_cons (by decide) (by decide) rfl rfl handOK_nil) rfl rfl rfl rfl (by kernel_rfl) (by kernel_rfl) (by kernel_rfl)) ?_
        refine lmv rfl rfl rfl rfl rfl ?_
        refine lendF ?_
        refine awp_block ?_
        refine awp_ent (ent_tailc 9 1 500069 2 rfl rfl rfl (by decide) rfl) ?_
        refine awp_loop (fun k => ⟨91, [(56, .d (I (k : Nat))), (55, .d (I (rdc m.length (qI m.length (rd8 m).2 i).2).1)), (9, .ptr 9 0), (0, .d (.str m)), (2, .ptr 2 0), (4, .ptr 6011 0), (5, .ptr 5 0), (46, .d (I (rd8 m).1)), (47, .d (I (i : Nat))), (49, .ptr 6011 0), (50, .d (.str ((qI m.length (rd8 m).2 i).2.text).1)), (51, .agg [.d (.str (qI m.length (rd8 m).2 i).2.text.1), .nils]), (52, .ptr 6011 0), (53, .d (.str m)), (54, .d (I m.length))], [(9, .cells [.d (.str (qI m.length (rd8 m).2 i).2.text.1), .tl ((sI (rdc m.length (qI m.length (rd8 m).2 i).2).2 k).1.map Span.d) (some 500069)]), (500069, .tail 2), (6011, (sI (rdc m.length (qI m.length (rd8 m).2 i).2).2 k).2.ob), (5, .cells [.d (.str (rd1 m).1), .d (I (majN (rd1 m).1)), .d (I (rd2 m).1), .d (I (rd3 m).1), .tl ((qI m.length (rd8 m).2 i).1.map Req.d) (some 500076), .d (.str (rd5 m).1), .d (.str (rd6 m).1), .d (.str (rd7 m).1), .d (.bool ((rd4 m).1 == 1))]), (500076, .tail 2), (2, .cells [.d (.str []), .d (I 0), .d (I 0), .d (I 0), .nils, .d (.str []), .d (.str []), .d (.str []), .d (.bool false)])]⟩) (fun k => (rdc m.length (qI m.length (rd8 m).2 i).2).1.toNat - k) (fun k => k ≤ (rdc m.length (qI m.length (rd8 m).2 i).2).1.toNat) 0 ?_ ?_ ?_
        ·
         exact ent_k [] rfl rfl ((by repeat (first | exact .nil | refine xkc ?_))) (obs_cons rfl (.cells (by repeat (first | exact .nil | refine .cons (by first | exact k_eq rfl | exact .same _ | exact k_i (by rw [majN_eq hp]; simp [hp])) ?_))) (obs_cons rfl (o_eq rfl) (obs_cons rfl (o_eq rfl) (obs_cons rfl (o_eq rfl) (obs_cons rfl (o_eq rfl) (obs_cons rfl (o_eq rfl) obs_nil)))))) rfl
        ·
         exact Nat.zero_le _
        ·
         rintro k hk
         refine xsr ?_
         refine xlz (op_binI rfl rfl rfl rfl rfl (.inl rfl) rfl) ?_
         refine lendF ?_
         refine awp_seq ?_
         refine awp_cond rfl rfl (fun hc3 => ?_) (fun hc3 => ?_)
         ·
          have hcb : (rdc m.length (qI m.length (rd8 m).2 i).2).1 ≤ m.length := (count_bnd (qI m.length (rd8 m).2 i).2.text.2 m.length (by omega)).2
          have hk2 : k < (rdc m.length (qI m.length (rd8 m).2 i).2).1.toNat := by (have h : decide ((k : Int) < (rdc m.length (qI m.length (rd8 m).2 i).2).1) = true := hc3); simp at h; omega
          refine awp_skip ?_
          refine awp_seq ?_
          refine awp_block ?_
          refine awp_seq ?_
          refine xsr ?_
          refine lmv rfl rfl rfl rfl rfl ?_
          refine xlz (o_callR [6011] (c68 (sI (rdc m.length (qI m.length (rd8 m).2 i).2).2 k).2) rfl rfl rfl ca68 rfl (by decide) (handOK_cons (by decide) (by decide) rfl rfl handOK_nil) rfl) ?_
          refine xlz (op_binI rfl rfl rfl rfl rfl (.inl rfl) rfl) ?_
          refine lendF ?_
          refine awp_cond rfl rfl (fun hc4 => ?_) (fun hc4 => ?_)
          ·
           have he : (sI (rdc m.length (qI m.length (rd8 m).2 i).2).2 k).2.e ≠ 0 := by simpa using hc4
           rw [sI_stop he hk]
           refine awp_exit ?_
           refine awp_region mixed ?_
           refine xlz (op_fieldP rfl rfl rfl fl40_2) ?_
           refine xlz (op_load1 rfl rfl rfl rfl ty26 rfl rfl) ?_
           refine xlz (o_ldA rfl rfl rfl rfl ty51 rfl (xlb rfl) rfl) ?_
           refine xlz (o_bs rfl rfl rfl rfl rfl ty26 ty51 rfl rfl) ?_
           refine xlz (o_app rfl rfl (by decide) rfl rfl rfl ty26 ty51 rfl (by decide) rfl (by intro d hd; obtain ⟨x, _, rfl⟩ := List.mem_map.1 hd; rfl) (by simp [D.cells]) (by have := qI_len m.length (rd8 m).2 i; have := cnt8 m; simp; omega) (by decide) (show _ = (qI m.length (rd8 m).2 (i + 1)).1.map Req.d from by simp [qI, qstep])) ?_
           refine xlz (op_fieldP rfl rfl rfl fl40_2) ?_
           refine xlz (op_storeX [.d (.str (rd1 m).1), .d (I (majN (rd1 m).1)), .d (I (rd2 m).1), .d (I (rd3 m).1), .tl ((qI m.length (rd8 m).2 (i + 1)).1.map Req.d) (some 76), .d (.str (rd5 m).1), .d (.str (rd6 m).1), .d (.str (rd7 m).1), .d (.bool ((rd4 m).1 == 1))] rfl rfl rfl rfl rfl rfl ty26 rfl (xlb rfl) (by kernel_rfl)) ?_
           refine lendF ?_
           refine awp_region mixed ?_
           refine xlz (o_add rfl rfl rfl rfl (by first | omega | (simp; omega) | (simp at *; omega))) ?_
           refine lmv rfl rfl rfl rfl rfl ?_
           refine lendF ?_
           refine ⟨i + 1, ?_, ?_, ?_⟩
           ·
            exact hlt
           ·
            exact ent_k [(500076, 76)] rfl rfl ((by repeat (first | exact .nil | refine xkc ?_))) (obs_cons rfl (.cells (by repeat (first | exact .nil | refine .cons (by first | exact k_eq rfl | exact .same _ | exact k_i (by rw [majN_eq hp]; simp [hp])) ?_))) (obs_cons rfl (o_eq rfl) (obs_cons rfl (o_eq rfl) (obs_cons rfl (o_eq rfl) obs_nil)))) rfl
           ·
            omega
          ·
           have he : (sI (rdc m.length (qI m.length (rd8 m).2 i).2).2 k).2.e = 0 := by simpa using hc4
           refine awp_skip ?_
           refine awp_region mixed ?_
           refine xlz (op_fieldP rfl rfl rfl fl51_1) ?_
           refine xlz (op_load1 rfl rfl rfl rfl ty49 rfl rfl) ?_
           refine lmv rfl rfl rfl rfl rfl ?_
           refine xlz (o_callX (p := .d (I ((sI (rdc m.length (qI m.length (rd8 m).2 i).2).2 k).2.uint).1)) (news := []) (upd := [(6011, some (((sI (rdc m.length (qI m.length (rd8 m).2 i).2).2 k).2.uint).2.ob))]) [6011] 64 (c66 (sI (rdc m.length (qI m.length (rd8 m).2 i).2).2 k).2 ((sI_in (count_in (text_in (qI_in (in8 m) m.length i)) m.length) k).hs hm) (sI_in (count_in (text_in (qI_in (in8 m) m.length i)) m.length) k).hp) rfl rfl rfl ca66 rfl (by decide) (handOK_cons (by decide) (by decide) rfl rfl handOK_nil) rfl rfl rfl rfl (by kernel_rfl) (by kernel_rfl) (by kernel_rfl)) ?_
           refine lmv rfl rfl rfl rfl rfl ?_
           refine xlz (o_callX (p := .d (I ((sI (rdc m.length (qI m.length (rd8 m).2 i).2).2 k).2.uint.2.uint).1)) (news := []) (upd := [(6011, some (((sI (rdc m.length (qI m.length (rd8 m).2 i).2).2 k).2.uint.2.uint).2.ob))]) [6011] 66 (c66 (sI (rdc m.length (qI m.length (rd8 m).2 i).2).2 k).2.uint.2 ((uint_in (sI_in (count_in (text_in (qI_in (in8 m) m.length i)) m.length) k)).hs hm) (uint_in (sI_in (count_in (text_in (qI_in (in8 m) m.length i)) m.length) k)).hp) rfl rfl rfl ca66 rfl (by decide) (handOK_cons (by decide) (by decide) rfl rfl handOK_nil) rfl rfl rfl rfl (by kernel_rfl) (by kernel_rfl) (by kernel_rfl)) ?_
           refine xlz (o_bld rfl rfl rfl bl78 ty78 zk78 rfl rfl rfl) ?_
           refine xlz (o_bs rfl rfl rfl rfl rfl ty49 ty78 rfl rfl) ?_
           refine xlz (o_app rfl rfl (by decide) rfl rfl rfl ty49 ty78 rfl (by decide) rfl (by intro d hd; obtain ⟨x, _, rfl⟩ := List.mem_map.1 hd; rfl) (by simp [D.cells]) (by have := sI_len (rdc m.length (qI m.length (rd8 m).2 i).2).2 k; have := (count_bnd (qI m.length (rd8 m).2 i).2.text.2 m.length (by omega)).2; unfold rdc at *; simp; omega) (by decide) (show _ = (sI (rdc m.length (qI m.length (rd8 m).2 i).2).2 (k + 1)).1.map Span.d from by rw [sI_next he]; simp)) ?_
           refine xlz (op_fieldP rfl rfl rfl fl51_1) ?_
           refine xlz (op_storeX [.d (.str (qI m.length (rd8 m).2 i).2.text.1), .tl ((sI (rdc m.length (qI m.length (rd8 m).2 i).2).2 (k + 1)).1.map Span.d) (some 69)] rfl rfl rfl rfl rfl rfl ty49 rfl (xlb rfl) (by kernel_rfl)) ?_
           refine lend (fun _ => by kernel_rfl) ?_
           refine awp_region mixed ?_
           refine xlz (o_add rfl rfl rfl rfl (by first | omega | (simp; omega) | (simp at *; omega))) ?_
           refine lmv rfl rfl rfl rfl rfl ?_
           refine lendF ?_
           refine ⟨k + 1, ?_, ?_, ?_⟩
           ·
            exact hk2
           ·
            exact ent_k [(500069, 69)] rfl rfl ((by repeat (first | exact .nil | refine xkc ?_))) (obs_cons rfl (.cells (by repeat (first | exact .nil | refine .cons (by first | exact k_eq rfl | exact .same _ | exact k_i (by rw [majN_eq hp]; simp [hp])) ?_))) (obs_cons rfl (o_eq rfl) (obs_cons rfl (o_eq (by rw [sI_next he]; rfl)) (obs_cons rfl (o_eq rfl) (obs_cons rfl (o_eq rfl) (obs_cons rfl (o_eq rfl) obs_nil)))))) rfl
           ·
            omega
         ·
          obtain rfl : k = (rdc m.length (qI m.length (rd8 m).2 i).2).1.toNat := by (have h : decide ((k : Int) < (rdc m.length (qI m.length (rd8 m).2 i).2).1) = false := hc3); simp at h; omega
          refine awp_exit ?_
          refine awp_region mixed ?_
          refine xlz (op_fieldP rfl rfl rfl fl40_2) ?_
          refine xlz (op_load1 rfl rfl rfl rfl ty26 rfl rfl) ?_
          refine xlz (o_ldA rfl rfl rfl rfl ty51 rfl (xlb rfl) rfl) ?_
          refine xlz (o_bs rfl rfl rfl rfl rfl ty26 ty51 rfl rfl) ?_
          refine xlz (o_app rfl rfl (by decide) rfl rfl rfl ty26 ty51 rfl (by decide) rfl (by intro d hd; obtain ⟨x, _, rfl⟩ := List.mem_map.1 hd; rfl) (by simp [D.cells]) (by have := qI_len m.length (rd8 m).2 i; have := cnt8 m; simp; omega) (by decide) (show _ = (qI m.length (rd8 m).2 (i + 1)).1.map Req.d from by simp [qI, qstep])) ?_
          refine xlz (op_fieldP rfl rfl rfl fl40_2) ?_
          refine xlz (op_storeX [.d (.str (rd1 m).1), .d (I (majN (rd1 m).1)), .d (I (rd2 m).1), .d (I (rd3 m).1), .tl ((qI m.length (rd8 m).2 (i + 1)).1.map Req.d) (some 76), .d (.str (rd5 m).1), .d (.str (rd6 m).1), .d (.str (rd7 m).1), .d (.bool ((rd4 m).1 == 1))] rfl rfl rfl rfl rfl rfl ty26 rfl (xlb rfl) (by kernel_rfl)) ?_
          refine lendF ?_
          refine awp_region mixed ?_
          refine xlz (o_add rfl rfl rfl rfl (by first | omega | (simp; omega) | (simp at *; omega))) ?_
          refine lmv rfl rfl rfl rfl rfl ?_
          refine lendF ?_
          refine ⟨i + 1, ?_, ?_, ?_⟩
          ·
           exact hlt
          ·
           exact ent_k [(500076, 76)] rfl rfl ((by repeat (first | exact .nil | refine xkc ?_))) (obs_cons rfl (.cells (by repeat (first | exact .nil | refine .cons (by first | exact k_eq rfl | exact .same _ | exact k_i (by rw [majN_eq hp]; simp [hp])) ?_))) (obs_cons rfl (o_eq rfl) (obs_cons rfl (o_eq rfl) (obs_cons rfl (o_eq rfl) obs_nil)))) rfl
          ·
           omega
       ·
        obtain rfl : i = (rd8 m).1.toNat := by (have h : decide ((i : Int) < (rd8 m).1) = false := hc2); simp at h; omega
        refine awp_exit ?_
        refine awp_seq ?_
        refine xsr ?_
        refine lmv rfl rfl rfl rfl rfl ?_
        refine xlz (o_callR [6011] (c69 (rd9 m).2 ((in9 m).hs hm)) rfl rfl rfl ca69 rfl (by decide) (handOK_cons (by decide) (by decide) rfl rfl handOK_nil) rfl) ?_
        refine xlz (op_binI rfl rfl rfl rfl rfl (.inl rfl) rfl) ?_
        refine lmv rfl rfl rfl rfl rfl ?_
        refine lsplit rfl (fun hg5 => ?_) (fun hg5 => ?_)
        ·
         have hd : (rd9 m).2.done = 0 := by (have h := (g01 hg5)); simpa using h
         refine lg (o_ldA rfl rfl rfl rfl ty40 rfl (xlb rfl) rfl) rfl hg5 rfl rfl ?_
         refine lg (o_bs rfl rfl rfl rfl rfl ty22 ty40 rfl rfl) rfl hg5 rfl rfl ?_
         refine lg (o_bld rfl rfl rfl bl25 ty25 zk25 rfl rfl rfl) rfl hg5 rfl rfl ?_
         refine lg (o_call (c22 ⟨[outI m], []⟩ (by simp) (by simpa using out_sm m hm)) rfl rfl rfl ca22 rfl rfl) rfl hg5 rfl rfl ?_
         refine lg (op_binI rfl rfl rfl rfl rfl (.inl rfl) rfl) rfl hg5 rfl rfl ?_
         refine xlz (o_pF rfl rfl (g01 hg5) rfl rfl) ?_
         refine lendF ?_
         refine awp_cond rfl rfl (fun hc6 => ?_) (fun hc6 => ?_)
         ·
          have hb : readB m := .inr (.inr (by (have h := hc6); simpa using h))
          refine xsr ?_
          refine xlz (o_bld rfl rfl rfl bl40 ty40 zk40 rfl rfl rfl) ?_
          refine xlz (op_storeX [.d (.str []), .d (I 0), .d (I 0), .d (I 0), .d (.list []), .d (.str []), .d (.str []), .d (.str []), .d (.bool false)] rfl rfl rfl rfl rfl rfl ty40 rfl (xlb rfl) (by kernel_rfl)) ?_
          refine las rfl rfl rfl rfl rfl ?_
          refine lendF ?_
          refine awp_ret ?_
          refine ⟨[_, _], ⟨⟨_, _, _, _, _, _, _, rfl, rfl, ty40, (xlb rfl), rfl⟩, rfl, trivial⟩, ?_⟩
          first | exact ent_d2 rfl (by rw [readI, if_pos hb] <;> rfl) rfl (by rw [readI, if_pos hb] <;> rfl) | exact ent_d2 rfl (by rw [readI, if_neg hb] <;> rfl) rfl (by rw [readI, if_neg hb] <;> rfl)
         ·
          have hc : checkI [outI m] = 0 := by (have h := hc6); simpa using h
          have hb : ¬ readB m := by (have := majN_yes hp); simp [readB, hd, hc, this]
          refine awp_skip ?_
          refine xsr ?_
          refine xlz (o_ldA rfl rfl rfl rfl ty40 rfl (xlb rfl) rfl) ?_
          refine xlz (op_store rfl rfl rfl rfl rfl rfl ty40 rfl (xlb rfl)) ?_
          refine las rfl rfl rfl rfl rfl ?_
          refine lendF ?_
          refine awp_ret ?_
          refine ⟨[_, _], ⟨⟨_, _, _, _, _, _, _, rfl, rfl, ty40, (xlb rfl), rfl⟩, rfl, trivial⟩, ?_⟩
          first | exact ent_d2 rfl (by rw [readI, if_pos hb] <;> rfl) rfl (by rw [readI, if_pos hb] <;> rfl) | exact ent_d2 rfl (by rw [readI, if_neg hb] <;> rfl) rfl (by rw [readI, if_neg hb] <;> rfl)
        ·
         have hb : readB m := .inr (.inl (by (have h := (g00 hg5)); simpa using h))
         iterate 5 refine lskip rfl hg5 rfl ?_
         refine xlz (o_pT rfl rfl (g00 hg5) rfl rfl) ?_
         refine lendF ?_
         refine awp_condT rfl rfl rfl ?_
         refine xsr ?_
         refine xlz (o_bld rfl rfl rfl bl40 ty40 zk40 rfl rfl rfl) ?_
         refine xlz (op_storeX [.d (.str []), .d (I 0), .d (I 0), .d (I 0), .d (.list []), .d (.str []), .d (.str []), .d (.str []), .d (.bool false)] rfl rfl rfl rfl rfl rfl ty40 rfl (xlb rfl) (by kernel_rfl)) ?_
         refine las rfl rfl rfl rfl rfl ?_
         refine lendF ?_
         refine awp_ret ?_
         refine ⟨[_, _], ⟨⟨_, _, _, _, _, _, _, rfl, rfl, ty40, (xlb rfl), rfl⟩, rfl, trivial⟩, ?_⟩
         first | exact ent_d2 rfl (by rw [readI, if_pos hb] <;> rfl) rfl (by rw [readI, if_pos hb] <;> rfl) | exact ent_d2 rfl (by rw [readI, if_neg hb] <;> rfl) rfl (by rw [readI, if_neg hb] <;> rfl)

end Go.Pm

namespace Go.Pm
open Go.Proofs
set_option maxRecDepth 100000
theorem exI_len : exI.rels.length = 4 := by decide
theorem c45x : Fn PR 45 [] [] [.d exI.d] [] := c45
theorem c17x : Fn PR 17 [.d exR.d] [] [.d (.str (manX exR)), .d (I 0)] [] := by
  have h := c17 exR exR_sm
  rw [show (if checkI [exR] = 0 then manT exR else []) = manX exR from rfl, ex_man] at h; exact h
theorem c19x : Fn PR 19 [.d (.str (manX exR))] [] [.d exR.d, .d (I 0)] [] := by
  have h := c19 (manX exR) ex_len
  rw [ex_read] at h; exact h
theorem c22x : Fn PR 22 [.d exI.d] [] [.d (I 0)] [] := by
  have h := c22 exI (by rw [exI_len]; decide) exI_sm
  rw [ex_check] at h; exact h
theorem c13x : Fn PR 13 [.d exI.d, .d (reqsD exN)] [] [.d (selsD exL)] [] := by
  have h := c13 exI (by rw [exI_len]; decide) exI_sm exN exN_sm (by decide)
  rw [ex_reachL] at h; exact h
theorem c43x : Fn PR 43 [.d exI.d, .d (.str pB)] [] [.d (setD exV)] [] := by
  have h := c43 exI (by rw [exI_len]; decide) exI_sm pB
  rw [ex_avV] at h; exact h
theorem c42x : Fn PR 42 [.d (setD exV), .d (setD exV)] [] [.d (.bool true)] [] := by
  have h := c42 exV exV (by decide)
  rw [decide_eq_true rfl] at h; exact h
theorem c15s : Fn PR 15 [.d exI.d, .d (reqsD exN), .d (selsD exS)] [] [.d (I 17)] [] := by
  have h := c15 exI (by rw [exI_len]; decide) exI_sm exN exS exN_sm (by decide) (by decide)
  rw [ex_sol] at h; exact h
theorem c15g : Fn PR 15 [.d exI.d, .d (reqsD exN), .d (selsD exG)] [] [.d (I 0)] [] := by
  have h := c15 exI (by rw [exI_len]; decide) exI_sm exN exG exN_sm (by decide) (by decide)
  rw [ex_good] at h; exact h
theorem c21x : Fn PR 21 [.d exR.d, .d exR.d] [] [.d (.bool true)] [] := by
  have h := c21 exR exR (by decide) (by decide)
  rw [decide_eq_true rfl] at h; exact h
end Go.Pm

namespace Go.Pm
open Go.Proofs

set_option maxRecDepth 10000 in
set_option maxHeartbeats 4000000 in
theorem c9  : Fn PR 9 [] [] [.d (.bool true)] [] := by
 refine fn_of_awp Tryz.func9 rfl (N := 89) rfl ?_
 refine xsr ?_
 refine las rfl rfl rfl rfl rfl ?_
 refine lendF ?_
 refine xsr ?_
 refine xlz (o_call (c45x) rfl rfl rfl ca45 rfl rfl) ?_
 refine xlz (op_alloc rfl rfl (by decide) ty25 zk25 rfl) ?_
 refine xlz (op_store rfl rfl rfl rfl rfl rfl ty25 rfl (xlb rfl)) ?_
 refine lendF ?_
 refine xsr ?_
 refine xlz (o_bld rfl rfl rfl bl78 ty78 zk78 rfl rfl rfl) ?_
 refine xlz (o_bs rfl rfl rfl rfl rfl ty49 ty78 rfl rfl) ?_
 refine xlz (o_bld rfl rfl rfl bl51 ty51 zk51 rfl rfl rfl) ?_
 refine xlz (o_bs rfl rfl rfl rfl rfl ty26 ty51 rfl rfl) ?_
 refine las rfl rfl rfl rfl rfl ?_
 refine lendF ?_
 refine xsr ?_
 refine xlz (o_bld rfl rfl rfl bl38 ty38 zk38 rfl rfl rfl) ?_
 refine xlz (o_bld rfl rfl rfl bl38 ty38 zk38 rfl rfl rfl) ?_
 refine xlz (op_alloc rfl rfl (by decide) ty38 zk38 rfl) ?_
 refine xlz (op_alloc rfl rfl (by decide) ty38 zk38 rfl) ?_
 refine xlz (op_store rfl rfl rfl rfl rfl rfl ty38 rfl (xlb rfl)) ?_
 refine xlz (op_store rfl rfl rfl rfl rfl rfl ty38 rfl (xlb rfl)) ?_
 refine lendF ?_
 refine xsr ?_
 refine xlz (o_ldA rfl rfl rfl rfl ty38 rfl (xlb rfl) rfl) ?_
 refine xlz (o_bld rfl rfl rfl bl54 ty54 zk54 rfl rfl rfl) ?_
 refine xlz (o_ldA rfl rfl rfl rfl ty38 rfl (xlb rfl) rfl) ?_
 refine xlz (o_bld rfl rfl rfl bl54 ty54 zk54 rfl rfl rfl) ?_
 refine xlz (o_bs rfl rfl rfl rfl rfl ty27 ty54 rfl rfl) ?_
 refine las rfl rfl rfl rfl rfl ?_
 refine lendF ?_
 refine xsr ?_
 refine xlz (o_ldA rfl rfl rfl rfl ty38 rfl (xlb rfl) rfl) ?_
 refine xlz (o_bld rfl rfl rfl bl54 ty54 zk54 rfl rfl rfl) ?_
 refine xlz (o_ldA rfl rfl rfl rfl ty38 rfl (xlb rfl) rfl) ?_
 refine xlz (o_bld rfl rfl rfl bl54 ty54 zk54 rfl rfl rfl) ?_
 refine xlz (o_bs rfl rfl rfl rfl rfl ty27 ty54 rfl rfl) ?_
 refine las rfl rfl rfl rfl rfl ?_
 refine lendF ?_
 refine xsr ?_
 refine xlz (op_fieldP rfl rfl rfl fl25_0) ?_
 refine xlz (op_load1 rfl rfl rfl rfl ty22 rfl rfl) ?_
 refine xlz (o_ixN (0) rfl rfl rfl rfl ty22 (by first | rfl | omega | (simp; done) | (simp; omega)) (rfl : exI.rels[0]? = some exR) ty40) ?_
 refine xlz (op_loadCA rfl rfl rfl ty40 rfl (xlb rfl)) ?_
 refine xlz (o_call (c17x) rfl rfl rfl ca17 rfl rfl) ?_
 refine lmv rfl rfl rfl rfl rfl ?_
 refine xlz (op_extract rfl rfl rfl rfl) ?_
 refine xlz (op_extract rfl rfl rfl rfl) ?_
 iterate 2 refine las rfl rfl rfl rfl rfl ?_
 refine lendF ?_
 refine awp_joinX (fun _ : Unit => ⟨89, [(2, .d (reqsD exN)), (5, .d (selsD exS)), (6, .d (selsD exG)), (8, .d (I 0)), (10, .d (I 0)), (1, .ptr 1 0), (9, .ptr 9 0)], [(1, .cells [.d (relsD exI.rels), .d (.list exI.ifs)]), (9, .cells [.d (.str exR.path), .d (I exR.ver.maj), .d (I exR.ver.min), .d (I exR.ver.pat), .d (reqsD exR.reqs), .d (.str exR.arch), .d (.str exR.iface), .d (.str exR.cert), .d (.bool exR.yank)])]⟩) (fun _ : Unit => True) ?_ ?_
 ·
  refine awp_region mixed ?_
  refine lmv rfl rfl rfl rfl rfl ?_
  refine xlz (o_call (c19x) rfl rfl rfl ca19 rfl rfl) ?_
  refine lmv rfl rfl rfl rfl rfl ?_
  refine xlz (op_extract rfl rfl rfl rfl) ?_
  refine xlz (op_extract rfl rfl rfl rfl) ?_
  refine xlz (op_alloc rfl rfl (by decide) ty40 zk40 rfl) ?_
  refine xlz (op_store rfl rfl rfl rfl rfl rfl ty40 rfl (xlb rfl)) ?_
  refine las rfl rfl rfl rfl rfl ?_
  refine lendF ?_
  refine ⟨(), ?_, ?_⟩
  ·
   exact True.intro
  ·
   exact ent_k [] rfl rfl ((by repeat (first | exact .nil | refine xkc ?_))) (obs_cons rfl (o_eq rfl) (obs_cons rfl (o_eq rfl) obs_nil)) rfl
 ·
  rintro _ _
  refine xsr ?_
  refine xlz (o_ldA rfl rfl rfl rfl ty25 rfl (xlb rfl) rfl) ?_
  refine xlz (o_call (c22x) rfl rfl rfl ca22 rfl rfl) ?_
  refine xlz (op_binI rfl rfl rfl rfl rfl (.inl rfl) rfl) ?_
  refine lmv rfl rfl rfl rfl rfl ?_
  refine lsplit rfl (fun hg1 => ?_) (fun hg1 => ?_)
  ·
   refine lg (o_ldA rfl rfl rfl rfl ty25 rfl (xlb rfl) rfl) rfl hg1 rfl rfl ?_
   refine gmv hg1 rfl rfl rfl rfl rfl ?_
   refine lg (o_call (c13x) rfl rfl rfl ca13 rfl rfl) rfl hg1 rfl rfl ?_
   refine lg (o_lenE (n := exL.length) rfl rfl rfl ty27 (by simp)) rfl hg1 rfl rfl ?_
   refine lg (op_binI rfl rfl rfl rfl rfl (.inl rfl) rfl) rfl hg1 rfl rfl ?_
   refine xlz (o_pT rfl rfl (g11 hg1) rfl rfl) ?_
   refine lmv rfl rfl rfl rfl rfl ?_
   refine lsplit rfl (fun hg2 => ?_) (fun hg2 => ?_)
   ·
    refine lg (o_ldA rfl rfl rfl rfl ty25 rfl (xlb rfl) rfl) rfl hg2 rfl rfl ?_
    refine lg (o_call (c43x) rfl rfl rfl ca43 rfl rfl) rfl hg2 rfl rfl ?_
    refine lg (o_bld rfl rfl rfl bl78 ty78 zk78 rfl rfl rfl) rfl hg2 rfl rfl ?_
    refine lg (o_bld rfl rfl rfl bl78 ty78 zk78 rfl rfl rfl) rfl hg2 rfl rfl ?_
    refine lg (o_bsD rfl rfl rfl rfl rfl ty49 ty78 rfl rfl) rfl hg2 rfl rfl ?_
    refine lg (o_call (c42x) rfl rfl rfl ca42 rfl rfl) rfl hg2 rfl rfl ?_
    refine xlz (o_pT rfl rfl (g11 hg2) rfl rfl) ?_
    refine lmv rfl rfl rfl rfl rfl ?_
    refine lsplit rfl (fun hg3 => ?_) (fun hg3 => ?_)
    ·
     refine lg (o_ldA rfl rfl rfl rfl ty25 rfl (xlb rfl) rfl) rfl hg3 rfl rfl ?_
     iterate 2 refine gmv hg3 rfl rfl rfl rfl rfl ?_
     refine lg (o_call (c15s) rfl rfl rfl ca15 rfl rfl) rfl hg3 rfl rfl ?_
     refine lg (op_binI rfl rfl rfl rfl rfl (.inl rfl) rfl) rfl hg3 rfl rfl ?_
     refine xlz (o_pT rfl rfl (g11 hg3) rfl rfl) ?_
     refine lmv rfl rfl rfl rfl rfl ?_
     refine lsplit rfl (fun hg4 => ?_) (fun hg4 => ?_)
     ·
      refine lg (o_ldA rfl rfl rfl rfl ty25 rfl (xlb rfl) rfl) rfl hg4 rfl rfl ?_
      iterate 2 refine gmv hg4 rfl rfl rfl rfl rfl ?_
      refine lg (o_call (c15g) rfl rfl rfl ca15 rfl rfl) rfl hg4 rfl rfl ?_
      refine lg (op_binI rfl rfl rfl rfl rfl (.inl rfl) rfl) rfl hg4 rfl rfl ?_
      refine xlz (o_pT rfl rfl (g11 hg4) rfl rfl) ?_
      refine lmv rfl rfl rfl rfl rfl ?_
      refine lsplit rfl (fun hg5 => ?_) (fun hg5 => ?_)
      ·
       refine gmv hg5 rfl rfl rfl rfl rfl ?_
       refine lg (op_binI rfl rfl rfl rfl rfl (.inl rfl) rfl) rfl hg5 rfl rfl ?_
       refine xlz (o_pT rfl rfl (g11 hg5) rfl rfl) ?_
       refine lmv rfl rfl rfl rfl rfl ?_
       refine lsplit rfl (fun hg6 => ?_) (fun hg6 => ?_)
       ·
        refine gmv hg6 rfl rfl rfl rfl rfl ?_
        refine lg (op_binI rfl rfl rfl rfl rfl (.inl rfl) rfl) rfl hg6 rfl rfl ?_
        refine xlz (o_pT rfl rfl (g11 hg6) rfl rfl) ?_
        refine lmv rfl rfl rfl rfl rfl ?_
        refine lsplit rfl (fun hg7 => ?_) (fun hg7 => ?_)
        ·
         refine lg (o_ldA rfl rfl rfl rfl ty40 rfl (xlb rfl) rfl) rfl hg7 rfl rfl ?_
         refine lg (op_fieldP rfl rfl rfl fl25_0) rfl hg7 rfl rfl ?_
         refine lg (op_load1 rfl rfl rfl rfl ty22 rfl rfl) rfl hg7 rfl rfl ?_
         refine lg (o_ixN (0) rfl rfl rfl rfl ty22 (by first | rfl | omega | (simp; done) | (simp; omega)) (rfl : exI.rels[0]? = some exR) ty40) rfl hg7 rfl rfl ?_
         refine lg (op_loadCA rfl rfl rfl ty40 rfl (xlb rfl)) rfl hg7 rfl rfl ?_
         refine lg (o_call (c21x) rfl rfl rfl ca21 rfl rfl) rfl hg7 rfl rfl ?_
         refine xlz (o_pT rfl rfl (g11 hg7) rfl rfl) ?_
         refine las rfl rfl rfl rfl rfl ?_
         refine lend (fun _ => by kernel_rfl) ?_
         refine awp_ret ?_
         refine ⟨[_], ⟨rfl, trivial⟩, ?_⟩
         exact ent_d1 rfl rfl
        ·
         exact absurd (g10 hg7) (by decide)
       ·
        exact absurd (g10 hg6) (by decide)
      ·
       exact absurd (g10 hg5) (by decide)
     ·
      exact absurd (g10 hg4) (by decide)
    ·
     exact absurd (g10 hg3) (by decide)
   ·
    exact absurd (g10 hg2) (by decide)
  ·
   exact absurd (g10 hg1) (by decide)

end Go.Pm

namespace Go.Pm
section
variable {x : Idx} {needs : List Req}
theorem mem_reachI (h0 : checkI x.rels = 0) {y : Sel} : y ∈ reachI x needs ↔ ∃ r, Rch x.rels needs r ∧ r.sel = y := by
  rw [reachI_eq, refI_yes h0, List.mem_map]
  constructor
  · rintro ⟨r, hr, e⟩
    exact ⟨r, rchB_iff.1 (List.mem_filter.1 hr).2, e⟩
  · rintro ⟨r, hr, e⟩
    exact ⟨r, List.mem_filter.2 ⟨hr.mem, rchB_iff.2 hr⟩, e⟩
theorem reachI_no (h0 : ¬ checkI x.rels = 0) : reachI x needs = [] := by rw [reachI_eq, refI_no h0]
theorem findR_sel (h0 : checkI x.rels = 0) {r : Rls} (hr : r ∈ x.rels) : findR (okR x) r.sel = some r := by
  rw [okR_yes h0]
  unfold findR
  cases hf : x.rels.find? fun z => z.sel == r.sel with
  | none => have := List.find?_eq_none.1 hf r hr; simp at this
  | some z =>
    have h1 := List.mem_of_find?_eq_some hf
    have h2 := List.find?_some hf
    rw [sel_inj (checkI_sorted h0) h1 hr (by simpa using h2)]
theorem getR_sel (h0 : checkI x.rels = 0) {r : Rls} (hr : r ∈ x.rels) : getR x r.sel = r := by unfold getR; rw [findR_sel h0 hr]; rfl
theorem reach_find (h0 : checkI x.rels = 0) {y : Sel} (hy : y ∈ reachI x needs) : (findR (okR x) y).isSome = true := by
  obtain ⟨r, hr, rfl⟩ := (mem_reachI h0).1 hy
  rw [findR_sel h0 hr.mem]; rfl
/-- A release is reached just if a root, or a requirement of one that is reached, reaches it. -/
theorem reach_closed (h0 : checkI x.rels = 0) {r : Rls} (hr : r ∈ x.rels) : ((allR x needs (reachI x needs) ((reachI x needs).map (getR x)).length).any fun q => reaches q r) = decide (r.sel ∈ reachI x needs) := by
  rw [allR_full h0, Bool.eq_iff_iff, decide_eq_true_eq, mem_reachI h0]
  unfold allQ
  rw [← getR_getK h0, List.any_append, Bool.or_eq_true]
  constructor
  · rintro (h | h)
    · exact ⟨r, .root hr h, rfl⟩
    · obtain ⟨q, hq, h⟩ := List.any_eq_true.1 h
      obtain ⟨k, hk, hq⟩ := List.mem_flatMap.1 hq
      obtain ⟨y, hy, rfl⟩ := List.mem_map.1 hk
      obtain ⟨z, hz, rfl⟩ := (mem_reachI h0).1 hy
      rw [getR_sel h0 hz.mem] at hq
      exact ⟨r, .step hz hr (List.any_eq_true.2 ⟨q, hq, h⟩), rfl⟩
  · rintro ⟨z, hz, e⟩
    have : z = r := sel_inj (checkI_sorted h0) hz.mem hr e
    subst this
    cases hz with
    | root _ h => exact .inl h
    | @step k _ hk _ h =>
      obtain ⟨q, hq, h⟩ := List.any_eq_true.1 h
      refine .inr (List.any_eq_true.2 ⟨q, List.mem_flatMap.2 ⟨k, List.mem_map.2 ⟨k.sel, (mem_reachI h0).2 ⟨k, hk, rfl⟩, getR_sel h0 hk.mem⟩, hq⟩, h⟩)
theorem Rch.more {L : List Rls} {more : List Req} {r : Rls} (h : Rch L needs r) : Rch L (needs ++ more) r := by
  induction h with
  | root hr h => exact .root hr (by unfold anyReaches at *; rw [List.any_append, h]; rfl)
  | step _ hr h ih => exact .step ih hr h
theorem reach_more (h0 : checkI x.rels = 0) {more : List Req} {y : Sel} (hy : y ∈ reachI x needs) : y ∈ reachI x (needs ++ more) := by
  obtain ⟨r, hr, e⟩ := (mem_reachI h0).1 hy
  exact (mem_reachI h0).2 ⟨r, hr.more, e⟩
theorem any_eq_mem (l : List Sel) (y : Sel) : (l.any fun z => decide (y = z)) = decide (y ∈ l) := by
  rw [Bool.eq_iff_iff]; simp
end
end Go.Pm

namespace Go.Pm
open Go.Proofs
theorem c13g (x : Idx) (hl : x.rels.length ≤ 1000000) (hr : ∀ r ∈ x.rels, r.Sm) (needs : List Req) (hq : ∀ q ∈ needs, q.Sm) (hn : needs.length ≤ 1000000) (l : List Sel) (h : reachI x needs = l) : Fn PR 13 [.d x.d, .d (reqsD needs)] [] [.d (selsD l)] [] := by
  subst h; exact c13 x hl hr needs hq hn
end Go.Pm

namespace Go.Pm
theorem rel_forget {E : Env} {g : Gh} {s : St} {a : Act} {w : World} {dst : Option Tmp} {d sz : Nat} {zs : List D} {bx : Option Nat} (hn : s.ob d = none) (hbx : bx ≠ some d)
    (h : Rel E g (s.app ⟨dst, .tl zs (some d), bx.toList, [d], (bx.toList.map fun x => (x, none)) ++ [(d, some (.tail sz))]⟩) a w) : Rel E g (s.app ⟨dst, .d (.list zs), bx.toList, [d], bx.toList.map fun x => (x, none)⟩) a w := by
  have o1 : ∀ y ob, (s.app ⟨dst, .d (.list zs), bx.toList, [d], bx.toList.map fun x => (x, none)⟩).ob y = some ob → (s.app ⟨dst, .tl zs (some d), bx.toList, [d], (bx.toList.map fun x => (x, none)) ++ [(d, some (.tail sz))]⟩).ob y = some ob := by
    intro y ob hy
    rw [ob_app] at hy ⊢
    cases bx with
    | none =>
      simp only [Option.toList, List.map_nil, List.nil_append, updLook, Option.getD] at hy ⊢
      by_cases e : y = d
      · subst e; rw [hn] at hy; cases hy
      · rw [if_neg e]; exact hy
    | some b =>
      simp only [Option.toList, List.map_cons, List.map_nil, List.cons_append, List.nil_append, updLook] at hy ⊢
      by_cases e : y = d
      · subst e
        rw [if_neg (fun h => hbx (by rw [h]))] at hy
        simp only [Option.getD] at hy
        rw [hn] at hy; cases hy
      · rw [if_neg e]; exact hy
  have hm : ∀ b o, (w.cell? ⟨b, o, none⟩).isSome = true → MM E g (s.app ⟨dst, .d (.list zs), bx.toList, [d], bx.toList.map fun x => (x, none)⟩) b o → MM E g (s.app ⟨dst, .tl zs (some d), bx.toList, [d], (bx.toList.map fun x => (x, none)) ++ [(d, some (.tail sz))]⟩) b o := by
    rintro b o _ (h1 | ⟨x, ob, h1, h2⟩)
    · exact .inl h1
    · exact .inr ⟨x, ob, o1 x ob h1, h2⟩
  refine ⟨h.size, h.defers, fun i p hi => ?_, fun x ob hx => ?_, fun x y ob ob' b hx hy => ?_, fun x ob b hx => ?_, h.fr, h.av, h.keep⟩
  · by_cases hd : dst = some i
    · rw [sl_app_eq (e := ⟨dst, .d (.list zs), bx.toList, [d], bx.toList.map fun x => (x, none)⟩) hd] at hi
      injection hi with hi; subst hi
      obtain ⟨v, h1, h2⟩ := h.slots i _ (sl_app_eq (e := ⟨dst, .tl zs (some d), bx.toList, [d], (bx.toList.map fun x => (x, none)) ++ [(d, some (.tail sz))]⟩) hd)
      refine ⟨v, h1, .d ?_⟩
      cases h2 with
      | tail h3 _ => exact h3.mono (Same.refl _ _) hm
    · have hi' : s.sl i = some p := (sl_app_ne hd).symm.trans hi
      obtain ⟨v, h1, h2⟩ := h.slots i p ((sl_app_ne hd).trans hi')
      exact ⟨v, h1, h2.mono (Same.refl _ _) hm rfl rfl⟩
  · exact (h.objs x ob (o1 x ob hx)).move (Same.refl _ _) hm (fun _ _ => ⟨rfl, rfl⟩) ⟨rfl, rfl⟩ fun _ _ => rfl
  · exact h.inj x y ob ob' b (o1 x ob hx) (o1 y ob' hy)
  · exact h.own x ob b (o1 x ob hx)
section
variable {P : Program} {ops : Array Oper} {o : Oper} {s : St}
theorem o_appD {t e : TypeId} {x y : Operand} {ds ys : List D} {bx : Option Nat} {d : Tmp} {rr : Option (Nat × Nat × Option Value)} {u : Option TK} {sz bs : Nat} {zv : Value}
    (ho : o.op = .call { callee := .builtin .append, args := #[x, y], argTypes := #[t, t] }) (hd : o.dst = some d) (hd6 : d < 1000000) (hx : baseOf (s.val x) = some (ds, bx)) (hy : toD (s.val y) = some (.list ys)) (hk : (okOp x && okOp y) = true)
    (ht : tyF P t = (some (.slice e), rr)) (he : tyF P e = (u, some (sz, bs, some zv))) (hzs : zv.cells.size = sz) (hsz : 0 < sz) (hob : tailAt s sz bx = true) (hds : ∀ d ∈ ds, d.cells.length = sz) (hys : ∀ d ∈ ys, d.cells.length = sz)
    (hlim : (ds.length + ys.length) * bs ≤ 140737488355328) (hbs : 0 < bs) {zs : List D} (hz : ds ++ ys = zs) : OpOK P ops o s ⟨o.dst, .d (.list zs), bx.toList, [d], bx.toList.map fun x => (x, none)⟩ := by
  have h := o_app (P := P) (ops := ops) ho hd hd6 hx hy hk ht he hzs hsz hob hds hys hlim hbs hz
  intro s1 ha hf hn hdb E g a w hr K Qx hK
  refine h s1 ha hf hn hdb E g a w hr K Qx fun a' w' g' hr' => hK a' w' g' ?_
  exact rel_forget (hn d (by simp)).ob (fun hb => by
    subst hb
    unfold tailAt at hob
    have h1 := hf d (by simp)
    rw [(hn d (by simp)).ob] at h1
    simp [← h1] at hob) hr'
end
end Go.Pm

namespace Go.Pm
open Go.Proofs

set_option maxRecDepth 10000 in
theorem c82 (l : List Sel) (y : Sel) (hl : l.length < 4611686018427387904) : Fn PR 82 [.d (selsD l), .d y.d] [] [.d (I (ixG (fun z => decide (y = z)) l 0))] [] := by
 refine fn_of_awp Tryz.func82 rfl (N := 19) rfl ?_
 refine xsr ?_
 refine xlz (op_box rfl rfl (by decide) rfl rfl) ?_
 refine las rfl rfl rfl rfl rfl ?_
 refine lendF ?_
 refine awp_seq ?_
 refine xsr ?_
 refine lmv rfl rfl rfl rfl rfl ?_
 refine xlz (o_lenE (n := l.length) rfl rfl rfl ty27 (by simp)) ?_
 refine lmv rfl rfl rfl rfl rfl ?_
 refine lendF ?_
 refine awp_block ?_
 refine awp_loop (fun i => ⟨19, [(8, .d (I (i : Nat))), (0, .d (selsD l)), (3, .ptr 3 0), (7, .d (I l.length))], [(3, .cells [.d (.str y.path), .d (I y.ver.maj), .d (I y.ver.min), .d (I y.ver.pat)])]⟩) (fun i => l.length - i) (fun i => i ≤ l.length ∧ ixG (fun z => decide (y = z)) (l.drop i) i = ixG (fun z => decide (y = z)) l 0) 0 ?_ ?_ ?_
 ·
  exact ent_k [] rfl rfl ((by repeat (first | exact .nil | refine xkc ?_))) (obs_cons rfl (o_eq rfl) obs_nil) rfl
 ·
  exact ⟨Nat.zero_le _, rfl⟩
 ·
  rintro i ⟨hi, hI⟩
  refine xsr ?_
  refine xlz (op_binI rfl rfl rfl rfl rfl (.inl rfl) rfl) ?_
  refine lendF ?_
  refine awp_seq ?_
  refine awp_cond rfl rfl (fun hc1 => ?_) (fun hc1 => ?_)
  ·
   obtain ⟨z, hn⟩ := rng_lt (l := l) (by simpa using hc1)
   have hlt := rng_le hn
   refine awp_skip ?_
   refine awp_seq ?_
   refine awp_block ?_
   refine xsr ?_
   refine lmv rfl rfl rfl rfl rfl ?_
   refine las rfl rfl rfl rfl rfl ?_
   refine lendF ?_
   refine xsr ?_
   refine xlz (o_ldA rfl rfl rfl rfl ty54 rfl (xlb rfl) rfl) ?_
   iterate 2 refine lmv rfl rfl rfl rfl rfl ?_
   refine xlz (o_ixN (i) rfl rfl rfl rfl ty27 (by first | rfl | omega | (simp; done) | (simp; omega)) hn ty54) ?_
   refine xlz (op_loadCA rfl rfl rfl ty54 rfl (xlb rfl)) ?_
   refine xlz (op_eqlA rfl (.inl rfl) rfl rfl rfl rfl ty54 es54 rfl rfl eg54) ?_
   refine lend (fun _ => by kernel_rfl) ?_
   refine awp_cond rfl rfl (fun hc2 => ?_) (fun hc2 => ?_)
   ·
    have hz : decide (y = z) = true := by (have h : eqDs [.str y.path, I y.ver.maj, I y.ver.min, I y.ver.pat] [.str z.path, I z.ver.maj, I z.ver.min, I z.ver.pat] = true := hc2); rw [eqDs_sel] at h; exact h
    refine xsr ?_
    refine lmv rfl rfl rfl rfl rfl ?_
    refine las rfl rfl rfl rfl rfl ?_
    refine lendF ?_
    refine awp_ret ?_
    refine ⟨[_], ⟨rfl, trivial⟩, ?_⟩
    exact ent_d1 rfl (by rw [← hI, drop_cons hn, ixG_yes (f := fun z => decide (y = z)) hz])
   ·
    have hz : decide (y = z) = false := by (have h : eqDs [.str y.path, I y.ver.maj, I y.ver.min, I y.ver.pat] [.str z.path, I z.ver.maj, I z.ver.min, I z.ver.pat] = false := hc2); rw [eqDs_sel] at h; exact h
    refine awp_skip ?_
    refine awp_region mixed ?_
    refine xlz (o_add rfl rfl rfl rfl (by first | omega | (simp; omega) | (simp at *; omega))) ?_
    refine lmv rfl rfl rfl rfl rfl ?_
    refine lendF ?_
    refine ⟨i + 1, ?_, ?_, ?_⟩
    ·
     exact ⟨rng_le hn, by rw [← hI, drop_cons hn, ixG_no (f := fun z => decide (y = z)) hz]⟩
    ·
     exact ent_k [] rfl rfl ((by repeat (first | exact .nil | refine xkc ?_))) (obs_cons rfl (o_eq rfl) obs_nil) rfl
    ·
     omega
  ·
   obtain rfl := rng_ge (l := l) (by simpa using hc1) hi
   refine awp_exit ?_
   refine xsr ?_
   refine las rfl rfl rfl rfl rfl ?_
   refine lendF ?_
   refine awp_ret ?_
   refine ⟨[_], ⟨rfl, trivial⟩, ?_⟩
   exact ent_d1 rfl (by rw [← hI]; simp [ixG])

set_option maxRecDepth 10000 in
theorem c29 (l : List Sel) (y : Sel) (hl : l.length < 4611686018427387904) : Fn PR 29 [.d (selsD l), .d y.d] [] [.d (.bool (decide (y ∈ l)))] [] := by
 refine fn_of_awp Tryz.func29 rfl (N := 9) rfl ?_
 refine xsr ?_
 refine xlz (op_box rfl rfl (by decide) rfl rfl) ?_
 refine las rfl rfl rfl rfl rfl ?_
 refine lendF ?_
 refine xsr ?_
 refine lmv rfl rfl rfl rfl rfl ?_
 refine xlz (o_ldA rfl rfl rfl rfl ty54 rfl (xlb rfl) rfl) ?_
 refine xlz (o_call (c82 l y hl) rfl rfl rfl ca82 rfl rfl) ?_
 refine xlz (op_binI rfl rfl rfl rfl rfl (.inl rfl) rfl) ?_
 refine las rfl rfl rfl rfl rfl ?_
 refine lendF ?_
 refine awp_ret ?_
 refine ⟨[_], ⟨rfl, trivial⟩, ?_⟩
 exact ent_d1 rfl (by rw [ixG_any, any_eq_mem])

set_option maxRecDepth 10000 in
theorem c27 (q : Req) (r : Rls) (p : Int) (hq : q.set.length < 4611686018427387904) : Fn PR 27 [.d q.d, .ptr 1000000 0, .ptr 1000001 0] [(1000000, .cells [.d (.str r.path), .d (I r.ver.maj), .d (I r.ver.min), .d (I r.ver.pat), .d (reqsD r.reqs), .d (.str r.arch), .d (.str r.iface), .d (.str r.cert), .d (.bool r.yank)]), (1000001, .cells [.d (I p)])] [.d (.bool ((fun q : Req => q.path == r.path && setHas q.set p) q))] [(1000000, .cells [.d (.str r.path), .d (I r.ver.maj), .d (I r.ver.min), .d (I r.ver.pat), .d (reqsD r.reqs), .d (.str r.arch), .d (.str r.iface), .d (.str r.cert), .d (.bool r.yank)]), (1000001, .cells [.d (I p)])] := by
 refine fn_of_awp Tryz.func27 rfl (N := 16) rfl ?_
 refine xsr ?_
 refine xlz (op_box rfl rfl (by decide) rfl rfl) ?_
 refine las rfl rfl rfl rfl rfl ?_
 refine lendF ?_
 refine xsr ?_
 refine xlz (op_fieldP rfl rfl rfl fl51_0) ?_
 refine xlz (op_load1 rfl rfl rfl rfl ty9 rfl rfl) ?_
 refine xlz (op_fieldP rfl rfl rfl fl40_0) ?_
 refine xlz (op_load1 rfl rfl rfl rfl ty9 rfl rfl) ?_
 refine xlz (op_binS rfl rfl rfl rfl rfl (fun h => by first | cases h | (simp; omega)) rfl) ?_
 refine lmv rfl rfl rfl rfl rfl ?_
 refine lsplit rfl (fun hg1 => ?_) (fun hg1 => ?_)
 ·
  refine lg (op_fieldP rfl rfl rfl fl51_1) rfl hg1 rfl rfl ?_
  refine lg (op_load1 rfl rfl rfl rfl ty49 rfl rfl) rfl hg1 rfl rfl ?_
  refine lg (op_load1 rfl rfl rfl rfl ty3 rfl rfl) rfl hg1 rfl rfl ?_
  refine lg (o_call (c28 q.set p hq) rfl rfl rfl ca28 rfl rfl) rfl hg1 rfl rfl ?_
  refine xlz (o_pT rfl rfl (g11 hg1) rfl rfl) ?_
  refine las rfl rfl rfl rfl rfl ?_
  refine lendF ?_
  refine awp_ret ?_
  refine ⟨[_], ⟨rfl, trivial⟩, ?_⟩
  exact ent_k [] rfl rfl (.cons rfl (k_b (by simp_all)) .nil) (obs_cons rfl (o_eq rfl) (obs_cons rfl (o_eq rfl) obs_nil)) rfl
 ·
  iterate 4 refine lskip rfl hg1 rfl ?_
  refine xlz (o_pF rfl rfl (g10 hg1) rfl rfl) ?_
  refine las rfl rfl rfl rfl rfl ?_
  refine lendF ?_
  refine awp_ret ?_
  refine ⟨[_], ⟨rfl, trivial⟩, ?_⟩
  exact ent_k [] rfl rfl (.cons rfl (k_b (by simp_all)) .nil) (obs_cons rfl (o_eq rfl) (obs_cons rfl (o_eq rfl) obs_nil)) rfl

set_option maxRecDepth 10000 in
theorem c79c (l : List Req) (r : Rls) (p : Int) (hl : l.length < 4611686018427387904) (hq : ∀ q ∈ l, q.set.length < 4611686018427387904) : Fn PR 79 [.d (reqsD l), .fn (.func 27) [] [.ptr 1000000 0, .ptr 1000001 0]] [(1000000, .cells [.d (.str r.path), .d (I r.ver.maj), .d (I r.ver.min), .d (I r.ver.pat), .d (reqsD r.reqs), .d (.str r.arch), .d (.str r.iface), .d (.str r.cert), .d (.bool r.yank)]), (1000001, .cells [.d (I p)])] [.d (I (ixG (fun q : Req => q.path == r.path && setHas q.set p) l 0))] [(1000000, .cells [.d (.str r.path), .d (I r.ver.maj), .d (I r.ver.min), .d (I r.ver.pat), .d (reqsD r.reqs), .d (.str r.arch), .d (.str r.iface), .d (.str r.cert), .d (.bool r.yank)]), (1000001, .cells [.d (I p)])] := by
 refine fn_of_awp Tryz.func79 rfl (N := 19) rfl ?_
 refine xsr ?_
 refine las rfl rfl rfl rfl rfl ?_
 refine lendF ?_
 refine awp_seq ?_
 refine xsr ?_
 refine lmv rfl rfl rfl rfl rfl ?_
 refine xlz (o_lenE (n := l.length) rfl rfl rfl ty26 (by simp)) ?_
 refine lmv rfl rfl rfl rfl rfl ?_
 refine lendF ?_
 refine awp_block ?_
 refine awp_loop (fun i => ⟨19, [(8, .d (I (i : Nat))), (0, .d (reqsD l)), (1, .fn (.func 27) [] [.ptr 1000000 0, .ptr 1000001 0]), (7, .d (I l.length))], [(1000001, .cells [.d (I p)]), (1000000, .cells [.d (.str r.path), .d (I r.ver.maj), .d (I r.ver.min), .d (I r.ver.pat), .d (reqsD r.reqs), .d (.str r.arch), .d (.str r.iface), .d (.str r.cert), .d (.bool r.yank)])]⟩) (fun i => l.length - i) (fun i => i ≤ l.length ∧ ixG (fun q : Req => q.path == r.path && setHas q.set p) (l.drop i) i = ixG (fun q : Req => q.path == r.path && setHas q.set p) l 0) 0 ?_ ?_ ?_
 ·
  exact ent_k [] rfl rfl ((by repeat (first | exact .nil | refine xkc ?_))) (obs_cons rfl (o_eq rfl) (obs_cons rfl (o_eq rfl) obs_nil)) rfl
 ·
  exact ⟨Nat.zero_le _, rfl⟩
 ·
  rintro i ⟨hi, hI⟩
  refine xsr ?_
  refine xlz (op_binI rfl rfl rfl rfl rfl (.inl rfl) rfl) ?_
  refine lendF ?_
  refine awp_seq ?_
  refine awp_cond rfl rfl (fun hc1 => ?_) (fun hc1 => ?_)
  ·
   obtain ⟨x, hn⟩ := rng_lt (l := l) (by simpa using hc1)
   have hlt := rng_le hn
   have hmem := List.mem_of_getElem? hn
   refine awp_skip ?_
   refine awp_seq ?_
   refine awp_block ?_
   refine xsr ?_
   refine lmv rfl rfl rfl rfl rfl ?_
   refine las rfl rfl rfl rfl rfl ?_
   refine lendF ?_
   refine xsr ?_
   iterate 3 refine lmv rfl rfl rfl rfl rfl ?_
   refine xlz (o_ixN (i) rfl rfl rfl rfl ty26 (by first | rfl | omega | (simp; done) | (simp; omega)) hn ty51) ?_
   refine xlz (op_loadCA rfl rfl rfl ty51 rfl (xlb rfl)) ?_
   refine xlz (o_callR [1000000, 1000001] (c27 x r p (hq x hmem)) rfl rfl rfl ca27 rfl (by decide) (handOK_cons (by decide) (by decide) rfl rfl (handOK_cons (by decide) (by decide) rfl rfl handOK_nil)) rfl) ?_
   refine lendF ?_
   refine awp_cond rfl rfl (fun hc2 => ?_) (fun hc2 => ?_)
   ·
    refine xsr ?_
    refine lmv rfl rfl rfl rfl rfl ?_
    refine las rfl rfl rfl rfl rfl ?_
    refine lendF ?_
    refine awp_ret ?_
    refine ⟨[_], ⟨rfl, trivial⟩, ?_⟩
    exact ent_k [] rfl rfl (.cons rfl (k_i (by rw [← hI, drop_cons hn, ixG_yes (f := (fun q : Req => q.path == r.path && setHas q.set p)) hc2])) .nil) (obs_cons rfl (o_eq rfl) (obs_cons rfl (o_eq rfl) obs_nil)) rfl
   ·
    refine awp_skip ?_
    refine awp_region mixed ?_
    refine xlz (o_add rfl rfl rfl rfl (by first | omega | (simp; omega) | (simp at *; omega))) ?_
    refine lmv rfl rfl rfl rfl rfl ?_
    refine lendF ?_
    refine ⟨i + 1, ?_, ?_, ?_⟩
    ·
     exact ⟨rng_le hn, by rw [← hI, drop_cons hn, ixG_no (f := (fun q : Req => q.path == r.path && setHas q.set p)) hc2]⟩
    ·
     exact ent_k [] rfl rfl ((by repeat (first | exact .nil | refine xkc ?_))) (obs_cons rfl (o_eq rfl) (obs_cons rfl (o_eq rfl) obs_nil)) rfl
    ·
     omega
  ·
   obtain rfl := rng_ge (l := l) (by simpa using hc1) hi
   refine awp_exit ?_
   refine xsr ?_
   refine las rfl rfl rfl rfl rfl ?_
   refine lendF ?_
   refine awp_ret ?_
   refine ⟨[_], ⟨rfl, trivial⟩, ?_⟩
   exact ent_k [] rfl rfl (.cons rfl (k_i (by rw [← hI]; simp [ixG])) .nil) (obs_cons rfl (o_eq rfl) (obs_cons rfl (o_eq rfl) obs_nil)) rfl

set_option maxRecDepth 10000 in
theorem c26c (l : List Req) (r : Rls) (p : Int) (hl : l.length < 4611686018427387904) (hq : ∀ q ∈ l, q.set.length < 4611686018427387904) : Fn PR 26 [.d (reqsD l), .fn (.func 27) [] [.ptr 1000000 0, .ptr 1000001 0]] [(1000000, .cells [.d (.str r.path), .d (I r.ver.maj), .d (I r.ver.min), .d (I r.ver.pat), .d (reqsD r.reqs), .d (.str r.arch), .d (.str r.iface), .d (.str r.cert), .d (.bool r.yank)]), (1000001, .cells [.d (I p)])] [.d (.bool (l.any (fun q : Req => q.path == r.path && setHas q.set p)))] [(1000000, .cells [.d (.str r.path), .d (I r.ver.maj), .d (I r.ver.min), .d (I r.ver.pat), .d (reqsD r.reqs), .d (.str r.arch), .d (.str r.iface), .d (.str r.cert), .d (.bool r.yank)]), (1000001, .cells [.d (I p)])] := by
 refine fn_of_awp Tryz.func26 rfl (N := 9) rfl ?_
 refine xsr ?_
 refine las rfl rfl rfl rfl rfl ?_
 refine lendF ?_
 refine xsr ?_
 iterate 2 refine lmv rfl rfl rfl rfl rfl ?_
 refine xlz (o_callR [1000000, 1000001] (c79c l r p hl hq) rfl rfl rfl ca79 rfl (by decide) (handOK_cons (by decide) (by decide) rfl rfl (handOK_cons (by decide) (by decide) rfl rfl handOK_nil)) rfl) ?_
 refine xlz (op_binI rfl rfl rfl rfl rfl (.inl rfl) rfl) ?_
 refine las rfl rfl rfl rfl rfl ?_
 refine lendF ?_
 refine awp_ret ?_
 refine ⟨[_], ⟨rfl, trivial⟩, ?_⟩
 exact ent_k [] rfl rfl (.cons rfl (k_b (by rw [← ixG_any])) .nil) (obs_cons rfl (o_eq rfl) (obs_cons rfl (o_eq rfl) obs_nil)) rfl

end Go.Pm

namespace Go.Pm
open Go.Proofs

set_option maxRecDepth 10000 in
set_option maxHeartbeats 8000000 in
theorem c6 (x : Idx) (hl : x.rels.length < 4611686018427387904) (hrl : ∀ r ∈ x.rels, r.reqs.length < 4611686018427387904) (needs : List Req) (hnl : needs.length * 40 ≤ 140737488351232) (q : Req) : Fn PR 6 [.d x.d, .d (reqsD needs), .d q.d] [] [.d (.bool true)] [] := by
 refine fn_of_awp Tryz.func6 rfl (N := 112) rfl ?_
 obtain ⟨l, hl2⟩ : ∃ l, reachI x needs = l := ⟨_, rfl⟩
 obtain ⟨b, hb2⟩ : ∃ b, reachI x (needs ++ [q]) = b := ⟨_, rfl⟩
 refine xsr ?_
 refine xlz (op_box rfl rfl (by decide) rfl rfl) ?_
 refine xlz (op_box rfl rfl (by decide) rfl rfl) ?_
 refine las rfl rfl rfl rfl rfl ?_
 refine lendF ?_
 refine awp_seq ?_
 refine xsr ?_
 refine xlz (o_call (c9) rfl rfl rfl ca9 rfl rfl) ?_
 refine xlz (op_not rfl rfl rfl) ?_
 refine lendF ?_
 refine awp_cond rfl rfl (fun hc1 => ?_) (fun hc1 => ?_)
 ·
  exact absurd hc1 (by decide)
 ·
  refine awp_skip ?_
  refine awp_seq ?_
  refine xsr ?_
  refine xlz (op_fieldP rfl rfl rfl fl25_0) ?_
  refine xlz (op_load1 rfl rfl rfl rfl ty22 rfl rfl) ?_
  refine xlz (o_call (c10 x.rels 30 hl hrl) rfl rfl rfl ca10 rfl rfl) ?_
  refine xlz (op_not rfl rfl rfl) ?_
  refine lmv rfl rfl rfl rfl rfl ?_
  refine lsplit rfl (fun hg2 => ?_) (fun hg2 => ?_)
  ·
   have hf : fewRlss x.rels 30 = true := by (have h := (g01 hg2)); simpa using h
   obtain ⟨hr, h30⟩ := fewRlss_ok hf
   refine lg (o_ldA rfl rfl rfl rfl ty51 rfl (xlb rfl) rfl) rfl hg2 rfl rfl ?_
   refine lg (o_bs rfl rfl rfl rfl rfl ty26 ty51 rfl rfl) rfl hg2 rfl rfl ?_
   refine gmv hg2 rfl rfl rfl rfl rfl ?_
   refine lg (o_appD rfl rfl (by decide) rfl rfl rfl ty26 ty51 rfl (by decide) rfl (by intro d hd; simp at hd; subst hd; rfl) (by first | (simp [D.cells]; done) | (intro d hd; obtain ⟨x, _, rfl⟩ := List.mem_map.1 hd; rfl)) (by simp; omega) (by decide) (show _ = (q :: needs).map Req.d from by simp)) rfl hg2 rfl rfl ?_
   refine lg (o_call (c11 (q :: needs) (by simp; omega)) rfl rfl rfl ca11 rfl rfl) rfl hg2 rfl rfl ?_
   refine lg (op_not rfl rfl rfl) rfl hg2 rfl rfl ?_
   refine xlz (o_pF rfl rfl (g01 hg2) rfl rfl) ?_
   refine lendF ?_
   refine awp_cond rfl rfl (fun hc3 => ?_) (fun hc3 => ?_)
   ·
    refine xsr ?_
    refine las rfl rfl rfl rfl rfl ?_
    refine lendF ?_
    refine awp_ret ?_
    refine ⟨[_], ⟨rfl, trivial⟩, ?_⟩
    first | exact ent_d1 rfl rfl | exact ent_d1 rfl (by rw [hl0]; rfl)
   ·
    have hfn : fewReqs (q :: needs) = true := by (have h := hc3); simpa using h
    obtain ⟨hqa, h20⟩ := fewReqs_ok hfn
    have hqn : ∀ z ∈ needs, z.Sm := fun z hz => hqa z (by simp [hz])
    have hqq : q.Sm := hqa q (by simp)
    have h20 : needs.length ≤ 20 := by simp at h20; omega
    have hqb : ∀ z ∈ needs ++ [q], z.Sm := fun z hz => by (rcases List.mem_append.1 hz with hz | hz); (exact hqn z hz); (simp at hz; subst hz; exact hqq)
    have hll : l.length ≤ 30 := by rw [← hl2]; have := reachI_len x needs; omega
    have hbl : b.length ≤ 30 := by rw [← hb2]; have := reachI_len x (needs ++ [q]); omega
    refine awp_skip ?_
    refine xsr ?_
    refine xlz (o_ldA rfl rfl rfl rfl ty25 rfl (xlb rfl) rfl) ?_
    refine lmv rfl rfl rfl rfl rfl ?_
    refine xlz (o_call (c13g x (by omega) hr needs hqn (by omega) l hl2) rfl rfl rfl ca13 rfl rfl) ?_
    refine las rfl rfl rfl rfl rfl ?_
    refine lendF ?_
    refine awp_seq ?_
    refine xsr ?_
    refine xlz (o_ldA rfl rfl rfl rfl ty25 rfl (xlb rfl) rfl) ?_
    refine xlz (o_call (c22 x hl hr) rfl rfl rfl ca22 rfl rfl) ?_
    refine xlz (op_binI rfl rfl rfl rfl rfl (.inl rfl) rfl) ?_
    refine lendF ?_
    refine awp_cond rfl rfl (fun hc4 => ?_) (fun hc4 => ?_)
    ·
     have h0 : ¬ checkI x.rels = 0 := by simpa using hc4
     have hl0 : l = [] := by rw [← hl2]; exact reachI_no h0
     refine xsr ?_
     refine lmv rfl rfl rfl rfl rfl ?_
     refine xlz (o_lenE (n := l.length) rfl rfl rfl ty27 (by simp)) ?_
     refine xlz (op_binI rfl rfl rfl rfl rfl (.inl rfl) rfl) ?_
     refine las rfl rfl rfl rfl rfl ?_
     refine lendF ?_
     refine awp_ret ?_
     refine ⟨[_], ⟨rfl, trivial⟩, ?_⟩
     first | exact ent_d1 rfl rfl | exact ent_d1 rfl (by rw [hl0]; rfl)
    ·
     have h0 : checkI x.rels = 0 := by simpa using hc4
     have hsm := allR_sm hr hqn l (l.map (getR x)).length
     have hal := fun j => allR_len hr needs l j
     have hml : (l.map (getR x)).length = l.length := List.length_map _
     have hkb := hal (l.map (getR x)).length
     refine awp_skip ?_
     refine xsr ?_
     refine lmv rfl rfl rfl rfl rfl ?_
     refine xlz (o_callX (p := .tl (needs.map Req.d) (some 1045)) (news := [1045]) (upd := [(1045, some (.tail 2))]) [] 45 (c23t needs (by omega)) rfl rfl rfl ca23 rfl (by decide) handOK_nil rfl rfl rfl rfl (by kernel_rfl) (by kernel_rfl) (by kernel_rfl)) ?_
     refine las rfl rfl rfl rfl rfl ?_
     refine lendF ?_
     refine awp_seq ?_
     refine xsr ?_
     refine lmv rfl rfl rfl rfl rfl ?_
     refine xlz (o_lenE (n := l.length) rfl rfl rfl ty27 (by simp)) ?_
     refine lmv rfl rfl rfl rfl rfl ?_
     refine lendF ?_
     refine awp_block ?_
     refine awp_loop (fun i => ⟨112, [(8, .tl ((allR x needs l i).map Req.d) (some 500008)), (48, .d (I (i : Nat))), (1, .d (reqsD needs)), (3, .ptr 3 0), (5, .ptr 5 0), (7, .d (selsD l)), (46, .d (selsD l)), (47, .d (I l.length))], [(500008, .tail 2), (5, .cells [.d (.str q.path), .d (setD q.set)]), (3, .cells [.d (relsD x.rels), .d (.list x.ifs)])]⟩) (fun i => l.length - i) (fun i => i ≤ l.length) 0 ?_ ?_ ?_
     ·
      exact ent_k [(500008, 1045)] rfl rfl (.cons rfl (k_tl rfl (by simp [allR])) <| (by repeat (first | exact .nil | refine xkc ?_))) (obs_cons rfl (o_eq rfl) (obs_cons rfl (o_eq rfl) (obs_cons rfl (o_eq rfl) obs_nil))) rfl
     ·
      exact Nat.zero_le _
     ·
      rintro i hi
      refine xsr ?_
      refine xlz (op_binI rfl rfl rfl rfl rfl (.inl rfl) rfl) ?_
      refine lendF ?_
      refine awp_seq ?_
      refine awp_cond rfl rfl (fun hc5 => ?_) (fun hc5 => ?_)
      ·
       obtain ⟨y, hn⟩ := rng_lt (l := l) (by simpa using hc5)
       have hil := rng_le hn
       have hz2 : (l.map (getR x))[i]? = some (getR x y) := by rw [List.getElem?_map, hn]; rfl
       have hyl : (getR x y).reqs.length ≤ 16 := (getR_sm hr y).2
       have hyl2 : (getR x ⟨y.path, y.ver⟩).reqs.length ≤ 16 := hyl
       have hyf : (findR (okR x) ⟨y.path, y.ver⟩).isSome = true := reach_find h0 (by rw [hl2]; exact List.mem_of_getElem? hn)
       refine awp_skip ?_
       refine awp_seq ?_
       refine awp_block ?_
       refine xsr ?_
       refine xlz (o_ixN (i) rfl rfl rfl rfl ty27 (by first | rfl | omega | (simp; done) | (simp; omega)) hn ty54) ?_
       refine xlz (op_loadCA rfl rfl rfl ty54 rfl (xlb rfl)) ?_
       refine xlz (op_alloc rfl rfl (by decide) ty54 zk54 rfl) ?_
       refine xlz (op_store rfl rfl rfl rfl rfl rfl ty54 rfl (xlb rfl)) ?_
       refine lendF ?_
       refine xsr ?_
       refine xlz (o_ldA rfl rfl rfl rfl ty25 rfl (xlb rfl) rfl) ?_
       refine xlz (op_fieldP rfl rfl rfl fl54_0) ?_
       refine xlz (op_load1 rfl rfl rfl rfl ty9 rfl rfl) ?_
       refine xlz (op_fieldP rfl rfl rfl fl54_1) ?_
       refine xlz (o_ldA rfl rfl rfl rfl ty38 rfl (xlb rfl) rfl) ?_
       refine xlz (o_call (c24 x hl hr y.path y.ver) rfl rfl rfl ca24 rfl rfl) ?_
       refine lmv rfl rfl rfl rfl rfl ?_
       refine xlz (op_extract rfl rfl rfl rfl) ?_
       refine xlz (op_extract rfl rfl rfl rfl) ?_
       refine xlz (op_alloc rfl rfl (by decide) ty40 zk40 rfl) ?_
       refine xlz (op_store rfl rfl rfl rfl rfl rfl ty40 rfl (xlb rfl)) ?_
       refine las rfl rfl rfl rfl rfl ?_
       refine lendF ?_
       refine awp_seq ?_
       refine xsr ?_
       refine lmv rfl rfl rfl rfl rfl ?_
       refine xlz (op_not rfl rfl rfl) ?_
       refine lendF ?_
       refine awp_cond rfl rfl (fun hc6 => ?_) (fun hc6 => ?_)
       ·
        exact absurd hc6 (by rw [hyf]; decide)
       ·
        refine awp_skip ?_
        refine awp_region mixed ?_
        refine lmv rfl rfl rfl rfl rfl ?_
        refine xlz (op_fieldP rfl rfl rfl fl40_2) ?_
        refine xlz (op_load1 rfl rfl rfl rfl ty26 rfl rfl) ?_
        refine xlz (o_app rfl rfl (by decide) rfl rfl rfl ty26 ty51 rfl (by decide) rfl (by intro d hd; obtain ⟨x, _, rfl⟩ := List.mem_map.1 hd; rfl) (by first | (simp [D.cells]; done) | (intro d hd; obtain ⟨x, _, rfl⟩ := List.mem_map.1 hd; rfl)) (by have := hal i; simp; omega) (by decide) (show _ = (allR x needs l (i + 1)).map Req.d from by rw [allR_succ hz2]; simp)) ?_
        refine las rfl rfl rfl rfl rfl ?_
        refine lendF ?_
        refine awp_region mixed ?_
        refine xlz (o_add rfl rfl rfl rfl (by first | omega | (simp; omega) | (simp at *; omega))) ?_
        refine lmv rfl rfl rfl rfl rfl ?_
        refine lendF ?_
        refine ⟨i + 1, ?_, ?_, ?_⟩
        ·
         exact rng_le hn
        ·
         exact ent_k [(500008, 66)] rfl rfl ((by repeat (first | exact .nil | refine xkc ?_))) (obs_cons rfl (o_eq rfl) (obs_cons rfl (o_eq rfl) (obs_cons rfl (o_eq rfl) obs_nil))) rfl
        ·
         omega
      ·
       obtain rfl := rng_ge (l := l) (by simpa using hc5) hi
       rw [← hml]
       refine awp_exit ?_
       refine awp_seq ?_
       refine xsr ?_
       refine xlz (op_fieldP rfl rfl rfl fl25_0) ?_
       refine xlz (op_load1 rfl rfl rfl rfl ty22 rfl rfl) ?_
       refine xlz (o_lenE (n := x.rels.length) rfl rfl rfl ty22 (by simp)) ?_
       refine lmv rfl rfl rfl rfl rfl ?_
       refine lendF ?_
       refine awp_block ?_
       refine awp_loop (fun j => ⟨112, [(8, .tl ((allR x needs l (l.map (getR x)).length).map Req.d) (some 500008)), (71, .d (I (j : Nat))), (1, .d (reqsD needs)), (3, .ptr 3 0), (5, .ptr 5 0), (7, .d (selsD l)), (69, .d (relsD x.rels)), (70, .d (I x.rels.length))], [(500008, .tail 2), (5, .cells [.d (.str q.path), .d (setD q.set)]), (3, .cells [.d (relsD x.rels), .d (.list x.ifs)])]⟩) (fun j => x.rels.length - j) (fun j => j ≤ x.rels.length) 0 ?_ ?_ ?_
       ·
        exact ent_k [] rfl rfl ((by repeat (first | exact .nil | refine xkc ?_))) (obs_cons rfl (o_eq rfl) (obs_cons rfl (o_eq rfl) (obs_cons rfl (o_eq rfl) obs_nil))) rfl
       ·
        exact Nat.zero_le _
       ·
        rintro j hj
        refine xsr ?_
        refine xlz (op_binI rfl rfl rfl rfl rfl (.inl rfl) rfl) ?_
        refine lendF ?_
        refine awp_seq ?_
        refine awp_cond rfl rfl (fun hc7 => ?_) (fun hc7 => ?_)
        ·
         obtain ⟨z, hm⟩ := rng_lt (l := x.rels) (by simpa using hc7)
         have hjl := rng_le hm
         have hcl : ((allR x needs l (l.map (getR x)).length).any fun q => q.path == z.path && setHas q.set (placeOf z.ver).1) = decide (z.sel ∈ l) := by rw [← hl2]; exact reach_closed h0 (List.mem_of_getElem? hm)
         refine awp_skip ?_
         refine awp_seq ?_
         refine awp_block ?_
         refine xsr ?_
         refine xlz (o_ixN (j) rfl rfl rfl rfl ty22 (by first | rfl | omega | (simp; done) | (simp; omega)) hm ty40) ?_
         refine xlz (op_loadCA rfl rfl rfl ty40 rfl (xlb rfl)) ?_
         refine xlz (op_alloc rfl rfl (by decide) ty40 zk40 rfl) ?_
         refine xlz (op_store rfl rfl rfl rfl rfl rfl ty40 rfl (xlb rfl)) ?_
         refine lendF ?_
         refine xsr ?_
         refine xlz (op_fieldP rfl rfl rfl fl40_1) ?_
         refine xlz (o_ldA rfl rfl rfl rfl ty38 rfl (xlb rfl) rfl) ?_
         refine xlz (o_call (c25 z.ver) rfl rfl rfl ca25 rfl rfl) ?_
         refine lmv rfl rfl rfl rfl rfl ?_
         refine xlz (op_extract rfl rfl rfl rfl) ?_
         refine xlz (op_extract rfl rfl rfl rfl) ?_
         refine xlz (op_alloc rfl rfl (by decide) ty3 zk3 rfl) ?_
         refine xlz (op_store rfl rfl rfl rfl rfl rfl ty3 rfl (xlb rfl)) ?_
         refine las rfl rfl rfl rfl rfl ?_
         refine lendF ?_
         refine xsr ?_
         refine xlz (o_mvD rfl rfl rfl rfl) ?_
         refine xlz (op_fn rfl rfl rfl rfl rfl) ?_
         refine xlz (o_callR [14, 15] (c26c (allR x needs l (l.map (getR x)).length) z (placeOf z.ver).1 (by omega) (fun k hk => by have := (hsm k hk).set; omega)) rfl rfl rfl ca26 rfl (by decide) (handOK_cons (by decide) (by decide) rfl rfl (handOK_cons (by decide) (by decide) rfl rfl handOK_nil)) rfl) ?_
         refine las rfl rfl rfl rfl rfl ?_
         refine lendF ?_
         refine xsr ?_
         iterate 2 refine lmv rfl rfl rfl rfl rfl ?_
         refine xlz (op_fieldP rfl rfl rfl fl40_0) ?_
         refine xlz (op_load1 rfl rfl rfl rfl ty9 rfl rfl) ?_
         refine xlz (op_fieldP rfl rfl rfl fl40_1) ?_
         refine xlz (o_ldA rfl rfl rfl rfl ty38 rfl (xlb rfl) rfl) ?_
         refine xlz (o_bld rfl rfl rfl bl54 ty54 zk54 rfl rfl rfl) ?_
         refine xlz (o_call (c29 l z.sel (by omega)) rfl rfl rfl ca29 rfl rfl) ?_
         refine xlz (op_eqlB rfl (.inr rfl) rfl rfl rfl rfl ty4) ?_
         refine lendF ?_
         refine awp_cond rfl rfl (fun hc8 => ?_) (fun hc8 => ?_)
         ·
          exact absurd hc8 (by rw [hcl]; simp)
         ·
          refine awp_skip ?_
          refine awp_region mixed ?_
          refine xlz (o_add rfl rfl rfl rfl (by first | omega | (simp; omega) | (simp at *; omega))) ?_
          refine lmv rfl rfl rfl rfl rfl ?_
          refine lendF ?_
          refine ⟨j + 1, ?_, ?_, ?_⟩
          ·
           exact rng_le hm
          ·
           exact ent_k [] rfl rfl ((by repeat (first | exact .nil | refine xkc ?_))) (obs_cons rfl (o_eq rfl) (obs_cons rfl (o_eq rfl) (obs_cons rfl (o_eq rfl) obs_nil))) rfl
          ·
           omega
        ·
         obtain rfl := rng_ge (l := x.rels) (by simpa using hc7) hj
         refine awp_exit ?_
         refine xsr ?_
         refine xlz (o_ldA rfl rfl rfl rfl ty25 rfl (xlb rfl) rfl) ?_
         refine lmv rfl rfl rfl rfl rfl ?_
         refine xlz (o_callX (p := .tl (needs.map Req.d) (some 1096)) (news := [1096]) (upd := [(1096, some (.tail 2))]) [] 96 (c23t needs (by omega)) rfl rfl rfl ca23 rfl (by decide) handOK_nil rfl rfl rfl rfl (by kernel_rfl) (by kernel_rfl) (by kernel_rfl)) ?_
         refine xlz (o_ldA rfl rfl rfl rfl ty51 rfl (xlb rfl) rfl) ?_
         refine xlz (o_bs rfl rfl rfl rfl rfl ty26 ty51 rfl rfl) ?_
         refine xlz (o_appD rfl rfl (by decide) rfl rfl rfl ty26 ty51 rfl (by decide) rfl (by intro d hd; obtain ⟨x, _, rfl⟩ := List.mem_map.1 hd; rfl) (by first | (simp [D.cells]; done) | (intro d hd; obtain ⟨x, _, rfl⟩ := List.mem_map.1 hd; rfl)) (by simp; omega) (by decide) (show _ = (needs ++ [q]).map Req.d from by simp)) ?_
         refine xlz (o_call (c13g x (by omega) hr (needs ++ [q]) hqb (by simp; omega) b hb2) rfl rfl rfl ca13 rfl rfl) ?_
         refine las rfl rfl rfl rfl rfl ?_
         refine lend (fun _ => by kernel_rfl) ?_
         refine awp_seq ?_
         refine xsr ?_
         refine lmv rfl rfl rfl rfl rfl ?_
         refine xlz (o_lenE (n := l.length) rfl rfl rfl ty27 (by simp)) ?_
         refine lmv rfl rfl rfl rfl rfl ?_
         refine lendF ?_
         refine awp_block ?_
         refine awp_loop (fun k => ⟨112, [(103, .d (I (k : Nat))), (18, .d (selsD b)), (101, .d (selsD l)), (102, .d (I l.length))], []⟩) (fun k => l.length - k) (fun k => k ≤ l.length) 0 ?_ ?_ ?_
         ·
          exact ent_k [] rfl rfl ((by repeat (first | exact .nil | refine xkc ?_))) obs_nil rfl
         ·
          exact Nat.zero_le _
         ·
          rintro k hk
          refine xsr ?_
          refine xlz (op_binI rfl rfl rfl rfl rfl (.inl rfl) rfl) ?_
          refine lendF ?_
          refine awp_seq ?_
          refine awp_cond rfl rfl (fun hc9 => ?_) (fun hc9 => ?_)
          ·
           obtain ⟨y, hw⟩ := rng_lt (l := l) (by simpa using hc9)
           have hkl := rng_le hw
           have hyb : y ∈ b := by rw [← hb2]; exact reach_more h0 (by rw [hl2]; exact List.mem_of_getElem? hw)
           refine awp_skip ?_
           refine awp_seq ?_
           refine awp_block ?_
           refine xsr ?_
           refine xlz (o_ixN (k) rfl rfl rfl rfl ty27 (by first | rfl | omega | (simp; done) | (simp; omega)) hw ty54) ?_
           refine xlz (op_loadCA rfl rfl rfl ty54 rfl (xlb rfl)) ?_
           refine xlz (op_alloc rfl rfl (by decide) ty54 zk54 rfl) ?_
           refine xlz (op_store rfl rfl rfl rfl rfl rfl ty54 rfl (xlb rfl)) ?_
           refine lendF ?_
           refine xsr ?_
           refine lmv rfl rfl rfl rfl rfl ?_
           refine xlz (o_ldA rfl rfl rfl rfl ty54 rfl (xlb rfl) rfl) ?_
           refine xlz (o_call (c29 b y (by omega)) rfl rfl rfl ca29 rfl rfl) ?_
           refine xlz (op_not rfl rfl rfl) ?_
           refine lendF ?_
           refine awp_cond rfl rfl (fun hc10 => ?_) (fun hc10 => ?_)
           ·
            exact absurd hc10 (by rw [decide_eq_true hyb]; decide)
           ·
            refine awp_skip ?_
            refine awp_region mixed ?_
            refine xlz (o_add rfl rfl rfl rfl (by first | omega | (simp; omega) | (simp at *; omega))) ?_
            refine lmv rfl rfl rfl rfl rfl ?_
            refine lendF ?_
            refine ⟨k + 1, ?_, ?_, ?_⟩
            ·
             exact rng_le hw
            ·
             exact ent_k [] rfl rfl ((by repeat (first | exact .nil | refine xkc ?_))) obs_nil rfl
            ·
             omega
          ·
           obtain rfl := rng_ge (l := l) (by simpa using hc9) hk
           refine awp_exit ?_
           refine xsr ?_
           refine las rfl rfl rfl rfl rfl ?_
           refine lendF ?_
           refine awp_ret ?_
           refine ⟨[_], ⟨rfl, trivial⟩, ?_⟩
           first | exact ent_d1 rfl rfl | exact ent_d1 rfl (by rw [hl0]; rfl)
  ·
   iterate 6 refine lskip rfl hg2 rfl ?_
   refine xlz (o_pT rfl rfl (g00 hg2) rfl rfl) ?_
   refine lendF ?_
   refine awp_condT rfl rfl rfl ?_
   refine xsr ?_
   refine las rfl rfl rfl rfl rfl ?_
   refine lendF ?_
   refine awp_ret ?_
   refine ⟨[_], ⟨rfl, trivial⟩, ?_⟩
   first | exact ent_d1 rfl rfl | exact ent_d1 rfl (by rw [hl0]; rfl)

end Go.Pm

namespace Go.Proofs
open Go.Shelf Go.RowKit Go.Lib
def Tryz.growSel_ren : Go.Shelf.Ren := ⟨fun | 4 => 84 | n => n, fun | 22 => 27 | 25 => 54 | 3 => 3 | 4 => 4 | 9 => 9 | 20 => 20 | 0 => 0 | n => n, fun | n => n⟩
theorem Tryz.growSel : Go.Proofs.Lays8.n4 Tryz.prog Tryz.growSel_ren := {
  mixed := by kernel_rfl
  f4 := ⟨Tryz.f84.name, by decide, Tryz.func84.trans (congrArg some (by kernel_rfl))⟩
  t0 := Tryz.underlying0
  a0 := Tryz.isAgg0
  z0 := Tryz.sizeOf0
  v0 := Tryz.zeroValue0
  t3 := Tryz.underlying3
  a3 := Tryz.isAgg3
  z3 := Tryz.sizeOf3
  v3 := Tryz.zeroValue3
  t4 := Tryz.underlying4
  a4 := Tryz.isAgg4
  z4 := Tryz.sizeOf4
  v4 := Tryz.zeroValue4
  t9 := Tryz.underlying9
  a9 := Tryz.isAgg9
  z9 := Tryz.sizeOf9
  v9 := Tryz.zeroValue9
  t20 := Tryz.underlying20
  a20 := Tryz.isAgg20
  z20 := Tryz.sizeOf20
  v20 := Tryz.zeroValue20
  t22 := Tryz.underlying27
  a22 := Tryz.isAgg27
  z22 := Tryz.sizeOf27
  v22 := Tryz.zeroValue27 }
theorem info54 : ∃ (i0 : TypeInfo) (z : Value), Tryz.prog.info? 54 = some i0 ∧ i0.zero = some z ∧ i0.size = 4 ∧ i0.bytes = 40 ∧ z.cells.size = 4 := by
  have h1 : (Tryz.prog.info? 54).isSome = true := by kernel_rfl
  obtain ⟨i0, hi⟩ := Option.isSome_iff_exists.1 h1
  have h2 : ((Tryz.prog.info? 54).bind (·.zero)).isSome = true := by kernel_rfl
  rw [hi] at h2
  obtain ⟨z, hz⟩ := Option.isSome_iff_exists.1 h2
  have hz : i0.zero = some z := hz
  have h3 : (Tryz.prog.info? 54).map (·.size) = some 4 := by kernel_rfl
  have h4 : (Tryz.prog.info? 54).map (·.bytes) = some 40 := by kernel_rfl
  have h5 : ((Tryz.prog.info? 54).bind (·.zero)).map (fun z => z.cells.size) = some 4 := by kernel_rfl
  rw [hi] at h3 h4 h5
  simp only [Option.map_some, Option.some.injEq, Option.bind_some] at h3 h4 h5
  rw [hz] at h5
  exact ⟨i0, z, hi, hz, h3, h4, by simpa using h5⟩
theorem c84 (n : Nat) (hn : n ≤ 1000000) : Go.Pm.Fn Go.Pm.PR 84 [.nils, .d (.int .i64 (n : Nat))] [] [.tl [] (some 0)] [(0, .tail 4)] := by
  intro E g cargs hr
  obtain ⟨v0, a0, b0⟩ := hr.slots 0 _ rfl
  obtain ⟨v1, a1, b1⟩ := hr.slots 1 _ rfl
  obtain rfl := Go.Pm.vrel_int b1
  obtain rfl : v0 = .slice none 0 0 := by cases b0; rfl
  have hs : cargs.size = 2 := hr.size
  have hcv : cargs = #[.slice none 0 0, .int .i64 (n : Nat)] := by
    match cargs, hs, a0, a1 with
    | ⟨[p0, p1]⟩, _, a0, a1 =>
      simp at a0 a1
      rw [a0, a1]
  subst hcv
  have keepG : ∀ (b : Option Nat) (u : Option Value) (x : Nat), 1000000 ≤ x → (g.put 0 b u).φ x = E.g0.φ x ∧ (g.put 0 b u).τ x = E.g0.τ x := fun b u x hx => by
    have h0 : x ≠ 0 := by omega
    have := hr.keep x hx
    simp only [Go.Pm.Gh.put, if_neg h0]; exact this
  have hob : ∀ (x : Nat) (ob : Go.Pm.Ob), (Go.Pm.St.of [Go.Pm.PV.tl [] (some 0)] [(0, Go.Pm.Ob.tail 4)]).ob x = some ob → x = 0 ∧ ob = .tail 4 := fun x ob h => by
    have h : (if 0 = x then some (Go.Pm.Ob.tail 4) else none) = some ob := h
    by_cases h0 : 0 = x
    · rw [if_pos h0] at h; injection h with h; exact ⟨h0.symm, h.symm⟩
    · rw [if_neg h0] at h; cases h
  have hsl : ∀ (i : Nat) (p : Go.Pm.PV), (Go.Pm.St.of [Go.Pm.PV.tl [] (some 0)] [(0, Go.Pm.Ob.tail 4)]).sl i = some p → i = 0 ∧ p = .tl [] (some 0) := fun i p h => by
    rw [Go.Pm.of_sl] at h
    match i, h with
    | 0, h => simp at h; exact ⟨rfl, h.symm⟩
    | i + 1, h => simp at h
  by_cases h0 : n = 0
  · subst h0
    refine (Any8.slices_Grow_room Tryz.growSel none 0 0 0 E.w0 (Nat.le_refl _) (by omega) (by omega) (Nat.le_refl _)).mono ?_
    rintro e w' ⟨rfl, rfl⟩
    refine ⟨g.put 0 none (some (.slice none 0 0)), #[.slice none 0 0], rfl, rfl, rfl, fun i p hi => ?_, fun x ob hx => ?_, fun x y ob ob' b hx hy e1 e2 => ?_, fun x ob b hx e1 => ?_, hr.fr, hr.av, keepG _ _⟩
    · obtain ⟨rfl, rfl⟩ := hsl i p hi
      exact ⟨_, rfl, .tail .nil (by simp [Go.Pm.Gh.put])⟩
    · obtain ⟨rfl, rfl⟩ := hob x ob hx
      exact .full (a := none) (n := 0) (by simp [Go.Pm.Gh.put]) (by simp [Go.Pm.Gh.put])
    · rw [(hob x ob hx).1, (hob y ob' hy).1]
    · obtain ⟨rfl, _⟩ := hob x ob hx
      simp [Go.Pm.Gh.put] at e1
  · obtain ⟨i0, z, hi, hz, hsz, hbs, hzc⟩ := info54
    refine (Any8.slices_Grow_grow Tryz.growSel i0 z hi hz (by omega) none 0 0 n [] E.w0 (Nat.le_refl _) (by omega) (by rw [hbs]; omega) (by omega) (by simp) (fun _ => rfl) (fun a h => by cases h)).mono ?_
    rintro e w' ⟨rfl, rfl⟩
    generalize hcap : grownCap E.w0 (0 + n) 0 (Tryz.growSel_ren.t 25) = cap
    refine ⟨g.put 0 (some E.w0.heap.size) (some (.slice (some ⟨E.w0.heap.size, 0, none⟩) 0 cap)), #[.slice (some ⟨E.w0.heap.size, 0, none⟩) 0 cap], rfl, rfl, rfl, fun i p hi => ?_, fun x ob hx => ?_, fun x y ob ob' b hx hy e1 e2 => ?_, fun x ob b hx e1 => ?_, ?_, hr.av, keepG _ _⟩
    · obtain ⟨rfl, rfl⟩ := hsl i p hi
      exact ⟨_, rfl, .tail (.empty _ _) (by simp [Go.Pm.Gh.put])⟩
    · obtain ⟨rfl, rfl⟩ := hob x ob hx
      refine .tail (b := E.w0.heap.size) (o := 0) (n := 0) (c := cap) (by simp [Go.Pm.Gh.put]) (Nat.zero_le _) (by simp [Go.Pm.Gh.put]) (Array.getElem?_push_size ..) ?_
      simp only [Array.size_append, size_zeroCells, hzc]
      simp only [List.size_toArray, List.length_nil]; omega
    · rw [(hob x ob hx).1, (hob y ob' hy).1]
    · obtain ⟨rfl, _⟩ := hob x ob hx
      simp [Go.Pm.Gh.put] at e1
      subst e1
      refine ⟨.inl (Nat.le_refl _), ?_⟩
      show E.w0.heap.size < (E.w0.heap.push _).size
      rw [Array.size_push]; omega
    · refine ⟨?_, hr.fr.os, hr.fr.tape, hr.fr.output, fun k hk hi => ?_, hr.fr.gok⟩
      · show E.B ≤ (E.w0.heap.push _).size
        rw [Array.size_push]; exact Nat.le_succ _
      · show (E.w0.heap.push _)[k]? = _
        rw [Array.getElem?_push, if_neg (by have : k < E.w0.heap.size := hk; omega)]
end Go.Proofs

namespace Go.Pm
def satE (q : Req) (y : Sel) : Bool := y.path == q.path && decide ((placeOf y.ver).2 = 0) && setHas q.set (placeOf y.ver).1
theorem satE_eq {q : Req} {y : Sel} (h : y.ver.ok = true) : satE q y = satBy q y := by
  have : (placeOf y.ver).2 = 0 := by unfold placeOf; rw [if_pos h]
  simp [satE, satBy, this]
theorem satE_any {q : Req} {ss : List Sel} (h : ∀ y ∈ ss, y.ver.ok = true) : ss.any (satE q) = ss.any (satBy q) := by
  induction ss with
  | nil => rfl
  | cons a t ih => rw [List.any_cons, List.any_cons, satE_eq (h a (by simp)), ih fun y hy => h y (by simp [hy])]
structure SolOK (x : Idx) (needs : List Req) (ss : List Sel) : Prop where
  ck : checkI x.rels = 0
  inc : incr ss = true
  has : ss.all (hasK x.rels) = true
  sat : ∀ q ∈ allQ x.rels needs ss, ss.any (satBy q) = true
  rch : ∀ y ∈ ss, Rch (ss.map (getK x.rels)) needs (getK x.rels y)
theorem filter_all {α : Type} (p : α → Bool) : ∀ {l : List α}, (l.filter p).length = l.length → ∀ a ∈ l, p a = true
  | [], _, a, h => by simp at h
  | b :: t, h, a, ha => by
    have hle := List.length_filter_le p t
    by_cases hb : p b = true
    · rw [List.filter_cons_of_pos hb] at h
      simp only [List.length_cons] at h
      rcases List.mem_cons.1 ha with rfl | ha
      · exact hb
      · exact filter_all p (by omega) a ha
    · rw [List.filter_cons_of_neg hb] at h
      simp only [List.length_cons] at h; omega
theorem sol_ok {x : Idx} {needs : List Req} {ss : List Sel} (hl : ss.length ≤ 256) (h : solI x needs ss = 0) : SolOK x needs ss := by
  rw [solI_eq hl] at h
  unfold refSol at h
  split at h
  · simp at h
  rename_i h1
  split at h
  · simp at h
  rename_i h2
  split at h
  · simp at h
  rename_i h3
  split at h
  · simp at h
  rename_i h4
  have h1 : checkI x.rels = 0 ∧ incr ss = true := by simpa using h1
  have h2 : ss.all (hasK x.rels) = true := by simpa using h2
  have h3 : (allQ x.rels needs ss).all (fun q => ss.any (satBy q)) = true := by simpa using h3
  have h4 : (refI (ss.map (getK x.rels)) needs).length = ss.length := by simpa using h4
  refine ⟨h1.1, h1.2, h2, fun q hq => List.all_eq_true.1 h3 q hq, fun y hy => ?_⟩
  have hck : checkI (ss.map (getK x.rels)) = 0 := by
    unfold checkI
    rw [if_neg (by simp; omega)]
    refine relsE_less (fun r hr => ?_) (paths_map h1.2 h2) fun b hb => by cases hb
    obtain ⟨k, hk, rfl⟩ := List.mem_map.1 hr
    exact checkI_ok h1.1 _ (getK_path (List.all_eq_true.1 h2 k hk)).2
  rw [refI_yes hck, List.length_map] at h4
  have := filter_all (rchB (ss.map (getK x.rels)) needs) (l := ss.map (getK x.rels)) (by rw [h4, List.length_map]) (getK x.rels y) (List.mem_map.2 ⟨y, hy, rfl⟩)
  exact rchB_iff.1 this
theorem Rch.sub {L M : List Rls} {needs : List Req} {r : Rls} (hs : ∀ z ∈ L, z ∈ M) (h : Rch L needs r) : Rch M needs r := by
  induction h with
  | root hr h => exact .root (hs _ hr) h
  | step _ hr h ih => exact .step ih (hs _ hr) h
section
variable {x : Idx} {needs : List Req} {ss : List Sel}
theorem SolOK.sel (h : SolOK x needs ss) {y : Sel} (hy : y ∈ ss) : (getK x.rels y).sel = y ∧ getK x.rels y ∈ x.rels := getK_path (List.all_eq_true.1 h.has y hy)
theorem SolOK.reached (h : SolOK x needs ss) {y : Sel} (hy : y ∈ ss) : y ∈ reachI x needs := by
  refine (mem_reachI h.ck).2 ⟨_, (h.rch y hy).sub fun z hz => ?_, (h.sel hy).1⟩
  obtain ⟨k, hk, rfl⟩ := List.mem_map.1 hz
  exact (h.sel hk).2
theorem SolOK.found (h : SolOK x needs ss) {y : Sel} (hy : y ∈ ss) : (findR (okR x) y).isSome = true := by
  rw [okR_yes h.ck]; exact List.all_eq_true.1 h.has y hy
theorem SolOK.vers (h : SolOK x needs ss) : ∀ y ∈ ss, y.ver.ok = true := ver_ok h.ck h.has
theorem SolOK.req (h : SolOK x needs ss) {y : Sel} (hy : y ∈ ss) {q : Req} (hq : q ∈ (getR x y).reqs) : ss.any (satE q) = true := by
  rw [satE_any h.vers]
  refine h.sat q (List.mem_append.2 (.inr (List.mem_flatMap.2 ⟨getK x.rels y, List.mem_map.2 ⟨y, hy, rfl⟩, ?_⟩)))
  rw [← getR_getK h.ck]; exact hq
theorem SolOK.roots (h : SolOK x needs ss) : (needs.any fun q => !ss.any (satE q)) = false := by
  rw [List.any_eq_false]
  intro q hq
  rw [satE_any h.vers, h.sat q (List.mem_append.2 (.inl hq))]; simp
theorem incr_path {ss : List Sel} (h : incr ss = true) {a b : Sel} (ha : a ∈ ss) (hb : b ∈ ss) (e : a.path = b.path) : a = b := by
  obtain ⟨i, hi⟩ := List.mem_iff_getElem?.1 ha
  obtain ⟨j, hj⟩ := List.mem_iff_getElem?.1 hb
  have hp := List.pairwise_iff_getElem.1 (incr_pair h)
  obtain ⟨hil, hie⟩ := List.getElem?_eq_some_iff.1 hi
  obtain ⟨hjl, hje⟩ := List.getElem?_eq_some_iff.1 hj
  rcases Nat.lt_trichotomy i j with hlt | heq | hlt
  · have := hp i j hil hjl hlt
    rw [hie, hje, e, bytesLess_irrefl] at this; cases this
  · subst heq; rw [hi] at hj; injection hj
  · have := hp j i hjl hil hlt
    rw [hie, hje, e, bytesLess_irrefl] at this; cases this
theorem incr_gone {ss : List Sel} (h : incr ss = true) {i : Nat} {y : Sel} (hi : ss[i]? = some y) : y ∉ ss.take i ++ ss.drop (i + 1) := by
  intro hm
  have hp := List.pairwise_iff_getElem.1 (incr_pair h)
  obtain ⟨hil, hie⟩ := List.getElem?_eq_some_iff.1 hi
  rcases List.mem_append.1 hm with hm | hm
  · obtain ⟨j, hj⟩ := List.mem_iff_getElem?.1 hm
    have hji : j < i := by have := (List.getElem?_eq_some_iff.1 hj).1; simp at this; omega
    rw [List.getElem?_take, if_pos hji] at hj
    obtain ⟨hjl, hje⟩ := List.getElem?_eq_some_iff.1 hj
    have := hp j i hjl hil hji
    rw [hie, hje, bytesLess_irrefl] at this; cases this
  · obtain ⟨j, hj⟩ := List.mem_iff_getElem?.1 hm
    rw [List.getElem?_drop] at hj
    obtain ⟨hjl, hje⟩ := List.getElem?_eq_some_iff.1 hj
    have := hp i (i + 1 + j) hil hjl (by omega)
    rw [hie, hje, bytesLess_irrefl] at this; cases this
/-- Without any one of its releases a selection that solves does not. -/
theorem SolOK.least (h : SolOK x needs ss) (hl : ss.length ≤ 256) {i : Nat} {y : Sel} (hi : ss[i]? = some y) : solI x needs (ss.take i ++ ss.drop (i + 1)) ≠ 0 := by
  intro h0
  have hlen : (ss.take i ++ ss.drop (i + 1)).length ≤ 256 := by simp; omega
  have k := sol_ok hlen h0
  have hsub : ∀ z ∈ ss.take i ++ ss.drop (i + 1), z ∈ ss := fun z hz => by
    rcases List.mem_append.1 hz with hz | hz
    · exact List.mem_of_mem_take hz
    · exact List.mem_of_mem_drop hz
  have key : ∀ r, Rch (ss.map (getK x.rels)) needs r → r.sel ∈ ss.take i ++ ss.drop (i + 1) := by
    have one : ∀ (q : Req) (r : Rls), r ∈ ss.map (getK x.rels) → reaches q r = true → q ∈ allQ x.rels needs (ss.take i ++ ss.drop (i + 1)) → r.sel ∈ ss.take i ++ ss.drop (i + 1) := by
      intro q r hr hq hqa
      obtain ⟨y', hy', hs⟩ := List.any_eq_true.1 (k.sat q hqa)
      obtain ⟨z, hz, rfl⟩ := List.mem_map.1 hr
      have hzs := (h.sel hz).1
      rw [hzs]
      have e1 : y'.path = q.path := by simp [satBy] at hs; exact hs.1
      have e2 : q.path = (getK x.rels z).path := by simp [reaches] at hq; exact hq.1
      have e3 : (getK x.rels z).path = z.path := congrArg Sel.path hzs
      have : y' = z := incr_path h.inc (hsub y' hy') hz (by rw [e1, e2, e3])
      rw [← this]; exact hy'
    intro r hr
    induction hr with
    | root hr hn =>
      obtain ⟨q, hq, hqr⟩ := List.any_eq_true.1 hn
      exact one q _ hr hqr (List.mem_append.2 (.inl hq))
    | @step k' r hk hr hn ih =>
      obtain ⟨q, hq, hqr⟩ := List.any_eq_true.1 hn
      refine one q _ hr hqr (List.mem_append.2 (.inr (List.mem_flatMap.2 ⟨k', List.mem_map.2 ⟨k'.sel, ih, ?_⟩, hq⟩)))
      obtain ⟨z, hz, rfl⟩ := List.mem_map.1 hk.mem
      rw [(h.sel hz).1]
  have := key _ (h.rch y (List.mem_of_getElem? hi))
  rw [(h.sel (List.mem_of_getElem? hi)).1] at this
  exact incr_gone h.inc hi this
end
theorem flat_step {ls : List (List Sel)} {i : Nat} {z : List Sel} (h : ls[i]? = some z) : (ls.take (i + 1)).flatten = (ls.take i).flatten ++ z := by rw [take_succ h]; simp
theorem flat_le {ls : List (List Sel)} {i : Nat} {z : List Sel} (h : ls[i]? = some z) : (ls.take i).flatten.length + z.length ≤ ls.flatten.length := by
  have e : ls = ls.take i ++ z :: ls.drop (i + 1) := by rw [← drop_cons h, List.take_append_drop]
  have : ls.flatten = (ls.take i).flatten ++ (z ++ (ls.drop (i + 1)).flatten) := (congrArg List.flatten e).trans (by rw [List.flatten_append, List.flatten_cons])
  rw [this]; simp
end Go.Pm

namespace Go.Pm
open Go.Proofs

set_option maxRecDepth 10000 in
set_option maxHeartbeats 2000000 in
theorem c33 (ls : List (List Sel)) (hl : ls.length ≤ 1000) (hb : ls.flatten.length ≤ 1000000) : Fn PR 33 [.d (.list (ls.map selsD))] [] [.d (selsD ls.flatten)] [] := by
 refine fn_of_awp Tryz.func33 rfl (N := 36) rfl ?_
 refine xsr ?_
 refine las rfl rfl rfl rfl rfl ?_
 refine lendF ?_
 refine xsr ?_
 refine las rfl rfl rfl rfl rfl ?_
 refine lendF ?_
 refine awp_seq ?_
 refine xsr ?_
 refine lmv rfl rfl rfl rfl rfl ?_
 refine xlz (o_lenE (n := ls.length) rfl rfl rfl ty128 (by simp)) ?_
 refine lmv rfl rfl rfl rfl rfl ?_
 refine lendF ?_
 refine awp_block ?_
 refine awp_loop (fun i => ⟨36, [(11, .d (I (i : Nat))), (3, .d (I ((ls.take i).flatten.length : Nat))), (0, .d (.list (ls.map selsD))), (9, .d (.list (ls.map selsD))), (10, .d (I ls.length))], []⟩) (fun i => ls.length - i) (fun i => i ≤ ls.length) 0 ?_ ?_ ?_
 ·
  exact ent_k [] rfl rfl ((by repeat (first | exact .nil | refine xkc ?_))) obs_nil rfl
 ·
  exact Nat.zero_le _
 ·
  rintro i hi
  refine xsr ?_
  refine xlz (op_binI rfl rfl rfl rfl rfl (.inl rfl) rfl) ?_
  refine lendF ?_
  refine awp_seq ?_
  refine awp_cond rfl rfl (fun hc1 => ?_) (fun hc1 => ?_)
  ·
   obtain ⟨z, hn⟩ := rng_lt (l := ls) (by simpa using hc1)
   have hlt := rng_le hn
   have hfs := flat_step hn
   have hfl := flat_le hn
   refine awp_skip ?_
   refine awp_seq ?_
   refine awp_block ?_
   refine xsr ?_
   refine xlz (o_ixN (i) rfl rfl rfl rfl ty128 (by first | rfl | omega | (simp; done) | (simp; omega)) hn ty27) ?_
   refine xlz (op_loadC1 rfl rfl rfl ty27 rfl rfl) ?_
   refine las rfl rfl rfl rfl rfl ?_
   refine lendF ?_
   refine xsr ?_
   iterate 2 refine lmv rfl rfl rfl rfl rfl ?_
   refine xlz (o_lenE (n := z.length) rfl rfl rfl ty27 (by simp)) ?_
   refine xlz (o_add rfl rfl rfl rfl (by first | omega | (simp; omega) | (simp at *; omega))) ?_
   refine las rfl rfl rfl rfl rfl ?_
   refine lendF ?_
   refine xsr ?_
   refine lmv rfl rfl rfl rfl rfl ?_
   refine xlz (op_binI rfl rfl rfl rfl rfl (.inl rfl) rfl) ?_
   refine lendF ?_
   refine awp_cond rfl rfl (fun hc2 => ?_) (fun hc2 => ?_)
   ·
    exact absurd hc2 (by simp; omega)
   ·
    refine awp_skip ?_
    refine awp_region mixed ?_
    refine xlz (o_add rfl rfl rfl rfl (by first | omega | (simp; omega) | (simp at *; omega))) ?_
    refine lmv rfl rfl rfl rfl rfl ?_
    refine lendF ?_
    refine ⟨i + 1, ?_, ?_, ?_⟩
    ·
     exact rng_le hn
    ·
     exact ent_k [] rfl rfl (xkc <| .cons rfl (k_i (by rw [hfs, List.length_append]; simp)) <| (by repeat (first | exact .nil | refine xkc ?_))) obs_nil rfl
    ·
     omega
  ·
   obtain rfl := rng_ge (l := ls) (by simpa using hc1) hi
   refine awp_exit ?_
   refine xsr ?_
   refine lmv rfl rfl rfl rfl rfl ?_
   refine xlz (o_callX (p := .tl [] (some 1024)) (news := [1024]) (upd := [(1024, some (.tail 4))]) [] 24 (c84 (ls.take ls.length).flatten.length (by rw [List.take_length]; exact hb)) rfl rfl rfl ca84 rfl (by decide) handOK_nil rfl rfl rfl rfl (by kernel_rfl) (by kernel_rfl) (by kernel_rfl)) ?_
   refine las rfl rfl rfl rfl rfl ?_
   refine lendF ?_
   refine awp_seq ?_
   refine xsr ?_
   refine lmv rfl rfl rfl rfl rfl ?_
   refine xlz (o_lenE (n := ls.length) rfl rfl rfl ty128 (by simp)) ?_
   refine lmv rfl rfl rfl rfl rfl ?_
   refine lendF ?_
   refine awp_block ?_
   refine awp_loop (fun i => ⟨36, [(27, .d (I (i : Nat))), (6, .tl ((ls.take i).flatten.map Sel.d) (some 500006)), (25, .d (.list (ls.map selsD))), (26, .d (I ls.length))], [(500006, .tail 4)]⟩) (fun i => ls.length - i) (fun i => i ≤ ls.length) 0 ?_ ?_ ?_
   ·
    exact ent_k [(500006, 1024)] rfl rfl ((by repeat (first | exact .nil | refine xkc ?_))) (obs_cons rfl (o_eq rfl) obs_nil) rfl
   ·
    exact Nat.zero_le _
   ·
    rintro i hi
    refine xsr ?_
    refine xlz (op_binI rfl rfl rfl rfl rfl (.inl rfl) rfl) ?_
    refine lendF ?_
    refine awp_seq ?_
    refine awp_cond rfl rfl (fun hc3 => ?_) (fun hc3 => ?_)
    ·
     obtain ⟨z, hn⟩ := rng_lt (l := ls) (by simpa using hc3)
     have hlt := rng_le hn
     have hfs := flat_step hn
     have hfl := flat_le hn
     refine awp_skip ?_
     refine awp_seq ?_
     refine awp_block ?_
     refine xsr ?_
     refine xlz (o_ixN (i) rfl rfl rfl rfl ty128 (by first | rfl | omega | (simp; done) | (simp; omega)) hn ty27) ?_
     refine xlz (op_loadC1 rfl rfl rfl ty27 rfl rfl) ?_
     refine las rfl rfl rfl rfl rfl ?_
     refine lendF ?_
     refine awp_region mixed ?_
     iterate 2 refine lmv rfl rfl rfl rfl rfl ?_
     refine xlz (o_app rfl rfl (by decide) rfl rfl rfl ty27 ty54 rfl (by decide) rfl (by intro d hd; obtain ⟨x, _, rfl⟩ := List.mem_map.1 hd; rfl) (by first | (simp [D.cells]; done) | (intro d hd; obtain ⟨x, _, rfl⟩ := List.mem_map.1 hd; rfl)) (by simp only [List.length_map]; omega) (by decide) (show _ = (ls.take (i + 1)).flatten.map Sel.d from by rw [hfs]; simp)) ?_
     refine las rfl rfl rfl rfl rfl ?_
     refine lendF ?_
     refine awp_region mixed ?_
     refine xlz (o_add rfl rfl rfl rfl (by first | omega | (simp; omega) | (simp at *; omega))) ?_
     refine lmv rfl rfl rfl rfl rfl ?_
     refine lendF ?_
     refine ⟨i + 1, ?_, ?_, ?_⟩
     ·
      exact rng_le hn
     ·
      exact ent_k [(500006, 33)] rfl rfl ((by repeat (first | exact .nil | refine xkc ?_))) (obs_cons rfl (o_eq rfl) obs_nil) rfl
     ·
      omega
    ·
     obtain rfl := rng_ge (l := ls) (by simpa using hc3) hi
     refine awp_exit ?_
     refine xsr ?_
     refine lmv rfl rfl rfl rfl rfl ?_
     refine las rfl rfl rfl rfl rfl ?_
     refine lendF ?_
     refine awp_ret ?_
     refine ⟨[_], ⟨rfl, trivial⟩, ?_⟩
     exact ent_d1 rfl (by rw [List.take_length])

set_option maxRecDepth 10000 in
theorem c32 (y : Sel) (q : Req) (hq : q.set.length < 4611686018427387904) : Fn PR 32 [.d y.d, .ptr 1000000 0] [(1000000, .cells [.d (.str q.path), .d (setD q.set)])] [.d (.bool (satE q y))] [(1000000, .cells [.d (.str q.path), .d (setD q.set)])] := by
 refine fn_of_awp Tryz.func32 rfl (N := 27) rfl ?_
 refine xsr ?_
 refine xlz (op_box rfl rfl (by decide) rfl rfl) ?_
 refine las rfl rfl rfl rfl rfl ?_
 refine lendF ?_
 refine xsr ?_
 refine xlz (op_fieldP rfl rfl rfl fl54_1) ?_
 refine xlz (o_ldA rfl rfl rfl rfl ty38 rfl (xlb rfl) rfl) ?_
 refine xlz (o_call (c25 y.ver) rfl rfl rfl ca25 rfl rfl) ?_
 refine lmv rfl rfl rfl rfl rfl ?_
 refine xlz (op_extract rfl rfl rfl rfl) ?_
 refine xlz (op_extract rfl rfl rfl rfl) ?_
 iterate 2 refine las rfl rfl rfl rfl rfl ?_
 refine lendF ?_
 refine xsr ?_
 refine xlz (op_fieldP rfl rfl rfl fl54_0) ?_
 refine xlz (op_load1 rfl rfl rfl rfl ty9 rfl rfl) ?_
 refine xlz (op_fieldP rfl rfl rfl fl51_0) ?_
 refine xlz (op_load1 rfl rfl rfl rfl ty9 rfl rfl) ?_
 refine xlz (op_binS rfl rfl rfl rfl rfl (fun h => by first | cases h | (simp; omega)) rfl) ?_
 refine lmv rfl rfl rfl rfl rfl ?_
 refine lsplit rfl (fun hg1 => ?_) (fun hg1 => ?_)
 ·
  refine gmv hg1 rfl rfl rfl rfl rfl ?_
  refine lg (op_binI rfl rfl rfl rfl rfl (.inl rfl) rfl) rfl hg1 rfl rfl ?_
  refine xlz (o_pT rfl rfl (g11 hg1) rfl rfl) ?_
  refine lmv rfl rfl rfl rfl rfl ?_
  refine lsplit rfl (fun hg2 => ?_) (fun hg2 => ?_)
  ·
   refine lg (op_fieldP rfl rfl rfl fl51_1) rfl hg2 rfl rfl ?_
   refine lg (op_load1 rfl rfl rfl rfl ty49 rfl rfl) rfl hg2 rfl rfl ?_
   refine gmv hg2 rfl rfl rfl rfl rfl ?_
   refine lg (o_call (c28 q.set (placeOf y.ver).1 hq) rfl rfl rfl ca28 rfl rfl) rfl hg2 rfl rfl ?_
   refine xlz (o_pT rfl rfl (g11 hg2) rfl rfl) ?_
   refine las rfl rfl rfl rfl rfl ?_
   refine lendF ?_
   refine awp_ret ?_
   refine ⟨[_], ⟨rfl, trivial⟩, ?_⟩
   exact ent_k [] rfl rfl (.cons rfl (k_b (by simp_all [satE])) .nil) (obs_cons rfl (o_eq rfl) obs_nil) rfl
  ·
   iterate 4 refine lskip rfl hg2 rfl ?_
   refine xlz (o_pF rfl rfl (g10 hg2) rfl rfl) ?_
   refine las rfl rfl rfl rfl rfl ?_
   refine lendF ?_
   refine awp_ret ?_
   refine ⟨[_], ⟨rfl, trivial⟩, ?_⟩
   exact ent_k [] rfl rfl (.cons rfl (k_b (by simp_all [satE])) .nil) (obs_cons rfl (o_eq rfl) obs_nil) rfl
 ·
  iterate 2 refine lskip rfl hg1 rfl ?_
  refine xlz (o_pF rfl rfl (g10 hg1) rfl rfl) ?_
  refine lmv rfl rfl rfl rfl rfl ?_
  iterate 4 refine lskip rfl rfl rfl ?_
  refine xlz (o_pF rfl rfl rfl rfl rfl) ?_
  refine las rfl rfl rfl rfl rfl ?_
  refine lendF ?_
  refine awp_ret ?_
  refine ⟨[_], ⟨rfl, trivial⟩, ?_⟩
  exact ent_k [] rfl rfl (.cons rfl (k_b (by simp_all [satE])) .nil) (obs_cons rfl (o_eq rfl) obs_nil) rfl

set_option maxRecDepth 10000 in
theorem c83 (l : List Sel) (q : Req) (hl : l.length < 4611686018427387904) (hq : q.set.length < 4611686018427387904) : Fn PR 83 [.d (selsD l), .fn (.func 32) [] [.ptr 1000000 0]] [(1000000, .cells [.d (.str q.path), .d (setD q.set)])] [.d (I (ixG (satE q) l 0))] [(1000000, .cells [.d (.str q.path), .d (setD q.set)])] := by
 refine fn_of_awp Tryz.func83 rfl (N := 19) rfl ?_
 refine xsr ?_
 refine las rfl rfl rfl rfl rfl ?_
 refine lendF ?_
 refine awp_seq ?_
 refine xsr ?_
 refine lmv rfl rfl rfl rfl rfl ?_
 refine xlz (o_lenE (n := l.length) rfl rfl rfl ty27 (by simp)) ?_
 refine lmv rfl rfl rfl rfl rfl ?_
 refine lendF ?_
 refine awp_block ?_
 refine awp_loop (fun i => ⟨19, [(8, .d (I (i : Nat))), (0, .d (selsD l)), (1, .fn (.func 32) [] [.ptr 1000000 0]), (7, .d (I l.length))], [(1000000, .cells [.d (.str q.path), .d (setD q.set)])]⟩) (fun i => l.length - i) (fun i => i ≤ l.length ∧ ixG (satE q) (l.drop i) i = ixG (satE q) l 0) 0 ?_ ?_ ?_
 ·
  exact ent_k [] rfl rfl ((by repeat (first | exact .nil | refine xkc ?_))) (obs_cons rfl (o_eq rfl) obs_nil) rfl
 ·
  exact ⟨Nat.zero_le _, rfl⟩
 ·
  rintro i ⟨hi, hI⟩
  refine xsr ?_
  refine xlz (op_binI rfl rfl rfl rfl rfl (.inl rfl) rfl) ?_
  refine lendF ?_
  refine awp_seq ?_
  refine awp_cond rfl rfl (fun hc1 => ?_) (fun hc1 => ?_)
  ·
   obtain ⟨x, hn⟩ := rng_lt (l := l) (by simpa using hc1)
   have hlt := rng_le hn
   have hmem := List.mem_of_getElem? hn
   refine awp_skip ?_
   refine awp_seq ?_
   refine awp_block ?_
   refine xsr ?_
   refine lmv rfl rfl rfl rfl rfl ?_
   refine las rfl rfl rfl rfl rfl ?_
   refine lendF ?_
   refine xsr ?_
   iterate 3 refine lmv rfl rfl rfl rfl rfl ?_
   refine xlz (o_ixN (i) rfl rfl rfl rfl ty27 (by first | rfl | omega | (simp; done) | (simp; omega)) hn ty54) ?_
   refine xlz (op_loadCA rfl rfl rfl ty54 rfl (xlb rfl)) ?_
   refine xlz (o_callR [1000000] (c32 x q hq) rfl rfl rfl ca32 rfl (by decide) (handOK_cons (by decide) (by decide) rfl rfl handOK_nil) rfl) ?_
   refine lendF ?_
   refine awp_cond rfl rfl (fun hc2 => ?_) (fun hc2 => ?_)
   ·
    refine xsr ?_
    refine lmv rfl rfl rfl rfl rfl ?_
    refine las rfl rfl rfl rfl rfl ?_
    refine lendF ?_
    refine awp_ret ?_
    refine ⟨[_], ⟨rfl, trivial⟩, ?_⟩
    exact ent_k [] rfl rfl (.cons rfl (k_i (by rw [← hI, drop_cons hn, ixG_yes (f := satE q) hc2])) .nil) (obs_cons rfl (o_eq rfl) obs_nil) rfl
   ·
    refine awp_skip ?_
    refine awp_region mixed ?_
    refine xlz (o_add rfl rfl rfl rfl (by first | omega | (simp; omega) | (simp at *; omega))) ?_
    refine lmv rfl rfl rfl rfl rfl ?_
    refine lendF ?_
    refine ⟨i + 1, ?_, ?_, ?_⟩
    ·
     exact ⟨rng_le hn, by rw [← hI, drop_cons hn, ixG_no (f := satE q) hc2]⟩
    ·
     exact ent_k [] rfl rfl ((by repeat (first | exact .nil | refine xkc ?_))) (obs_cons rfl (o_eq rfl) obs_nil) rfl
    ·
     omega
  ·
   obtain rfl := rng_ge (l := l) (by simpa using hc1) hi
   refine awp_exit ?_
   refine xsr ?_
   refine las rfl rfl rfl rfl rfl ?_
   refine lendF ?_
   refine awp_ret ?_
   refine ⟨[_], ⟨rfl, trivial⟩, ?_⟩
   exact ent_k [] rfl rfl (.cons rfl (k_i (by rw [← hI]; simp [ixG])) .nil) (obs_cons rfl (o_eq rfl) obs_nil) rfl

set_option maxRecDepth 10000 in
theorem c31 (l : List Sel) (q : Req) (hl : l.length < 4611686018427387904) (hq : q.set.length < 4611686018427387904) : Fn PR 31 [.d (selsD l), .fn (.func 32) [] [.ptr 1000000 0]] [(1000000, .cells [.d (.str q.path), .d (setD q.set)])] [.d (.bool (l.any (satE q)))] [(1000000, .cells [.d (.str q.path), .d (setD q.set)])] := by
 refine fn_of_awp Tryz.func31 rfl (N := 9) rfl ?_
 refine xsr ?_
 refine las rfl rfl rfl rfl rfl ?_
 refine lendF ?_
 refine xsr ?_
 iterate 2 refine lmv rfl rfl rfl rfl rfl ?_
 refine xlz (o_callR [1000000] (c83 l q hl hq) rfl rfl rfl ca83 rfl (by decide) (handOK_cons (by decide) (by decide) rfl rfl handOK_nil) rfl) ?_
 refine xlz (op_binI rfl rfl rfl rfl rfl (.inl rfl) rfl) ?_
 refine las rfl rfl rfl rfl rfl ?_
 refine lendF ?_
 refine awp_ret ?_
 refine ⟨[_], ⟨rfl, trivial⟩, ?_⟩
 exact ent_k [] rfl rfl (.cons rfl (k_b (by rw [← ixG_any])) .nil) (obs_cons rfl (o_eq rfl) obs_nil) rfl

set_option maxRecDepth 10000 in
theorem c30 (q : Req) (ss : List Sel) (hs : ss.length < 4611686018427387904) (hq : q.set.length < 4611686018427387904) : Fn PR 30 [.d q.d, .ptr 1000000 0] [(1000000, .cells [.d (selsD ss)])] [.d (.bool (ss.any (satE q)))] [(1000000, .cells [.d (selsD ss)])] := by
 refine fn_of_awp Tryz.func30 rfl (N := 7) rfl ?_
 refine xsr ?_
 refine xlz (op_box rfl rfl (by decide) rfl rfl) ?_
 refine las rfl rfl rfl rfl rfl ?_
 refine lendF ?_
 refine xsr ?_
 refine xlz (op_load1 rfl rfl rfl rfl ty27 rfl rfl) ?_
 refine xlz (op_fn rfl rfl rfl rfl rfl) ?_
 refine xlz (o_callR [2] (c31 ss q hs hq) rfl rfl rfl ca31 rfl (by decide) (handOK_cons (by decide) (by decide) rfl rfl handOK_nil) rfl) ?_
 refine las rfl rfl rfl rfl rfl ?_
 refine lendF ?_
 refine awp_ret ?_
 refine ⟨[_], ⟨rfl, trivial⟩, ?_⟩
 exact ent_k [] rfl rfl (.cons rfl (k_b rfl) .nil) (obs_cons rfl (o_eq rfl) obs_nil) rfl

set_option maxRecDepth 10000 in
theorem c34 (q : Req) (ss : List Sel) (hs : ss.length < 4611686018427387904) (hq : q.set.length < 4611686018427387904) : Fn PR 34 [.d q.d, .ptr 1000000 0] [(1000000, .cells [.fn (.func 30) [] [.ptr 1000001 0]]), (1000001, .cells [.d (selsD ss)])] [.d (.bool (!ss.any (satE q)))] [(1000000, .cells [.fn (.func 30) [] [.ptr 1000001 0]]), (1000001, .cells [.d (selsD ss)])] := by
 refine fn_of_awp Tryz.func34 rfl (N := 8) rfl ?_
 refine xsr ?_
 refine xlz (op_box rfl rfl (by decide) rfl rfl) ?_
 refine las rfl rfl rfl rfl rfl ?_
 refine lendF ?_
 refine xsr ?_
 refine xlz (op_load1 rfl rfl rfl rfl ty61 rfl rfl) ?_
 refine xlz (o_ldA rfl rfl rfl rfl ty51 rfl (xlb rfl) rfl) ?_
 refine xlz (o_callR [1000001] (c30 q ss hs hq) rfl rfl rfl ca30 rfl (by decide) (handOK_cons (by decide) (by decide) rfl rfl handOK_nil) rfl) ?_
 refine xlz (op_not rfl rfl rfl) ?_
 refine las rfl rfl rfl rfl rfl ?_
 refine lendF ?_
 refine awp_ret ?_
 refine ⟨[_], ⟨rfl, trivial⟩, ?_⟩
 exact ent_k [] rfl rfl (.cons rfl (k_b rfl) .nil) (obs_cons rfl (o_eq rfl) (obs_cons rfl (o_eq rfl) obs_nil)) rfl

set_option maxRecDepth 10000 in
theorem c79d (l : List Req) (ss : List Sel) (hl : l.length < 4611686018427387904) (hs : ss.length < 4611686018427387904) (hq : ∀ q ∈ l, q.set.length < 4611686018427387904) : Fn PR 79 [.d (reqsD l), .fn (.func 34) [] [.ptr 1000000 0]] [(1000000, .cells [.fn (.func 30) [] [.ptr 1000001 0]]), (1000001, .cells [.d (selsD ss)])] [.d (I (ixG (fun q => !ss.any (satE q)) l 0))] [(1000000, .cells [.fn (.func 30) [] [.ptr 1000001 0]]), (1000001, .cells [.d (selsD ss)])] := by
 refine fn_of_awp Tryz.func79 rfl (N := 19) rfl ?_
 refine xsr ?_
 refine las rfl rfl rfl rfl rfl ?_
 refine lendF ?_
 refine awp_seq ?_
 refine xsr ?_
 refine lmv rfl rfl rfl rfl rfl ?_
 refine xlz (o_lenE (n := l.length) rfl rfl rfl ty26 (by simp)) ?_
 refine lmv rfl rfl rfl rfl rfl ?_
 refine lendF ?_
 refine awp_block ?_
 refine awp_loop (fun i => ⟨19, [(8, .d (I (i : Nat))), (0, .d (reqsD l)), (1, .fn (.func 34) [] [.ptr 1000000 0]), (7, .d (I l.length))], [(1000000, .cells [.fn (.func 30) [] [.ptr 1000001 0]]), (1000001, .cells [.d (selsD ss)])]⟩) (fun i => l.length - i) (fun i => i ≤ l.length ∧ ixG (fun q => !ss.any (satE q)) (l.drop i) i = ixG (fun q => !ss.any (satE q)) l 0) 0 ?_ ?_ ?_
 ·
  exact ent_k [] rfl rfl ((by repeat (first | exact .nil | refine xkc ?_))) (obs_cons rfl (o_eq rfl) (obs_cons rfl (o_eq rfl) obs_nil)) rfl
 ·
  exact ⟨Nat.zero_le _, rfl⟩
 ·
  rintro i ⟨hi, hI⟩
  refine xsr ?_
  refine xlz (op_binI rfl rfl rfl rfl rfl (.inl rfl) rfl) ?_
  refine lendF ?_
  refine awp_seq ?_
  refine awp_cond rfl rfl (fun hc1 => ?_) (fun hc1 => ?_)
  ·
   obtain ⟨x, hn⟩ := rng_lt (l := l) (by simpa using hc1)
   have hlt := rng_le hn
   have hmem := List.mem_of_getElem? hn
   refine awp_skip ?_
   refine awp_seq ?_
   refine awp_block ?_
   refine xsr ?_
   refine lmv rfl rfl rfl rfl rfl ?_
   refine las rfl rfl rfl rfl rfl ?_
   refine lendF ?_
   refine xsr ?_
   iterate 3 refine lmv rfl rfl rfl rfl rfl ?_
   refine xlz (o_ixN (i) rfl rfl rfl rfl ty26 (by first | rfl | omega | (simp; done) | (simp; omega)) hn ty51) ?_
   refine xlz (op_loadCA rfl rfl rfl ty51 rfl (xlb rfl)) ?_
   refine xlz (o_callR [1000000, 1000001] (c34 x ss hs (hq x hmem)) rfl rfl rfl ca34 rfl (by decide) (handOK_cons (by decide) (by decide) rfl rfl (handOK_cons (by decide) (by decide) rfl rfl handOK_nil)) rfl) ?_
   refine lendF ?_
   refine awp_cond rfl rfl (fun hc2 => ?_) (fun hc2 => ?_)
   ·
    refine xsr ?_
    refine lmv rfl rfl rfl rfl rfl ?_
    refine las rfl rfl rfl rfl rfl ?_
    refine lendF ?_
    refine awp_ret ?_
    refine ⟨[_], ⟨rfl, trivial⟩, ?_⟩
    exact ent_k [] rfl rfl (.cons rfl (k_i (by rw [← hI, drop_cons hn, ixG_yes (f := (fun q => !ss.any (satE q))) hc2])) .nil) (obs_cons rfl (o_eq rfl) (obs_cons rfl (o_eq rfl) obs_nil)) rfl
   ·
    refine awp_skip ?_
    refine awp_region mixed ?_
    refine xlz (o_add rfl rfl rfl rfl (by first | omega | (simp; omega) | (simp at *; omega))) ?_
    refine lmv rfl rfl rfl rfl rfl ?_
    refine lendF ?_
    refine ⟨i + 1, ?_, ?_, ?_⟩
    ·
     exact ⟨rng_le hn, by rw [← hI, drop_cons hn, ixG_no (f := (fun q => !ss.any (satE q))) hc2]⟩
    ·
     exact ent_k [] rfl rfl ((by repeat (first | exact .nil | refine xkc ?_))) (obs_cons rfl (o_eq rfl) (obs_cons rfl (o_eq rfl) obs_nil)) rfl
    ·
     omega
  ·
   obtain rfl := rng_ge (l := l) (by simpa using hc1) hi
   refine awp_exit ?_
   refine xsr ?_
   refine las rfl rfl rfl rfl rfl ?_
   refine lendF ?_
   refine awp_ret ?_
   refine ⟨[_], ⟨rfl, trivial⟩, ?_⟩
   exact ent_k [] rfl rfl (.cons rfl (k_i (by rw [← hI]; simp [ixG])) .nil) (obs_cons rfl (o_eq rfl) (obs_cons rfl (o_eq rfl) obs_nil)) rfl

set_option maxRecDepth 10000 in
theorem c26d (l : List Req) (ss : List Sel) (hl : l.length < 4611686018427387904) (hs : ss.length < 4611686018427387904) (hq : ∀ q ∈ l, q.set.length < 4611686018427387904) : Fn PR 26 [.d (reqsD l), .fn (.func 34) [] [.ptr 1000000 0]] [(1000000, .cells [.fn (.func 30) [] [.ptr 1000001 0]]), (1000001, .cells [.d (selsD ss)])] [.d (.bool (l.any (fun q => !ss.any (satE q))))] [(1000000, .cells [.fn (.func 30) [] [.ptr 1000001 0]]), (1000001, .cells [.d (selsD ss)])] := by
 refine fn_of_awp Tryz.func26 rfl (N := 9) rfl ?_
 refine xsr ?_
 refine las rfl rfl rfl rfl rfl ?_
 refine lendF ?_
 refine xsr ?_
 iterate 2 refine lmv rfl rfl rfl rfl rfl ?_
 refine xlz (o_callR [1000000, 1000001] (c79d l ss hl hs hq) rfl rfl rfl ca79 rfl (by decide) (handOK_cons (by decide) (by decide) rfl rfl (handOK_cons (by decide) (by decide) rfl rfl handOK_nil)) rfl) ?_
 refine xlz (op_binI rfl rfl rfl rfl rfl (.inl rfl) rfl) ?_
 refine las rfl rfl rfl rfl rfl ?_
 refine lendF ?_
 refine awp_ret ?_
 refine ⟨[_], ⟨rfl, trivial⟩, ?_⟩
 exact ent_k [] rfl rfl (.cons rfl (k_b (by rw [← ixG_any])) .nil) (obs_cons rfl (o_eq rfl) (obs_cons rfl (o_eq rfl) obs_nil)) rfl

end Go.Pm

namespace Go.Pm
open Go.Proofs

set_option maxRecDepth 10000 in
set_option maxHeartbeats 8000000 in
theorem c7 (x : Idx) (hl : x.rels.length < 4611686018427387904) (hrl : ∀ r ∈ x.rels, r.reqs.length < 4611686018427387904) (needs : List Req) (hnl : needs.length < 4611686018427387904) (ss : List Sel) (hsl : ss.length < 4611686018427387904) : Fn PR 7 [.d x.d, .d (reqsD needs), .d (selsD ss)] [] [.d (.bool true)] [] := by
 refine fn_of_awp Tryz.func7 rfl (N := 94) rfl ?_
 obtain ⟨l, hl2⟩ : ∃ l, reachI x needs = l := ⟨_, rfl⟩
 refine xsr ?_
 refine xlz (op_box rfl rfl (by decide) rfl rfl) ?_
 refine xlz (op_box rfl rfl (by decide) rfl rfl) ?_
 refine las rfl rfl rfl rfl rfl ?_
 refine lendF ?_
 refine awp_seq ?_
 refine xsr ?_
 refine xlz (o_call (c9) rfl rfl rfl ca9 rfl rfl) ?_
 refine xlz (op_not rfl rfl rfl) ?_
 refine lendF ?_
 refine awp_cond rfl rfl (fun hc1 => ?_) (fun hc1 => ?_)
 ·
  exact absurd hc1 (by decide)
 ·
  refine awp_skip ?_
  refine awp_seq ?_
  refine xsr ?_
  refine xlz (op_fieldP rfl rfl rfl fl25_0) ?_
  refine xlz (op_load1 rfl rfl rfl rfl ty22 rfl rfl) ?_
  refine xlz (o_call (c10 x.rels 30 hl hrl) rfl rfl rfl ca10 rfl rfl) ?_
  refine xlz (op_not rfl rfl rfl) ?_
  refine lmv rfl rfl rfl rfl rfl ?_
  refine lsplit rfl (fun hg2 => ?_) (fun hg2 => ?_)
  ·
   have hf : fewRlss x.rels 30 = true := by (have h := (g01 hg2)); simpa using h
   obtain ⟨hr, h30⟩ := fewRlss_ok hf
   refine gmv hg2 rfl rfl rfl rfl rfl ?_
   refine lg (o_call (c11 needs hnl) rfl rfl rfl ca11 rfl rfl) rfl hg2 rfl rfl ?_
   refine lg (op_not rfl rfl rfl) rfl hg2 rfl rfl ?_
   refine xlz (o_pF rfl rfl (g01 hg2) rfl rfl) ?_
   refine lmv rfl rfl rfl rfl rfl ?_
   refine lsplit rfl (fun hg3 => ?_) (fun hg3 => ?_)
   ·
    have hfn : fewReqs needs = true := by (have h := (g01 hg3)); simpa using h
    obtain ⟨hqn, h20⟩ := fewReqs_ok hfn
    refine lg (op_load1 rfl rfl rfl rfl ty27 rfl rfl) rfl hg3 rfl rfl ?_
    refine lg (o_lenE (n := ss.length) rfl rfl rfl ty27 (by simp)) rfl hg3 rfl rfl ?_
    refine lg (op_binI rfl rfl rfl rfl rfl (.inl rfl) rfl) rfl hg3 rfl rfl ?_
    refine xlz (o_pF rfl rfl (g01 hg3) rfl rfl) ?_
    refine lendF ?_
    refine awp_cond rfl rfl (fun hc4 => ?_) (fun hc4 => ?_)
    ·
     refine xsr ?_
     refine las rfl rfl rfl rfl rfl ?_
     refine lendF ?_
     refine awp_ret ?_
     refine ⟨[_], ⟨rfl, trivial⟩, ?_⟩
     first | exact ent_d1 rfl rfl | exact ent_d1 rfl (by rw [hsol.roots]; rfl)
    ·
     have hss : ss.length ≤ 20 := by (have h := hc4); simp at h; omega
     have hll : l.length ≤ 30 := by rw [← hl2]; have := reachI_len x needs; omega
     refine awp_skip ?_
     refine awp_seq ?_
     refine xsr ?_
     refine xlz (o_ldA rfl rfl rfl rfl ty25 rfl (xlb rfl) rfl) ?_
     refine lmv rfl rfl rfl rfl rfl ?_
     refine xlz (op_load1 rfl rfl rfl rfl ty27 rfl rfl) ?_
     refine xlz (o_call (c15 x hl hr needs ss hqn (by omega) (by omega)) rfl rfl rfl ca15 rfl rfl) ?_
     refine xlz (op_binI rfl rfl rfl rfl rfl (.inl rfl) rfl) ?_
     refine lendF ?_
     refine awp_cond rfl rfl (fun hc5 => ?_) (fun hc5 => ?_)
     ·
      refine xsr ?_
      refine las rfl rfl rfl rfl rfl ?_
      refine lendF ?_
      refine awp_ret ?_
      refine ⟨[_], ⟨rfl, trivial⟩, ?_⟩
      first | exact ent_d1 rfl rfl | exact ent_d1 rfl (by rw [hsol.roots]; rfl)
     ·
      have hsol := sol_ok (by omega) (show solI x needs ss = 0 by simpa using hc5)
      refine awp_skip ?_
      refine xsr ?_
      refine xlz (op_fn rfl rfl rfl rfl rfl) ?_
      refine xlz (op_alloc rfl rfl (by decide) ty61 zk61 rfl) ?_
      refine xlz (op_store rfl rfl rfl rfl rfl rfl ty61 rfl (xlb rfl)) ?_
      refine lendF ?_
      refine xsr ?_
      refine xlz (o_ldA rfl rfl rfl rfl ty25 rfl (xlb rfl) rfl) ?_
      refine lmv rfl rfl rfl rfl rfl ?_
      refine xlz (o_call (c13g x (by omega) hr needs hqn (by omega) l hl2) rfl rfl rfl ca13 rfl rfl) ?_
      refine las rfl rfl rfl rfl rfl ?_
      refine lendF ?_
      refine awp_seq ?_
      refine xsr ?_
      refine xlz (op_load1 rfl rfl rfl rfl ty27 rfl rfl) ?_
      refine xlz (o_lenE (n := ss.length) rfl rfl rfl ty27 (by simp)) ?_
      refine lmv rfl rfl rfl rfl rfl ?_
      refine lendF ?_
      refine awp_block ?_
      refine awp_loop (fun i => ⟨94, [(42, .d (I (i : Nat))), (7, .ptr 7 0), (5, .ptr 5 0), (1, .d (reqsD needs)), (3, .ptr 3 0), (8, .d (selsD l)), (40, .d (selsD ss)), (41, .d (I ss.length))], [(7, .cells [.fn (.func 30) [] [.ptr 5 0]]), (5, .cells [.d (selsD ss)]), (3, .cells [.d (relsD x.rels), .d (.list x.ifs)])]⟩) (fun i => ss.length - i) (fun i => i ≤ ss.length) 0 ?_ ?_ ?_
      ·
       exact ent_k [] rfl rfl ((by repeat (first | exact .nil | refine xkc ?_))) (obs_cons rfl (o_eq rfl) (obs_cons rfl (o_eq rfl) (obs_cons rfl (o_eq rfl) obs_nil))) rfl
      ·
       exact Nat.zero_le _
      ·
       rintro i hi
       refine xsr ?_
       refine xlz (op_binI rfl rfl rfl rfl rfl (.inl rfl) rfl) ?_
       refine lendF ?_
       refine awp_seq ?_
       refine awp_cond rfl rfl (fun hc6 => ?_) (fun hc6 => ?_)
       ·
        obtain ⟨y, hn⟩ := rng_lt (l := ss) (by simpa using hc6)
        have hil := rng_le hn
        have hym := List.mem_of_getElem? hn
        have hyf : (findR (okR x) ⟨y.path, y.ver⟩).isSome = true := hsol.found hym
        have hyl : y ∈ l := by rw [← hl2]; exact hsol.reached hym
        have hyr : (getR x ⟨y.path, y.ver⟩).reqs.length ≤ 16 := (getR_sm hr y).2
        have hyr2 : (getR x y).reqs.length ≤ 16 := hyr
        refine awp_skip ?_
        refine awp_seq ?_
        refine awp_block ?_
        refine xsr ?_
        refine lmv rfl rfl rfl rfl rfl ?_
        refine xlz (o_ixN (i) rfl rfl rfl rfl ty27 (by first | rfl | omega | (simp; done) | (simp; omega)) hn ty54) ?_
        refine xlz (op_loadCA rfl rfl rfl ty54 rfl (xlb rfl)) ?_
        refine xlz (op_alloc rfl rfl (by decide) ty54 zk54 rfl) ?_
        refine las rfl rfl rfl rfl rfl ?_
        refine xlz (op_store rfl rfl rfl rfl rfl rfl ty54 rfl (xlb rfl)) ?_
        refine lendF ?_
        refine xsr ?_
        refine xlz (o_ldA rfl rfl rfl rfl ty25 rfl (xlb rfl) rfl) ?_
        refine xlz (op_fieldP rfl rfl rfl fl54_0) ?_
        refine xlz (op_load1 rfl rfl rfl rfl ty9 rfl rfl) ?_
        refine xlz (op_fieldP rfl rfl rfl fl54_1) ?_
        refine xlz (o_ldA rfl rfl rfl rfl ty38 rfl (xlb rfl) rfl) ?_
        refine xlz (o_call (c24 x hl hr y.path y.ver) rfl rfl rfl ca24 rfl rfl) ?_
        refine lmv rfl rfl rfl rfl rfl ?_
        refine xlz (op_extract rfl rfl rfl rfl) ?_
        refine xlz (op_extract rfl rfl rfl rfl) ?_
        refine xlz (op_alloc rfl rfl (by decide) ty40 zk40 rfl) ?_
        refine xlz (op_store rfl rfl rfl rfl rfl rfl ty40 rfl (xlb rfl)) ?_
        refine las rfl rfl rfl rfl rfl ?_
        refine lendF ?_
        refine awp_seq ?_
        refine xsr ?_
        refine lmv rfl rfl rfl rfl rfl ?_
        refine xlz (op_not rfl rfl rfl) ?_
        refine lmv rfl rfl rfl rfl rfl ?_
        refine lsplit rfl (fun hg7 => ?_) (fun hg7 => ?_)
        ·
         refine gmv hg7 rfl rfl rfl rfl rfl ?_
         refine lg (o_ldA rfl rfl rfl rfl ty54 rfl (xlb rfl) rfl) rfl hg7 rfl rfl ?_
         refine lg (o_call (c29 l y (by omega)) rfl rfl rfl ca29 rfl rfl) rfl hg7 rfl rfl ?_
         refine lg (op_not rfl rfl rfl) rfl hg7 rfl rfl ?_
         refine xlz (o_pF rfl rfl (g01 hg7) rfl rfl) ?_
         refine lendF ?_
         refine awp_cond rfl rfl (fun hc8 => ?_) (fun hc8 => ?_)
         ·
          exact absurd hc8 (by rw [decide_eq_true hyl]; decide)
         ·
          refine awp_skip ?_
          refine awp_seq ?_
          refine xsr ?_
          refine xlz (op_fieldP rfl rfl rfl fl40_2) ?_
          refine xlz (op_load1 rfl rfl rfl rfl ty26 rfl rfl) ?_
          refine xlz (op_len rfl rfl rfl ty26) ?_
          refine lmv rfl rfl rfl rfl rfl ?_
          refine lendF ?_
          refine awp_block ?_
          refine awp_loop (fun j => ⟨94, [(67, .d (I (j : Nat))), (7, .ptr 7 0), (5, .ptr 5 0), (1, .d (reqsD needs)), (3, .ptr 3 0), (8, .d (selsD l)), (9, .d (I (i : Nat))), (10, .ptr 10 0), (11, .ptr 11 0), (12, .d (.bool (findR (okR x) ⟨y.path, y.ver⟩).isSome)), (40, .d (selsD ss)), (41, .d (I ss.length)), (42, .d (I (i : Nat))), (44, .d (I (i : Nat))), (46, .d (.agg [.str y.path, I y.ver.maj, I y.ver.min, I y.ver.pat])), (47, .tup [.d (getR x ⟨y.path, y.ver⟩).d, .d (.bool (findR (okR x) ⟨y.path, y.ver⟩).isSome)]), (48, .d (.agg [relsD x.rels, .list x.ifs])), (49, .ptr 10 0), (50, .d (.str y.path)), (51, .ptr 10 1), (52, .d (.agg [I y.ver.maj, I y.ver.min, I y.ver.pat])), (53, .tup [.d (getR x ⟨y.path, y.ver⟩).d, .d (.bool (findR (okR x) ⟨y.path, y.ver⟩).isSome)]), (54, .d (getR x ⟨y.path, y.ver⟩).d), (55, .d (.bool (findR (okR x) ⟨y.path, y.ver⟩).isSome)), (56, .d (.bool (findR (okR x) ⟨y.path, y.ver⟩).isSome)), (59, .d (selsD l)), (60, .d (.agg [.str y.path, I y.ver.maj, I y.ver.min, I y.ver.pat])), (61, .d (.bool (decide (y ∈ l)))), (64, .ptr 11 4), (65, .d (reqsD (getR x y).reqs)), (66, .d (I (getR x y).reqs.length))], [(7, .cells [.fn (.func 30) [] [.ptr 5 0]]), (5, .cells [.d (selsD ss)]), (10, .cells [.d (.str y.path), .d (I y.ver.maj), .d (I y.ver.min), .d (I y.ver.pat)]), (3, .cells [.d (relsD x.rels), .d (.list x.ifs)])]⟩) (fun j => (getR x y).reqs.length - j) (fun j => j ≤ (getR x y).reqs.length) 0 ?_ ?_ ?_
          ·
           exact ent_k [] rfl rfl ((by repeat (first | exact .nil | refine xkc ?_))) (obs_cons rfl (o_eq rfl) (obs_cons rfl (o_eq rfl) (obs_cons rfl (o_eq rfl) (obs_cons rfl (o_eq rfl) obs_nil)))) rfl
          ·
           exact Nat.zero_le _
          ·
           rintro j hj
           refine xsr ?_
           refine xlz (op_binI rfl rfl rfl rfl rfl (.inl rfl) rfl) ?_
           refine lendF ?_
           refine awp_seq ?_
           refine awp_cond rfl rfl (fun hc9 => ?_) (fun hc9 => ?_)
           ·
            obtain ⟨q, hm⟩ := rng_lt (l := (getR x y).reqs) (by simpa using hc9)
            have hjl := rng_le hm
            have hqm := List.mem_of_getElem? hm
            have hqs := hsol.req hym hqm
            refine awp_skip ?_
            refine awp_seq ?_
            refine awp_block ?_
            refine xsr ?_
            refine xlz (o_ixN (j) rfl rfl rfl rfl ty26 (by first | rfl | omega | (simp; done) | (simp; omega)) hm ty51) ?_
            refine xlz (op_loadCA rfl rfl rfl ty51 rfl (xlb rfl)) ?_
            refine xlz (op_alloc rfl rfl (by decide) ty51 zk51 rfl) ?_
            refine xlz (op_store rfl rfl rfl rfl rfl rfl ty51 rfl (xlb rfl)) ?_
            refine lendF ?_
            refine xsr ?_
            refine xlz (op_load1 rfl rfl rfl rfl ty61 rfl rfl) ?_
            refine xlz (o_ldA rfl rfl rfl rfl ty51 rfl (xlb rfl) rfl) ?_
            refine xlz (o_callR [5] (c30 q ss (by omega) (by have := ((getR_sm hr y).1.reqs q hqm).set; omega)) rfl rfl rfl ca30 rfl (by decide) (handOK_cons (by decide) (by decide) rfl rfl handOK_nil) rfl) ?_
            refine xlz (op_not rfl rfl rfl) ?_
            refine lendF ?_
            refine awp_cond rfl rfl (fun hc10 => ?_) (fun hc10 => ?_)
            ·
             exact absurd hc10 (by rw [hqs]; decide)
            ·
             refine awp_skip ?_
             refine awp_region mixed ?_
             refine xlz (o_add rfl rfl rfl rfl (by first | omega | (simp; omega) | (simp at *; omega))) ?_
             refine lmv rfl rfl rfl rfl rfl ?_
             refine lendF ?_
             refine ⟨j + 1, ?_, ?_, ?_⟩
             ·
              exact rng_le hm
             ·
              exact ent_k [] rfl rfl ((by repeat (first | exact .nil | refine xkc ?_))) (obs_cons rfl (o_eq rfl) (obs_cons rfl (o_eq rfl) (obs_cons rfl (o_eq rfl) (obs_cons rfl (o_eq rfl) obs_nil)))) rfl
             ·
              omega
           ·
            obtain rfl := rng_ge (l := (getR x y).reqs) (by simpa using hc9) hj
            refine awp_exit ?_
            refine xsr ?_
            refine xlz (o_ldA rfl rfl rfl rfl ty25 rfl (xlb rfl) rfl) ?_
            refine lmv rfl rfl rfl rfl rfl ?_
            refine xlz (op_load1 rfl rfl rfl rfl ty27 rfl rfl) ?_
            refine lmv rfl rfl rfl rfl rfl ?_
            refine xlz (o_v (o_slL rfl rfl rfl ty27 ty54 (by intro d hd; obtain ⟨x, _, rfl⟩ := List.mem_map.1 hd; rfl) .none (.some rfl rfl (n := i) (by first | rfl | omega | (simp; done) | (simp; omega))) (by first | omega | (simp; omega) | (simp at *; omega)) (by simp; omega)) (show _ = PV.d (selsD (ss.take i)) from by simp [List.map_take])) ?_
            refine xlz (op_load1 rfl rfl rfl rfl ty27 rfl rfl) ?_
            refine lmv rfl rfl rfl rfl rfl ?_
            refine xlz (o_add rfl rfl rfl rfl (by first | omega | (simp; omega) | (simp at *; omega))) ?_
            refine xlz (o_v (o_slL rfl rfl rfl ty27 ty54 (by intro d hd; obtain ⟨x, _, rfl⟩ := List.mem_map.1 hd; rfl) (.some rfl rfl (n := (i + 1)) (by first | rfl | omega | (simp; done) | (simp; omega))) .none (by simp; omega) (by simp)) (show _ = PV.d (selsD (ss.drop (i + 1))) from by unfold selsD; rw [List.take_of_length_le (by simp), List.map_drop])) ?_
            refine xlz (o_bsD rfl rfl rfl rfl rfl ty128 ty27 rfl rfl) ?_
            refine xlz (o_call (c33 [ss.take i, ss.drop (i + 1)] (by simp) (by simp; omega)) rfl rfl rfl ca33 rfl rfl) ?_
            refine xlz (o_call (c15 x hl hr needs [ss.take i, ss.drop (i + 1)].flatten hqn (by omega) (by simp; omega)) rfl rfl rfl ca15 rfl rfl) ?_
            refine xlz (op_binI rfl rfl rfl rfl rfl (.inl rfl) rfl) ?_
            refine lend (fun _ => by kernel_rfl) ?_
            refine awp_cond rfl rfl (fun hc11 => ?_) (fun hc11 => ?_)
            ·
             exact absurd hc11 (by have := hsol.least (by omega) hn; simpa using this)
            ·
             refine awp_skip ?_
             refine awp_region mixed ?_
             refine xlz (o_add rfl rfl rfl rfl (by first | omega | (simp; omega) | (simp at *; omega))) ?_
             refine lmv rfl rfl rfl rfl rfl ?_
             refine lendF ?_
             refine ⟨i + 1, ?_, ?_, ?_⟩
             ·
              exact rng_le hn
             ·
              exact ent_k [] rfl rfl ((by repeat (first | exact .nil | refine xkc ?_))) (obs_cons rfl (o_eq rfl) (obs_cons rfl (o_eq rfl) (obs_cons rfl (o_eq rfl) obs_nil))) rfl
             ·
              omega
        ·
         exact absurd (g00 hg7) (by rw [hyf]; decide)
       ·
        obtain rfl := rng_ge (l := ss) (by simpa using hc6) hi
        refine awp_exit ?_
        refine xsr ?_
        refine lmv rfl rfl rfl rfl rfl ?_
        refine xlz (op_fn rfl rfl rfl rfl rfl) ?_
        refine xlz (o_callR [7, 5] (c26d needs ss hnl (by omega) (fun k hk => by have := (hqn k hk).set; omega)) rfl rfl rfl ca26 rfl (by decide) (handOK_cons (by decide) (by decide) rfl rfl (handOK_cons (by decide) (by decide) rfl rfl handOK_nil)) rfl) ?_
        refine xlz (op_not rfl rfl rfl) ?_
        refine las rfl rfl rfl rfl rfl ?_
        refine lendF ?_
        refine awp_ret ?_
        refine ⟨[_], ⟨rfl, trivial⟩, ?_⟩
        first | exact ent_d1 rfl rfl | exact ent_d1 rfl (by rw [hsol.roots]; rfl)
   ·
    iterate 3 refine lskip rfl hg3 rfl ?_
    refine xlz (o_pT rfl rfl (g00 hg3) rfl rfl) ?_
    refine lendF ?_
    refine awp_condT rfl rfl rfl ?_
    refine xsr ?_
    refine las rfl rfl rfl rfl rfl ?_
    refine lendF ?_
    refine awp_ret ?_
    refine ⟨[_], ⟨rfl, trivial⟩, ?_⟩
    first | exact ent_d1 rfl rfl | exact ent_d1 rfl (by rw [hsol.roots]; rfl)
  ·
   iterate 3 refine lskip rfl hg2 rfl ?_
   refine xlz (o_pT rfl rfl (g00 hg2) rfl rfl) ?_
   refine lmv rfl rfl rfl rfl rfl ?_
   iterate 3 refine lskip rfl rfl rfl ?_
   refine xlz (o_pT rfl rfl rfl rfl rfl) ?_
   refine lendF ?_
   refine awp_condT rfl rfl rfl ?_
   refine xsr ?_
   refine las rfl rfl rfl rfl rfl ?_
   refine lendF ?_
   refine awp_ret ?_
   refine ⟨[_], ⟨rfl, trivial⟩, ?_⟩
   first | exact ent_d1 rfl rfl | exact ent_d1 rfl (by rw [hsol.roots]; rfl)

end Go.Pm
