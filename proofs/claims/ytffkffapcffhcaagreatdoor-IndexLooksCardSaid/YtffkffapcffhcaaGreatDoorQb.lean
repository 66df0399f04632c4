/- Part 2 of a proof about the index of a registry: plain functions, and walks through the program that show that it computes them (Pm16 .. W4). Own work. -/
import Derived.Test.YtffkffapcffhcaaGreatDoorQa
import Derived.Laws.StructEq
import Derived.MapKept
import Derived.Lib.Bytealg
import Derived.Laws.BytesString
import Derived.Test.YtffkffapcffhcaaGreatDoorProg
import Derived.KernelRfl
import Derived.Shelf.SlSortCmp.WholeK
import Derived.Shelf.Lay
import Derived.Shelf.SlSortCmp.NoneTotal
set_option autoImplicit false
set_option linter.unusedVariables false
set_option linter.unusedSimpArgs false
namespace Go.Pm

def St.rd (s : St) : Operand → Option PV
  | .tmp t => s.sl t
  | .const v => some (constPV v)
  | .func f => some (.fn (.func f) [] [])
  | _ => none
theorem rd_val {s : St} {x : Operand} {p : PV} (h : s.rd x = some p) : s.val x = p := by
  cases x with
  | tmp t => simp only [St.rd] at h; simp [St.val, h]
  | const v => simp only [St.rd] at h; injection h
  | func f => simp only [St.rd] at h; injection h
  | _ => cases h

theorem wrap64 {x : Int} (h1 : -9223372036854775808 ≤ x) (h2 : x < 9223372036854775808) : IntKind.i64.wrap x = x := by
  simp [IntKind.wrap, IntKind.bits, IntKind.signed]; omega

section
variable {P : Program} {ops : Array Oper} {draw : Bool} {s0 : St} {o : Oper} {rest : List Oper} {s : St} {es : List Eff} {K : St → Prop}

theorem o_mv {x : Operand} {p : PV} (ho : o.op = .move x) (hx : s.rd x = some p) (hk : okOp x = true) : OpOK P ops o s ⟨o.dst, p, [], [], []⟩ := rd_val hx ▸ op_move ho hk
theorem o_as {x : Operand} {p : PV} (ho : o.op = .assign x) (hx : s.rd x = some p) (hk : okOp x = true) : OpOK P ops o s ⟨o.dst, p, [], [], []⟩ := rd_val hx ▸ op_assign ho hk
theorem o_pT {c x y : Operand} {b : Bool} {p : PV} (ho : o.op = .pick c x y) (hc : s.val c = .d (.bool b)) (hb : b = true) (hx : s.rd x = some p) (hk : (okOp c && okOp x && okOp y) = true) : OpOK P ops o s ⟨o.dst, p, [], [], []⟩ := rd_val hx ▸ op_pickT ho hc hb hk
theorem o_pF {c x y : Operand} {b : Bool} {p : PV} (ho : o.op = .pick c x y) (hc : s.val c = .d (.bool b)) (hb : b = false) (hy : s.rd y = some p) (hk : (okOp c && okOp x && okOp y) = true) : OpOK P ops o s ⟨o.dst, p, [], [], []⟩ := rd_val hy ▸ op_pickF ho hc hb hk
/-- Sums, differences, products that stay in 64 bits. -/
theorem o_add {xt yt : TypeId} {x y : Operand} {m n : Int} (ho : o.op = .binOp .add xt x y yt) (hx : s.val x = .d (.int .i64 m)) (hy : s.val y = .d (.int .i64 n)) (hk : (okOp x && okOp y) = true) (h : -9223372036854775808 ≤ m + n ∧ m + n < 9223372036854775808) :
    OpOK P ops o s ⟨o.dst, .d (.int .i64 (m + n)), [], [], []⟩ := by
  simp only [Bool.and_eq_true] at hk
  have := op_binI (P := P) (ops := ops) ho hx hy hk.1 hk.2 (.inl rfl) (d := .int .i64 (m + n)) (by simp only [binI, wrap64 h.1 h.2])
  exact this
theorem o_sub {xt yt : TypeId} {x y : Operand} {m n : Int} (ho : o.op = .binOp .sub xt x y yt) (hx : s.val x = .d (.int .i64 m)) (hy : s.val y = .d (.int .i64 n)) (hk : (okOp x && okOp y) = true) (h : -9223372036854775808 ≤ m - n ∧ m - n < 9223372036854775808) :
    OpOK P ops o s ⟨o.dst, .d (.int .i64 (m - n)), [], [], []⟩ := by
  simp only [Bool.and_eq_true] at hk
  have := op_binI (P := P) (ops := ops) ho hx hy hk.1 hk.2 (.inl rfl) (d := .int .i64 (m - n)) (by simp only [binI, wrap64 h.1 h.2])
  exact this
theorem o_mul {xt yt : TypeId} {x y : Operand} {m n : Int} (ho : o.op = .binOp .mul xt x y yt) (hx : s.val x = .d (.int .i64 m)) (hy : s.val y = .d (.int .i64 n)) (hk : (okOp x && okOp y) = true) (h : -9223372036854775808 ≤ m * n ∧ m * n < 9223372036854775808) :
    OpOK P ops o s ⟨o.dst, .d (.int .i64 (m * n)), [], [], []⟩ := by
  simp only [Bool.and_eq_true] at hk
  have := op_binI (P := P) (ops := ops) ho hx hy hk.1 hk.2 (.inl rfl) (d := .int .i64 (m * n)) (by simp only [binI, wrap64 h.1 h.2])
  exact this
/-- An index into a list that is told as the image of another one. -/
theorem o_ixM {α : Type} {f : α → D} {l : List α} {r : α} {x i : Operand} {t e : TypeId} {k : IntKind} {n : Nat} {rr : Option (Nat × Nat × Option Value)} {u : Option TK} {bs : Nat} {z : Option Value}
    (ho : o.op = .indexAddr t x i) (hx : listD (s.val x) = some (l.map f)) (hi : s.val i = .d (.int k n)) (hn : l[n]? = some r) (hk : (okOp x && okOp i) = true)
    (ht : tyF P t = (some (.slice e), rr)) (he : tyF P e = (u, some ((f r).cells.length, bs, z))) : OpOK P ops o s ⟨o.dst, .cptr (f r).cells, [], [], []⟩ := by
  simp only [Bool.and_eq_true] at hk
  exact op_indexL ho hx hi (by simp [hn]) hk.1 hk.2 ht he
/-- A load that gives data. -/
theorem o_ldA {t : TypeId} {x : Operand} {r : Nat} {q sz bs : Nat} {cs : List PV} {ds : List D} {u : TK} {z : Option Value} (ho : o.op = .load t x) (hx : s.val x = .ptr r q) (hkx : okOp x = true) (hob : s.ob r = some (.cells cs))
    (ht : tyF P t = (some u, some (sz, bs, z))) (ha : aggT u = true) (hl : q + sz ≤ cs.length) (hd : toDs ((cs.drop q).take sz) = some ds) : OpOK P ops o s ⟨o.dst, .d (.agg ds), [r], [], []⟩ := by
  have := op_loadA (P := P) (ops := ops) ho hx hkx hob ht ha hl
  rwa [show joinP ((cs.drop q).take sz) = .d (.agg ds) from by simp only [joinP, hd]] at this

/-! ### Guards -/
theorem lsplit {b : Bool} (h0 : s.want ops o = some b) (hT : b = true → Lex P ops draw s0 (o :: rest) s es K) (hF : b = false → Lex P ops draw s0 (o :: rest) s es K) : Lex P ops draw s0 (o :: rest) s es K := by
  cases b with
  | true => exact hT rfl
  | false => exact hF rfl

/-! ### Building a struct or an array -/
def blF (P : Program) (t : TypeId) : Option (List (Nat × Nat)) := match P.info? t, P.underlying t with
  | some it, some (.array n e) => match it.zero, P.info? e with
    | some _, some ie => some ((List.range n).map fun i => (i * ie.size, ie.size))
    | _, _ => none
  | some it, some (.struct fields) => match it.zero, fields.toList.mapM (fun f => (P.info? f.type).map fun i => (f.offset, i.size)) with
    | some _, some places => some places
    | _, _ => none
  | _, _ => none

theorem fill_congr {p q : Nat → Option (Nat × Nat)} : ∀ (parts : List (Nat × Value)) (A : Array Value), (∀ e ∈ parts, p e.1 = q e.1) → Instr.fill p A parts = Instr.fill q A parts
  | [], A, _ => rfl
  | (i, v) :: r, A, h => by
    unfold Instr.fill
    rw [h (i, v) List.mem_cons_self]
    cases q i with
    | none => rfl
    | some e =>
      obtain ⟨off, size⟩ := e
      simp only
      split
      · rfl
      · exact fill_congr r _ (fun e he => h e (List.mem_cons_of_mem _ he))

theorem built_of {P : Program} {t : TypeId} {pl : List (Nat × Nat)} {u : Option TK} {sz bs : Nat} {zv : Value} (hb : blF P t = some pl) (ht : tyF P t = (u, some (sz, bs, some zv))) {parts : List (Nat × Value)} (hp : ∀ e ∈ parts, e.1 < pl.length) :
    P.built t parts = Instr.fill (pl[·]?) zv.cells parts := by
  obtain ⟨i, hi, _, _, hz⟩ := tyF_info ht
  unfold blF at hb
  unfold Program.built
  rw [hi] at hb ⊢
  cases hu : P.underlying t with
  | none => simp [hu] at hb
  | some d =>
    cases d <;> try (simp [hu] at hb; done)
    case array n e =>
      cases hie : P.info? e with
      | none => simp [hu, hz, hie] at hb
      | some ie =>
        simp only [hu, hz, hie] at hb ⊢
        injection hb with hb; subst hb
        refine fill_congr parts _ fun e he => ?_
        have := hp e he
        simp at this
        simp [this]
    case struct fields =>
      cases hm : fields.toList.mapM (fun f => (P.info? f.type).map fun i => (f.offset, i.size)) with
      | none => simp [hu, hz, hm] at hb
      | some places =>
        simp only [hu, hz, hm] at hb ⊢
        injection hb with hb; subst hb
        refine fill_congr parts _ fun e he => ?_
        simp

def fillP (pl : List (Nat × Nat)) (cs : List PV) : List (Nat × List PV) → Option (List PV)
  | [] => some cs
  | (i, news) :: r => match pl[i]? with
    | some (off, size) => if news.length = size ∧ off + size ≤ cs.length then fillP pl (wr cs off news) r else none
    | none => none
def partsP (s : St) : List (Nat × Operand) → Option (List (Nat × List PV))
  | [] => some []
  | (i, x) :: r => match cellsP (s.val x), partsP s r with
    | some cs, some q => some ((i, cs) :: q)
    | _, _ => none

/-- A row of values, told. -/
def Row (g : Gh) (M : Nat → Nat → Prop) (w : World) (cs : List PV) (A : Array Value) : Prop := A.size = cs.length ∧ ∀ (j : Nat) (p : PV), cs[j]? = some p → ∃ u, A[j]? = some u ∧ u.oneCell' = true ∧ VRel g M w p u

theorem fill_rel {g : Gh} {M : Nat → Nat → Prop} {w : World} {pl : List (Nat × Nat)} {f : Operand → Value} : ∀ {parts : List (Nat × Operand)} {news : List (Nat × List PV)} {cs cs' : List PV} {A : Array Value}, partsP s parts = some news → fillP pl cs news = some cs' → Row g M w cs A →
    (∀ e ∈ parts, VRel g M w (s.val e.2) (f e.2)) → ∃ B, Instr.fill (pl[·]?) A (parts.map fun e => (e.1, f e.2)) = some B ∧ Row g M w cs' B ∧ ∀ e ∈ parts, e.1 < pl.length
  | [], news, cs, cs', A, hp, hf, hA, hv => by
    simp only [partsP] at hp; injection hp with hp; subst hp
    simp only [fillP] at hf; injection hf with hf; subst hf
    exact ⟨A, rfl, hA, by simp⟩
  | (i, x) :: r, news, cs, cs', A, hp, hf, hA, hv => by
    simp only [partsP] at hp
    cases hc : cellsP (s.val x) with
    | none => simp [hc] at hp
    | some cx =>
      cases hq : partsP s r with
      | none => simp [hc, hq] at hp
      | some q =>
        simp only [hc, hq] at hp; injection hp with hp; subst hp
        simp only [fillP] at hf
        cases hpi : pl[i]? with
        | none => simp [hpi] at hf
        | some e =>
          obtain ⟨off, size⟩ := e
          simp only [hpi] at hf
          by_cases hcond : cx.length = size ∧ off + size ≤ cs.length
          · rw [if_pos hcond] at hf
            obtain ⟨hlx, hcx⟩ := cellsP_rel hc (hv (i, x) List.mem_cons_self)
            obtain ⟨hAs, hAv⟩ := hA
            have hstep : Instr.fill (pl[·]?) A (((i, x) :: r).map fun e => (e.1, f e.2)) = Instr.fill (pl[·]?) ((f x).cells.zipIdx.foldl (fun cs (c, j) => cs.setIfInBounds (off + j) c) A) (r.map fun e => (e.1, f e.2)) := by
              simp only [List.map_cons]
              conv => lhs; unfold Instr.fill
              simp only [hpi]
              rw [if_neg]
              simp [hlx, hcond.1, hAs]; omega
            have hrow : Row g M w (wr cs off cx) ((f x).cells.zipIdx.foldl (fun cs (c, j) => cs.setIfInBounds (off + j) c) A) := by
              refine ⟨by rw [fold_arr, fold_size, hAs, wr_length], fun j p hj => ?_⟩
              rw [wr_get cx cs off j (by omega)] at hj
              rw [fold_arr, fold_get off _ 0 A j (by simp [hlx, hcond.1, hAs]; omega)]
              simp only [Nat.add_zero, Array.length_toList, hlx]
              by_cases hjj : off ≤ j ∧ j < off + cx.length
              · rw [if_pos hjj] at hj ⊢
                obtain ⟨u, e1, e2, e3⟩ := hcx _ p hj
                exact ⟨u, by simpa using e1, e2, e3⟩
              · rw [if_neg hjj] at hj ⊢
                exact hAv j p hj
            obtain ⟨B, h1, h2, h3⟩ := fill_rel hq hf hrow (fun e he => hv e (List.mem_cons_of_mem _ he))
            refine ⟨B, by rw [hstep]; exact h1, h2, fun e he => ?_⟩
            rcases List.mem_cons.1 he with rfl | he
            · exact (List.getElem?_eq_some_iff.1 hpi).1
            · exact h3 e he
          · rw [if_neg hcond] at hf; cases hf

theorem op_buildR {t : TypeId} {parts : Array (Nat × Operand)} {news : List (Nat × List PV)} {zs cs' : List PV} {pl : List (Nat × Nat)} {u : Option TK} {sz bs : Nat} {zv : Value} (ho : o.op = .build t parts) (hp : partsP s parts.toList = some news) (hk : (parts.toList.all fun e => okOp e.2) = true)
    (hb : blF P t = some pl) (ht : tyF P t = (u, some (sz, bs, some zv))) (hz : cellsP (rawPV zv) = some zs) (hzk : constOK zv = true) (hf : fillP pl zs news = some cs') {E : Env} {g : Gh} {s1 : St} {a : Act} {w : World} (hr : Rel E g s1 a w) (hv : ∀ x ∈ o.op.operands, s1.val x = s.val x) :
    ∃ B, (execOp a.eval o).run P w = .ok (.value (.agg B)) w ∧ Row g (MM E g s1) w cs' B := by
  obtain ⟨hzl, hzv⟩ := cellsP_rel hz (rawPV_rel (g := g) (w := w) (MM E g s1) zv hzk)
  obtain ⟨B, h1, h2, h3⟩ := fill_rel (g := g) (M := MM E g s1) (w := w) (f := a.eval) hp hf ⟨hzl, hzv⟩ (fun e he => by
    refine eval_of hr hv ?_ (List.all_eq_true.1 hk e he) rfl
    rw [ho]
    simp only [Op.operands]
    simp only [List.mem_toArray, List.mem_map, Array.mem_map]
    exact ⟨e, by simpa using he, rfl⟩)
  refine ⟨B, ?_, h2⟩
  have hbuilt := run_build (P := P) w t (parts.map fun e => (e.1, a.eval e.2)) B (by
    rw [Array.toList_map, built_of hb ht]
    · exact h1
    · intro e he
      obtain ⟨e', he', rfl⟩ := List.mem_map.1 he
      exact h3 e' he')
  unfold execOp
  rw [ho]
  simp only [Sem.run_bind, Result.andThen_ok, Sem.run_pure]
  rw [show (parts.map fun (i, x) => (i, a.eval x)) = parts.map fun e => (e.1, a.eval e.2) from rfl, hbuilt]
  rfl

theorem toDs_spec' : ∀ {ps : List PV} {xs : List D}, toDs ps = some xs → xs.length = ps.length ∧ (∀ x ∈ xs, x.one = true) ∧ ∀ (j : Nat) (x : D), xs[j]? = some x → ∃ p, ps[j]? = some p ∧ toD p = some x
  | [], xs, h => by simp only [toDs] at h; injection h with h; subst h; exact ⟨rfl, by simp, by simp⟩
  | p :: r, xs, h => by
    simp only [toDs] at h
    cases h1 : toD p with
    | none => simp [h1] at h
    | some x =>
      cases h2 : toDs r with
      | none => simp [h1, h2] at h
      | some ys =>
        simp only [h1, h2] at h
        by_cases ho : x.one = true
        · rw [if_pos ho] at h; injection h with h; subst h
          obtain ⟨i1, i2, i3⟩ := toDs_spec' h2
          refine ⟨by simp [i1], fun y hy => ?_, fun j y hj => ?_⟩
          · rcases List.mem_cons.1 hy with rfl | hy
            · exact ho
            · exact i2 y hy
          · cases j with
            | zero => simp at hj; subst hj; exact ⟨p, by simp, h1⟩
            | succ j => obtain ⟨q, e1, e2⟩ := i3 j y (by simpa using hj); exact ⟨q, by simpa using e1, e2⟩
        · rw [if_neg ho] at h; cases h

theorem o_bld {t : TypeId} {parts : Array (Nat × Operand)} {news : List (Nat × List PV)} {zs cs' : List PV} {ds : List D} {pl : List (Nat × Nat)} {u : Option TK} {sz bs : Nat} {zv : Value} (ho : o.op = .build t parts) (hp : partsP s parts.toList = some news) (hk : (parts.toList.all fun e => okOp e.2) = true)
    (hb : blF P t = some pl) (ht : tyF P t = (u, some (sz, bs, some zv))) (hz : cellsP (rawPV zv) = some zs) (hzk : constOK zv = true) (hf : fillP pl zs news = some cs') (hd : toDs cs' = some ds) : OpOK P ops o s ⟨o.dst, .d (.agg ds), [], [], []⟩ :=
  op_val fun s1 hv _ E g a w hr => by
    obtain ⟨B, h1, h2, h3⟩ := op_buildR ho hp hk hb ht hz hzk hf hr hv
    obtain ⟨e1, e2, e3⟩ := toDs_spec' hd
    refine ⟨_, h1, .d ?_⟩
    have := Den.agg (M := MM E g s1) (w := w) ds B.toList (by simp [e1, h2]) e2 (fun j x hj v hjv => by
      obtain ⟨p, hp1, hp2⟩ := e3 j x hj
      obtain ⟨u', e4, _, e5⟩ := h3 j p hp1
      have : B[j]? = some v := by simpa using hjv
      rw [e4] at this; injection this with this; subst this
      exact toD_den hp2 e5)
    simpa using this

theorem o_bldP {t : TypeId} {parts : Array (Nat × Operand)} {news : List (Nat × List PV)} {zs cs' : List PV} {pl : List (Nat × Nat)} {u : Option TK} {sz bs : Nat} {zv : Value} (ho : o.op = .build t parts) (hp : partsP s parts.toList = some news) (hk : (parts.toList.all fun e => okOp e.2) = true)
    (hb : blF P t = some pl) (ht : tyF P t = (u, some (sz, bs, some zv))) (hz : cellsP (rawPV zv) = some zs) (hzk : constOK zv = true) (hf : fillP pl zs news = some cs') : OpOK P ops o s ⟨o.dst, .agg cs', [], [], []⟩ :=
  op_val fun s1 hv _ E g a w hr => by
    obtain ⟨B, h1, h2, h3⟩ := op_buildR ho hp hk hb ht hz hzk hf hr hv
    refine ⟨_, h1, ?_⟩
    have := VRel.agg (g := g) (M := MM E g s1) (w := w) (cs := cs') (vs := B.toList) (by simp [h2]) (fun v hv => by
      obtain ⟨j, hj⟩ := List.mem_iff_getElem?.1 hv
      have hjl : j < cs'.length := by have := (List.getElem?_eq_some_iff.1 hj).1; simp at this; omega
      obtain ⟨u', e4, e5, _⟩ := h3 j _ (List.getElem?_eq_getElem hjl)
      have : B[j]? = some v := by simpa using hj
      rw [e4] at this; injection this with this; subst this; exact e5) (fun j p hj v hjv => by
      obtain ⟨u', e4, _, e5⟩ := h3 j p hj
      have : B[j]? = some v := by simpa using hjv
      rw [e4] at this; injection this with this; subst this; exact e5)
    simpa using this
end
end Go.Pm

namespace Go.Pm

def ras : List (Nat × Nat) → Nat → Nat
  | [], x => x
  | (y, z) :: r, x => if y = x then z else ras r x
theorem ras_big : ∀ {l : List (Nat × Nat)}, (l.all fun e => decide (e.1 < 1000000)) = true → ∀ x, 1000000 ≤ x → ras l x = x
  | [], _, x, _ => rfl
  | (y, z) :: r, h, x, hx => by
    simp only [List.all_cons, Bool.and_eq_true, decide_eq_true_eq] at h
    simp only [ras]
    rw [if_neg (by have := h.1; omega)]
    exact ras_big h.2 x hx

inductive KS (ρ : Nat → Nat) (s : St) : List (Nat × PV) → Prop
  | nil : KS ρ s []
  | cons {i : Nat} {p q : PV} {l : List (Nat × PV)} (h : s.sl i = some p) (hle : Le ρ p q) (t : KS ρ s l) : KS ρ s ((i, q) :: l)
theorem KS.get {ρ : Nat → Nat} {s : St} : ∀ {l : List (Nat × PV)}, KS ρ s l → ∀ i q, lookS l i = some q → ∃ p, s.sl i = some p ∧ Le ρ p q
  | _, .nil, i, q, h => by cases h
  | _, .cons (i := j) h hle t, i, q, hi => by
    simp only [lookS] at hi
    by_cases hij : j = i
    · rw [if_pos hij] at hi; injection hi with hi; subst hi; subst hij; exact ⟨_, h, hle⟩
    · rw [if_neg hij] at hi; exact KS.get t i q hi
theorem k_eq {ρ : Nat → Nat} {p q : PV} (h : p = q.ren ρ) : Le ρ p q := h ▸ .same q
theorem k_d {ρ : Nat → Nat} {x y : D} (h : x = y) : Le ρ (.d x) (.d y) := h ▸ .same (.d x)
theorem k_i {ρ : Nat → Nat} {k : IntKind} {x y : Int} (h : x = y) : Le ρ (.d (.int k x)) (.d (.int k y)) := h ▸ .same (.d (.int k x))

def nodB (l : List (Nat × Nat)) (O : List (Nat × Ob)) : Bool := O.all fun e => O.all fun f => e.1 == f.1 || ras l e.1 != ras l f.1

theorem ent_k {s : St} {n : Nat} {S : List (Nat × PV)} {O : List (Nat × Ob)} (l : List (Nat × Nat)) (hn : n = s.n) (hl : (l.all fun e => decide (e.1 < 1000000)) = true) (hs : KS (ras l) s S) (ho : ObsOK (ras l) s O) (hnd : nodB l O = true) : Ent s ⟨n, S, O⟩ := by
  refine ent_of (ras l) hn (fun i q hi => hs.get i q hi) ho (fun x y ob ob' hx hy h => ?_) (ras_big hl)
  simp only [nodB, List.all_eq_true, Bool.or_eq_true, beq_iff_eq, bne_iff_ne] at hnd
  rcases hnd _ (look_mem hx) _ (look_mem hy) with h1 | h1
  · exact h1
  · exact absurd h h1

/-- The same, nothing renamed: for leaving out what is not asked for. -/
theorem ent_id {s : St} {n : Nat} {S : List (Nat × PV)} {O : List (Nat × Ob)} (hn : n = s.n) (hs : KS (ras []) s S) (ho : ObsOK (ras []) s O) (hnd : nodB [] O = true) : Ent s ⟨n, S, O⟩ := ent_k [] hn rfl hs ho hnd

/-- A list without room behind it is given a (void) tail, so that it may be appended to as one that was. -/
theorem ent_tail {s : St} (i : Nat) {p : PV} {ds : List D} (X sz : Nat) (hp : s.sl i = some p) (hb : baseOf p = some (ds, none)) (hX : s.fresh X = true) (h6 : X < 1000000) : Ent s ⟨s.n, (i, .tl ds (some X)) :: s.slots, (X, .tail sz) :: s.objs⟩ := by
  intro E g a w hr
  have hfr := fresh_of hX
  obtain ⟨v, hv1, hv2⟩ := hr.slots i p hp
  obtain ⟨b, n, rfl, hden⟩ : ∃ b n, v = .slice b n n ∧ Den (MM E g s) w (.list ds) v := by
    cases p with
    | nils => simp only [baseOf] at hb; injection hb with hb; injection hb with h1 _; subst h1; cases hv2; exact ⟨none, 0, rfl, .nil⟩
    | tl ds' r =>
      simp only [baseOf] at hb; injection hb with hb; injection hb with h1 h2; subst h1; subst h2
      cases hv2 with
      | full h => exact ⟨_, _, rfl, h⟩
    | _ => cases hb
  have hobs : ∀ y, (⟨s.n, s.slots, (X, .tail sz) :: s.objs⟩ : St).ob y = if X = y then some (.tail sz) else s.ob y := fun y => rfl
  have hM : ∀ b' q, MM E (g.put X none (some (.slice b n n))) ⟨s.n, s.slots, (X, .tail sz) :: s.objs⟩ b' q → MM E g s b' q := by
    rintro b' q (h | ⟨y, ob, hy, hm⟩)
    · exact .inl h
    · rw [hobs] at hy
      by_cases hyX : X = y
      · subst hyX
        rw [if_pos rfl] at hy; injection hy with hy; subst hy
        obtain ⟨n', c', o0, e1, e2, e3⟩ := hm
        simp only [Gh.put, if_pos rfl] at e1
        injection e1 with e1; injection e1 with _ e5 e6
        omega
      · rw [if_neg hyX] at hy
        refine .inr ⟨y, ob, hy, ?_⟩
        rw [← mutAt_same (gc := g.put X none (some (.slice b n n))) (g := g) ⟨by simp [Gh.put, Ne.symm hyX], by simp [Gh.put, Ne.symm hyX]⟩]; exact hm
  have h1 : Rel E (g.put X none (some (.slice b n n))) ⟨s.n, s.slots, (X, .tail sz) :: s.objs⟩ a w := by
    refine Rel.swap hr X X hfr h6 _ _ rfl rfl (fun y h1 _ => by rw [hobs, if_neg (Ne.symm h1)]) (fun h => absurd rfl h) (fun b' q _ => hM b' q) (Same.refl _ _) (fun _ _ _ _ _ _ _ => rfl) (fun ob hob => ?_) (fun b' h => by cases h) hr.fr (Nat.le_refl _)
    rw [hobs, if_pos rfl] at hob; injection hob with hob; subst hob
    exact .full (a := b) (n := n) (by simp [Gh.put]) (by simp [Gh.put])
  refine ⟨_, h1.size, h1.defers, fun j q hj => ?_, h1.objs, h1.inj, h1.own, h1.fr, h1.av, h1.keep⟩
  have hj' : (if i = j then some (PV.tl ds (some X)) else s.sl j) = some q := hj
  by_cases hij : i = j
  · subst hij
    rw [if_pos rfl] at hj'; injection hj' with hj'; subst hj'
    exact ⟨_, hv1, .tail (hden.mono (Same.refl _ _) fun b' q _ h => hM b' q h) (by simp [Gh.put])⟩
  · rw [if_neg hij] at hj'
    exact h1.slots j q hj'

end Go.Pm

namespace Go.Pm

inductive EK where
  | bool | int (k : IntKind) | str
  deriving DecidableEq
def ekm : EK → D → Bool
  | .bool, .bool _ => true
  | .int k, .int k' _ => k == k'
  | .str, .str _ => true
  | _, _ => false
def ekms : List EK → List D → Bool
  | [], [] => true
  | k :: ks, d :: ds => ekm k d && ekms ks ds
  | _, _ => false
def eqD : D → D → Bool
  | .bool a, .bool b => a == b
  | .int _ a, .int _ b => a == b
  | .str a, .str b => a == b
  | _, _ => false
def eqDs : List D → List D → Bool
  | [], [] => true
  | a :: ar, b :: br => eqD a b && eqDs ar br
  | _, _ => false

theorem ekms_length : ∀ {ks : List EK} {ds : List D}, ekms ks ds = true → ds.length = ks.length
  | [], [], _ => rfl
  | k :: ks, d :: ds, h => by simp only [ekms, Bool.and_eq_true] at h; simp [ekms_length h.2]
theorem ekms_one {k : EK} : ∀ {ds : List D}, ekms [k] ds = true → ∃ d, ds = [d] ∧ ekm k d = true
  | [d], h => ⟨d, rfl, by simpa [ekms] using h⟩
  | [], h => by simp [ekms] at h
  | _ :: _ :: _, h => by simp [ekms] at h
theorem ekm_bool {d : D} (h : ekm .bool d = true) : ∃ b, d = .bool b := by cases d <;> first | exact ⟨_, rfl⟩ | cases h
theorem ekm_str {d : D} (h : ekm .str d = true) : ∃ b, d = .str b := by cases d <;> first | exact ⟨_, rfl⟩ | cases h
theorem ekm_int {k : IntKind} {d : D} (h : ekm (.int k) d = true) : ∃ n, d = .int k n := by
  cases d <;> first | (rename_i k' n; have : k = k' := by simpa [ekm] using h
                       subst this; exact ⟨_, rfl⟩) | cases h
theorem ekms_append : ∀ {ks ls : List EK} {ds : List D}, ekms (ks ++ ls) ds = true → ekms ks (ds.take ks.length) = true ∧ ekms ls (ds.drop ks.length) = true
  | [], ls, ds, h => ⟨by simp [ekms], by simpa using h⟩
  | k :: ks, ls, [], h => by simp [ekms] at h
  | k :: ks, ls, d :: ds, h => by
    simp only [List.cons_append, ekms, Bool.and_eq_true] at h
    obtain ⟨h1, h2⟩ := ekms_append h.2
    exact ⟨by simp [ekms, h.1, h1], by simpa using h2⟩
theorem eqDs_split : ∀ (n : Nat) {ds es : List D}, ds.length = es.length → eqDs ds es = (eqDs (ds.take n) (es.take n) && eqDs (ds.drop n) (es.drop n))
  | 0, ds, es, h => by simp [eqDs]
  | n + 1, [], [], h => by simp [eqDs]
  | n + 1, d :: ds, e :: es, h => by
    simp only [List.length_cons, Nat.add_right_cancel_iff] at h
    simp only [List.take_succ_cons, List.drop_succ_cons, eqDs, Bool.and_assoc, eqDs_split n h]
  | n + 1, [], e :: es, h => by simp at h
  | n + 1, d :: ds, [], h => by simp at h

/-- The kinds of the cells of a type whose values are told apart cell by cell, from an offset on. -/
def eqGo (f : TypeId → Option (List EK)) : List Field → Nat → Option (List EK)
  | [], _ => some []
  | fd :: fs, off => if fd.name = "_" ∨ fd.offset ≠ off then none else match f fd.type with
    | some ks => match eqGo f fs (off + ks.length) with
      | some ls => some (ks ++ ls)
      | none => none
    | none => none
def eqSh (P : Program) : Nat → TypeId → Option (List EK)
  | 0, _ => none
  | n + 1, t => match P.underlying t, P.info? t with
    | some (.int k), some i => if i.size = 1 then some [.int k] else none
    | some .bool, some i => if i.size = 1 then some [.bool] else none
    | some .string, some i => if i.size = 1 then some [.str] else none
    | some (.struct fs), some i => if P.stoodInHeld t then none else match eqGo (eqSh P n) fs.toList 0 with
      | some ks => if ks.length = i.size then some ks else none
      | none => none
    | _, _ => none

/-- A plain cell's value. -/
def D.pv : D → Value
  | .bool b => .bool b
  | .int k n => .int k n
  | .str s => .string ⟨s.toArray⟩
  | _ => undef
theorem ekm_pv {k : EK} {d : D} (h : ekm k d = true) {M : Nat → Nat → Prop} {w : World} {v : Value} (hd : Den M w d v) : v = d.pv := by
  cases k <;> cases d <;> simp only [ekm] at h <;> first | (cases h; done) | (cases hd; rfl)
theorem ekms_pv {M : Nat → Nat → Prop} {w : World} : ∀ {ks : List EK} {ds : List D} {vs : List Value}, ekms ks ds = true → vs.length = ds.length → (∀ (j : Nat) (x : D), ds[j]? = some x → ∀ (v : Value), vs[j]? = some v → Den M w x v) → vs = ds.map D.pv
  | [], [], [], _, _, _ => rfl
  | k :: ks, d :: ds, v :: vs, h, hl, hv => by
    simp only [ekms, Bool.and_eq_true] at h
    simp only [List.length_cons, Nat.add_right_cancel_iff] at hl
    rw [List.map_cons, ekm_pv h.1 (hv 0 d rfl v rfl), ekms_pv h.2 hl fun j x hx u hu => hv (j + 1) x (by simpa using hx) u (by simpa using hu)]
  | [], [], v :: vs, _, hl, _ => by simp at hl
  | k :: ks, [], _, h, _, _ => by simp [ekms] at h
  | k :: ks, d :: ds, [], _, hl, _ => by simp at hl
  | [], d :: ds, _, h, _, _ => by simp [ekms] at h

theorem mk_beq (l m : Bytes) : ((⟨l.toArray⟩ : ByteArray) == ⟨m.toArray⟩) = (l == m) := by
  rw [beq_toListBytes, ByteArray.toList_eq, ByteArray.toList_eq]

section
variable {P : Program}

theorem part_agg {t : TypeId} {i : TypeInfo} (w : World) (cs : Array Value) (off : Nat) {fs : Array Field} (hu : P.underlying t = some (.struct fs)) (hi : P.info? t = some i) : (part t cs off).run P w = .ok (.agg (cs.extract off (off + i.size))) w := by
  have hagg : (isAgg t).run P w = .ok true w := by simp [isAgg, run_underlying hu]
  simp [part, hagg, sizeOf, typeInfo, hi]

/-- What a value of such a type is, out of its cells. -/
def mkV (P : Program) (t : TypeId) (xs : List Value) : Value := match P.underlying t with
  | some (.struct _) => .agg xs.toArray
  | _ => xs.headD undef

theorem part_mk {n : Nat} {t : TypeId} {ks : List EK} (h : eqSh P n t = some ks) (w : World) (xs : List Value) (off : Nat) (hl : off + ks.length ≤ xs.length) : (part t xs.toArray off).run P w = .ok (mkV P t ((xs.drop off).take ks.length)) w := by
  cases n with
  | zero => simp [eqSh] at h
  | succ n =>
    unfold eqSh at h
    cases hu : P.underlying t with
    | none => simp [hu] at h
    | some dsc =>
      cases hi : P.info? t with
      | none => simp [hu, hi] at h
      | some i =>
        have one : ks.length = 1 → (isAgg t).run P w = .ok false w → (∀ fs, dsc ≠ .struct fs) → (part t xs.toArray off).run P w = .ok (mkV P t ((xs.drop off).take ks.length)) w := by
          intro h1 h2 h3
          have hlt : off < xs.length := by omega
          have hmk : mkV P t ((xs.drop off).take ks.length) = xs[off] := by
            unfold mkV
            rw [hu]
            cases dsc <;> first | (exact absurd rfl (h3 _)) | (simp only [h1]; rw [List.take_one]; simp [List.head?_drop, List.getElem?_eq_getElem hlt])
          rw [hmk]
          simp [part, h2, hlt]
        cases dsc <;> try (simp [hu, hi] at h; done)
        case bool =>
          simp only [hu, hi] at h
          split at h
          · injection h with h; subst h; exact one rfl (by simp [isAgg, run_underlying hu]) (by simp)
          · cases h
        case int k =>
          simp only [hu, hi] at h
          split at h
          · injection h with h; subst h; exact one rfl (by simp [isAgg, run_underlying hu]) (by simp)
          · cases h
        case string =>
          simp only [hu, hi] at h
          split at h
          · injection h with h; subst h; exact one rfl (by simp [isAgg, run_underlying hu]) (by simp)
          · cases h
        case struct fs =>
          simp only [hu, hi] at h
          split at h
          · cases h
          · split at h
            · split at h
              · rename_i ks' hgo hks
                injection h with h; subst h
                rw [part_agg w _ _ hu hi]
                congr 1
                unfold mkV
                rw [hu]
                simp only [hks]
                congr 1
                simp [List.extract_eq_take_drop, Nat.add_sub_cancel_left]
              · cases h
            · cases h

theorem eqFields_run {n dep : Nat} (ih : ∀ t ks, eqSh P n t = some ks → ∀ (w : World) (ax bs : List D), ekms ks ax = true → ekms ks bs = true → (Op.equalIn dep t (mkV P t (ax.map D.pv)) (mkV P t (bs.map D.pv))).run P w = .ok (eqDs ax bs) w) :
    ∀ (fs : List Field) (off : Nat) (ks : List EK), eqGo (eqSh P n) fs off = some ks → ∀ (w : World) (ax bs : List D), ekms ks (ax.drop off) = true → ekms ks (bs.drop off) = true →
      off ≤ ax.length → off ≤ bs.length → (Op.eqFields dep (ax.map D.pv).toArray (bs.map D.pv).toArray fs).run P w = .ok (eqDs (ax.drop off) (bs.drop off)) w
  | [], off, ks, h, w, ax, bs, ha, hb, oa, ob => by
    simp only [eqGo] at h; injection h with h; subst h
    have h1 := ekms_length ha
    have h2 := ekms_length hb
    rw [List.eq_nil_of_length_eq_zero h1, List.eq_nil_of_length_eq_zero h2]
    simp [Op.eqFields, eqDs]
  | f :: fs, off, ks, h, w, ax, bs, ha, hb, oa, ob => by
    simp only [eqGo] at h
    by_cases hf : f.name = "_" ∨ f.offset ≠ off
    · rw [if_pos hf] at h; cases h
    · rw [if_neg hf] at h
      have hname : f.name ≠ "_" := fun e => hf (.inl e)
      have hoff : f.offset = off := by
        by_cases e : f.offset = off
        · exact e
        · exact absurd (.inr e) hf
      cases h1 : eqSh P n f.type with
      | none => simp [h1] at h
      | some k1 =>
        cases h2 : eqGo (eqSh P n) fs (off + k1.length) with
        | none => simp [h1, h2] at h
        | some k2 =>
          simp only [h1, h2] at h; injection h with h; subst h
          obtain ⟨a1, a2⟩ := ekms_append ha
          obtain ⟨b1, b2⟩ := ekms_append hb
          rw [List.drop_drop] at a2 b2
          have la := ekms_length ha
          have lb := ekms_length hb
          simp only [List.length_drop, List.length_append] at la lb
          have hk1 : k1.length = ((ax.drop off).take k1.length).length := (ekms_length a1).symm
          have hk2 : k1.length = ((bs.drop off).take k1.length).length := (ekms_length b1).symm
          have pa := part_mk h1 w (ax.map D.pv) off (by simp; omega)
          have pb := part_mk h1 w (bs.map D.pv) off (by simp; omega)
          rw [← List.map_drop, ← List.map_take] at pa pb
          simp only [Op.eqFields, if_pos hname, hoff, Sem.run_bind, pa, pb, Result.andThen_ok, ih f.type k1 h1 w _ _ a1 b1]
          rw [eqDs_split k1.length (ds := ax.drop off) (es := bs.drop off) (by simp; omega), List.drop_drop, List.drop_drop]
          cases eqDs ((ax.drop off).take k1.length) ((bs.drop off).take k1.length) with
          | false => simp
          | true =>
            simp only [Bool.not_true, Bool.false_eq_true, if_false, Bool.true_and]
            exact eqFields_run ih fs _ k2 h2 w ax bs a2 b2 (by omega) (by omega)

theorem eq_run : ∀ (n : Nat) (t : TypeId) (ks : List EK), eqSh P n t = some ks → ∀ (dep : Nat), n ≤ dep → ∀ (w : World) (ax bs : List D), ekms ks ax = true → ekms ks bs = true → (Op.equalIn dep t (mkV P t (ax.map D.pv)) (mkV P t (bs.map D.pv))).run P w = .ok (eqDs ax bs) w
  | 0, t, ks, h, _, _, _, _, _, _, _ => by simp [eqSh] at h
  | n + 1, t, ks, h, dep, hd, w, ax, bs, ha, hb => by
    obtain ⟨dep, rfl⟩ : ∃ d, dep = d + 1 := ⟨dep - 1, by omega⟩
    unfold eqSh at h
    cases hu : P.underlying t with
    | none => simp [hu] at h
    | some dsc =>
      cases hi : P.info? t with
      | none => simp [hu, hi] at h
      | some i =>
        cases dsc <;> try (simp [hu, hi] at h; done)
        case bool =>
          simp only [hu, hi] at h
          split at h
          · injection h with h; subst h
            obtain ⟨da, rfl, ha'⟩ := ekms_one ha
            obtain ⟨db, rfl, hb'⟩ := ekms_one hb
            obtain ⟨x, rfl⟩ := ekm_bool ha'
            obtain ⟨y, rfl⟩ := ekm_bool hb'
            simp [mkV, hu, D.pv, eqDs, eqD, run_equalIn_bool' (P := P) w dep t x y hu]
          · cases h
        case int k =>
          simp only [hu, hi] at h
          split at h
          · injection h with h; subst h
            obtain ⟨da, rfl, ha'⟩ := ekms_one ha
            obtain ⟨db, rfl, hb'⟩ := ekms_one hb
            obtain ⟨x, rfl⟩ := ekm_int ha'
            obtain ⟨y, rfl⟩ := ekm_int hb'
            simp [mkV, hu, D.pv, eqDs, eqD, run_equalIn_int (P := P) w dep t _ _ x y hu]
          · cases h
        case string =>
          simp only [hu, hi] at h
          split at h
          · injection h with h; subst h
            obtain ⟨da, rfl, ha'⟩ := ekms_one ha
            obtain ⟨db, rfl, hb'⟩ := ekms_one hb
            obtain ⟨x, rfl⟩ := ekm_str ha'
            obtain ⟨y, rfl⟩ := ekm_str hb'
            · have := run_equalIn_string (P := P) w dep t ⟨x.toArray⟩ ⟨y.toArray⟩ hu
              rw [← beq_toListBytes, mk_beq] at this
              simp [mkV, hu, D.pv, eqDs, eqD, this]
          · cases h
        case struct fs =>
          simp only [hu, hi] at h
          split at h
          · cases h
          · rename_i hst
            split at h
            · split at h
              · rename_i ks' hgo hks
                injection h with h; subst h
                have hfo : P.fieldsOf t = fs := by simp [Program.fieldsOf, hu]
                simp only [mkV, hu]
                rw [run_equalIn_struct (P := P) w dep t _ _ (by rw [hfo]; exact hu) (by simpa using hst), hfo]
                have := eqFields_run (dep := dep) (fun t ks h => eq_run n t ks h dep (by omega)) fs.toList 0 ks' hgo w ax bs (by simpa using ha) (by simpa using hb) (Nat.zero_le _) (Nat.zero_le _)
                simpa using this
              · cases h
            · cases h

theorem checkKey_run : ∀ (n : Nat) (t : TypeId) (ks : List EK), eqSh P n t = some ks → ∀ (dep : Nat), n ≤ dep → ∀ (em : Bool) (w : World) (ax : List D), ekms ks ax = true → (Instr.checkKey em dep t (mkV P t (ax.map D.pv))).run P w = .ok () w
  | 0, t, ks, h, _, _, _, _, _, _ => by simp [eqSh] at h
  | n + 1, t, ks, h, dep, hd, em, w, ax, ha => by
    obtain ⟨dep, rfl⟩ : ∃ d, dep = d + 1 := ⟨dep - 1, by omega⟩
    unfold eqSh at h
    cases hu : P.underlying t with
    | none => simp [hu] at h
    | some dsc =>
      cases hi : P.info? t with
      | none => simp [hu, hi] at h
      | some i =>
        cases dsc <;> try (simp [hu, hi] at h; done)
        case bool => simp [Instr.checkKey, run_underlying hu]
        case int k => simp [Instr.checkKey, run_underlying hu]
        case string => simp [Instr.checkKey, run_underlying hu]
        case struct fs =>
          simp only [hu, hi] at h
          split at h
          · cases h
          · split at h
            · split at h
              · rename_i ks' hgo hks
                injection h with h; subst h
                simp only [mkV, hu, Instr.checkKey, Sem.run_bind, run_underlying hu, Result.andThen_ok]
                rw [← Array.forIn_toList]
                have ha0 : ekms ks' (ax.drop 0) = true := by simpa using ha
                have o0 : 0 ≤ ax.length := Nat.zero_le _
                generalize 0 = off at hgo ha0 o0
                clear ha hks
                generalize fs.toList = l at hgo ⊢
                induction l generalizing off ks' with
                | nil => simp
                | cons f l ihl =>
                  simp only [eqGo] at hgo
                  by_cases hf : f.name = "_" ∨ f.offset ≠ off
                  · rw [if_pos hf] at hgo; cases hgo
                  · rw [if_neg hf] at hgo
                    have hname : f.name ≠ "_" := fun e => hf (.inl e)
                    have hoff : f.offset = off := by
                      by_cases e : f.offset = off
                      · exact e
                      · exact absurd (.inr e) hf
                    cases h1 : eqSh P n f.type with
                    | none => simp [h1] at hgo
                    | some k1 =>
                      cases h2 : eqGo (eqSh P n) l (off + k1.length) with
                      | none => simp [h1, h2] at hgo
                      | some k2 =>
                        simp only [h1, h2] at hgo; injection hgo with hgo; subst hgo
                        obtain ⟨a1, a2⟩ := ekms_append ha0
                        rw [List.drop_drop] at a2
                        have la := ekms_length ha0
                        simp only [List.length_drop, List.length_append] at la
                        have pa := part_mk h1 w (ax.map D.pv) off (by simp; omega)
                        rw [← List.map_drop, ← List.map_take] at pa
                        have hck := checkKey_run n f.type k1 h1 dep (by omega) em w _ a1
                        have hrec := ihl _ _ a2 (by omega) h2
                        simp only [List.forIn_cons, Sem.run_bind, Sem.run_ite, if_pos hname, hoff, pa, hck, Result.andThen_ok, Sem.run_pure]
                        exact hrec
              · cases h
            · cases h
end
end Go.Pm

namespace Go.Pm

def kOK (u : TK) (ks : List EK) (d : D) : Bool := ekms ks d.cells && (aggT u == !d.one)
def eqK (k k' : D) : Bool := eqDs k.cells k'.cells
def findX (k : D) : List (D × PV) → Option Nat
  | [] => none
  | e :: r => if eqK k e.1 then some 0 else (findX k r).map (· + 1)
def getX (k : D) (z : PV) : List (D × PV) → PV
  | [] => z
  | e :: r => if eqK k e.1 then e.2 else getX k z r
def hasX (k : D) : List (D × PV) → Bool
  | [] => false
  | e :: r => eqK k e.1 || hasX k r
def putX (k : D) (p : PV) : List (D × PV) → List (D × PV)
  | [] => [(k, p)]
  | e :: r => if eqK k e.1 then (e.1, p) :: r else e :: putX k p r

theorem eqD_eq {k : EK} {a b : D} (ha : ekm k a = true) (hb : ekm k b = true) (h : eqD a b = true) : a = b := by
  cases k with
  | bool =>
    obtain ⟨x, rfl⟩ := ekm_bool ha
    obtain ⟨y, rfl⟩ := ekm_bool hb
    simp [eqD] at h; rw [h]
  | int k =>
    obtain ⟨x, rfl⟩ := ekm_int ha
    obtain ⟨y, rfl⟩ := ekm_int hb
    simp [eqD] at h; rw [h]
  | str =>
    obtain ⟨x, rfl⟩ := ekm_str ha
    obtain ⟨y, rfl⟩ := ekm_str hb
    simp [eqD] at h; rw [h]
theorem eqDs_eq : ∀ {ks : List EK} {a b : List D}, ekms ks a = true → ekms ks b = true → eqDs a b = true → a = b
  | [], [], [], _, _, _ => rfl
  | k :: ks, x :: a, y :: b, ha, hb, h => by
    simp only [ekms, eqDs, Bool.and_eq_true] at ha hb h
    rw [eqD_eq ha.1 hb.1 h.1, eqDs_eq ha.2 hb.2 h.2]
  | [], _ :: _, _, h, _, _ => by simp [ekms] at h
  | [], [], _ :: _, _, h, _ => by simp [ekms] at h
  | _ :: _, [], _, h, _, _ => by simp [ekms] at h
  | _ :: _, _ :: _, [], _, h, _ => by simp [ekms] at h
theorem cells_inj {a b : D} (h : a.cells = b.cells) (ho : a.one = b.one) : a = b := by
  cases a <;> cases b <;> simp_all [D.cells, D.one]
theorem eqK_eq {u : TK} {ks : List EK} {a b : D} (ha : kOK u ks a = true) (hb : kOK u ks b = true) (h : eqK a b = true) : a = b := by
  simp only [kOK, Bool.and_eq_true, beq_iff_eq] at ha hb
  refine cells_inj (eqDs_eq ha.1 hb.1 h) ?_
  have := ha.2.symm.trans hb.2
  simpa using this

section
variable {P : Program} {ops : Array Oper} {o : Oper} {s : St}

theorem key_val {kt : TypeId} {u : TK} {r : Option (Nat × Nat × Option Value)} {n : Nat} {ks : List EK} (ht : tyF P kt = (some u, r)) (hsh : eqSh P n kt = some ks) {k : D} (hk : kOK u ks k = true) {M : Nat → Nat → Prop} {w : World} {v : Value} (h : Den M w k v) : v = mkV P kt (k.cells.map D.pv) := by
  simp only [kOK, Bool.and_eq_true, beq_iff_eq] at hk
  obtain ⟨d, hd1, hd2⟩ := tyF_agg ht
  cases ho : k.one with
  | false =>
    cases h with
    | agg cs vs hl hone hh =>
      have hag : aggT u = true := by simpa [D.one] using hk.2
      have hst : ∃ fs, d = .struct fs := by
        cases n with
        | zero => simp [eqSh] at hsh
        | succ n =>
          unfold eqSh at hsh
          rw [hd1] at hsh
          subst hd2
          cases d <;> simp [tk, aggT] at hag
          · cases hi : P.info? kt <;> simp [hi] at hsh
          · exact ⟨_, rfl⟩
      obtain ⟨fs, rfl⟩ := hst
      unfold mkV
      rw [hd1]
      have := ekms_pv (M := M) (w := w) hk.1 hl hh
      rw [this]
    | _ => cases ho
  | true =>
    have hc : k.cells = [k] := by cases k <;> first | rfl | cases ho
    have hag : aggT u = false := by rw [hk.2, ho]; rfl
    have hns : ∀ fs, d ≠ .struct fs := by rintro fs rfl; subst hd2; simp [tk, aggT] at hag
    have hk1 := hk.1
    rw [hc] at hk1
    obtain ⟨e, rfl⟩ : ∃ e, ks = [e] := by
      have := ekms_length hk1
      match ks, this with
      | [e], _ => exact ⟨e, rfl⟩
    obtain ⟨d', hd', hek⟩ := ekms_one hk1
    injection hd' with hd' _
    subst hd'
    rw [ekm_pv hek h, hc]
    unfold mkV
    rw [hd1]
    cases d <;> first | (exact absurd rfl (hns _)) | rfl

theorem getX_find {k : D} {z : PV} : ∀ {l : List (D × PV)}, (∀ {j : Nat} {e : D × PV}, findX k l = some j → l[j]? = some e → getX k z l = e.2 ∧ hasX k l = true ∧ eqK k e.1 = true) ∧ (findX k l = none → getX k z l = z ∧ hasX k l = false)
  | [] => ⟨by simp [findX], by simp [getX, hasX]⟩
  | e :: r => by
    obtain ⟨h1, h2⟩ := getX_find (k := k) (z := z) (l := r)
    by_cases he : eqK k e.1 = true
    · refine ⟨fun {j e'} hj he' => ?_, fun h => ?_⟩
      · simp only [findX, if_pos he] at hj; injection hj with hj; subst hj
        simp at he'; subst he'
        exact ⟨by simp [getX, he], by simp [hasX, he], he⟩
      · simp [findX, he] at h
    · refine ⟨fun {j e'} hj he' => ?_, fun h => ?_⟩
      · simp only [findX, if_neg he] at hj
        obtain ⟨j', hj', rfl⟩ := Option.map_eq_some_iff.1 hj
        obtain ⟨a1, a2, a3⟩ := h1 hj' (by simpa using he')
        exact ⟨by simp [getX, he, a1], by simp [hasX, a2], a3⟩
      · simp only [findX, if_neg he, Option.map_eq_none_iff] at h
        obtain ⟨a1, a2⟩ := h2 h
        exact ⟨by simp [getX, he, a1], by simp [hasX, he, a2]⟩

/-- Search in a map's entries, by the model's own walk. -/
theorem findAsking_run {kt : TypeId} {u : TK} {r : Option (Nat × Nat × Option Value)} {ks : List EK} (ht : tyF P kt = (some u, r)) (hsh : eqSh P 5 kt = some ks) {k : D} (hk : kOK u ks k = true) {M : Nat → Nat → Prop} {w : World} :
    ∀ (es : List (D × PV)) (l : List MapEntry) (i : Nat), l.length = es.length → (∀ e ∈ es, kOK u ks e.1 = true) → (∀ (j : Nat) (e : D × PV), es[j]? = some e → ∃ m, l[j]? = some m ∧ Den M w e.1 m.key) →
      (Instr.findAsking kt (mkV P kt (k.cells.map D.pv)) l i).run P w = .ok ((findX k es).bind fun j => (l[j]?).map fun m => (i + j, m.val)) w
  | [], [], i, _, _, _ => by simp [Instr.findAsking, findX]
  | [], m :: l, i, hl, _, _ => by simp at hl
  | e :: es, [], i, hl, _, _ => by simp at hl
  | e :: es, m :: l, i, hl, hks, hd => by
    obtain ⟨m', hm', hden⟩ := hd 0 e rfl
    simp at hm'; subst hm'
    have hke := hks e List.mem_cons_self
    have hkv := key_val ht hsh hke hden
    have h1 := hk
    have h2 := hke
    simp only [kOK, Bool.and_eq_true] at h1 h2
    have heq := eq_run 5 kt ks hsh 10000 (by omega) w k.cells e.1.cells h1.1 h2.1
    simp only [Instr.findAsking, Op.equal, Op.maxDepth, hkv, Sem.run_bind, heq, Result.andThen_ok]
    cases hq : eqDs k.cells e.1.cells with
    | true => simp [findX, eqK, hq]
    | false =>
      have ih := findAsking_run ht hsh hk es l (i + 1) (by simpa using hl) (fun e he => hks e (List.mem_cons_of_mem _ he)) (fun j e' he' => by simpa using hd (j + 1) e' (by simpa using he'))
      simp only [Bool.false_eq_true, if_false, ih, findX, eqK, hq]
      cases findX k es with
      | none => rfl
      | some j =>
        simp only [Option.bind_some, Option.map_some, List.getElem?_cons_succ]
        rw [show i + 1 + j = i + (j + 1) from by omega]

theorem sameNow_eq {kt : TypeId} {n : Nat} {ks : List EK} (hsh : eqSh P n kt = some ks) {d : TypeDesc} (hd : P.underlying kt = some d) {a b : List D} (ha : ekms ks a = true) (hb : ekms ks b = true) :
    (∃ fs, d = .struct fs) ∨ Instr.sameNow d (mkV P kt (a.map D.pv)) (mkV P kt (b.map D.pv)) = some (eqDs a b) := by
  cases n with
  | zero => simp [eqSh] at hsh
  | succ n =>
    unfold eqSh at hsh
    rw [hd] at hsh
    cases hi : P.info? kt with
    | none => cases d <;> simp [hi] at hsh
    | some i =>
      cases d <;> try (simp [hi] at hsh; done)
      case struct fs => exact .inl ⟨fs, rfl⟩
      case bool =>
        simp only [hi] at hsh
        split at hsh
        · injection hsh with hsh; subst hsh
          obtain ⟨da, rfl, ha'⟩ := ekms_one ha
          obtain ⟨db, rfl, hb'⟩ := ekms_one hb
          obtain ⟨x, rfl⟩ := ekm_bool ha'
          obtain ⟨y, rfl⟩ := ekm_bool hb'
          right; simp [mkV, hd, D.pv, Instr.sameNow, eqDs, eqD]
        · cases hsh
      case int k =>
        simp only [hi] at hsh
        split at hsh
        · injection hsh with hsh; subst hsh
          obtain ⟨da, rfl, ha'⟩ := ekms_one ha
          obtain ⟨db, rfl, hb'⟩ := ekms_one hb
          obtain ⟨x, rfl⟩ := ekm_int ha'
          obtain ⟨y, rfl⟩ := ekm_int hb'
          right; simp [mkV, hd, D.pv, Instr.sameNow, eqDs, eqD]
        · cases hsh
      case string =>
        simp only [hi] at hsh
        split at hsh
        · injection hsh with hsh; subst hsh
          obtain ⟨da, rfl, ha'⟩ := ekms_one ha
          obtain ⟨db, rfl, hb'⟩ := ekms_one hb
          obtain ⟨x, rfl⟩ := ekm_str ha'
          obtain ⟨y, rfl⟩ := ekm_str hb'
          right; simp [mkV, hd, D.pv, Instr.sameNow, eqDs, eqD, mk_beq]
        · cases hsh

theorem findNow_eq {kt : TypeId} {u : TK} {r : Option (Nat × Nat × Option Value)} {ks : List EK} (ht : tyF P kt = (some u, r)) (hsh : eqSh P 5 kt = some ks) {k : D} (hk : kOK u ks k = true) {M : Nat → Nat → Prop} {w : World} {d : TypeDesc} (hd : P.underlying kt = some d) :
    ∀ (es : List (D × PV)) (l : List MapEntry) (i : Nat), l.length = es.length → (∀ e ∈ es, kOK u ks e.1 = true) → (∀ (j : Nat) (e : D × PV), es[j]? = some e → ∃ m, l[j]? = some m ∧ Den M w e.1 m.key) →
      Instr.findNow d (mkV P kt (k.cells.map D.pv)) l i = some ((findX k es).bind fun j => (l[j]?).map fun m => (i + j, m.val)) ∨ Instr.findNow d (mkV P kt (k.cells.map D.pv)) l i = none
  | [], [], i, _, _, _ => .inl (by simp [Instr.findNow, findX])
  | [], m :: l, i, hl, _, _ => by simp at hl
  | e :: es, [], i, hl, _, _ => by simp at hl
  | e :: es, m :: l, i, hl, hks, hdn => by
    obtain ⟨m', hm', hden⟩ := hdn 0 e rfl
    simp at hm'; subst hm'
    have hke := hks e List.mem_cons_self
    have hkv := key_val ht hsh hke hden
    have h1 := hk
    have h2 := hke
    simp only [kOK, Bool.and_eq_true] at h1 h2
    rcases sameNow_eq hsh hd h1.1 h2.1 with ⟨fs, rfl⟩ | hs
    · right; simp [Instr.findNow, Instr.sameNow]
    · cases hq : eqDs k.cells e.1.cells with
      | true => left; simp [Instr.findNow, hkv, hs, hq, findX, eqK]
      | false =>
        rcases findNow_eq ht hsh hk hd es l (i + 1) (by simpa using hl) (fun e he => hks e (List.mem_cons_of_mem _ he)) (fun j e' he' => by simpa using hdn (j + 1) e' (by simpa using he')) with ih | ih
        · left
          simp only [Instr.findNow, hkv, hs, hq, ih, findX, eqK]
          congr 1
          cases findX k es with
          | none => rfl
          | some j =>
            simp only [Bool.false_eq_true, if_false, Option.bind_some, Option.map_some, List.getElem?_cons_succ]
            rw [show i + 1 + j = i + (j + 1) from by omega]
        · right; simp only [Instr.findNow, hkv, hs, hq, ih]

theorem findKey_run {kt : TypeId} {u : TK} {r : Option (Nat × Nat × Option Value)} {ks : List EK} (ht : tyF P kt = (some u, r)) (hsh : eqSh P 5 kt = some ks) {k : D} (hk : kOK u ks k = true) {M : Nat → Nat → Prop} {w : World}
    (es : List (D × PV)) (l : List MapEntry) (hl : l.length = es.length) (hks : ∀ e ∈ es, kOK u ks e.1 = true) (hdn : ∀ (j : Nat) (e : D × PV), es[j]? = some e → ∃ m, l[j]? = some m ∧ Den M w e.1 m.key) :
    (Instr.findKey kt (mkV P kt (k.cells.map D.pv)) l).run P w = .ok ((findX k es).bind fun j => (l[j]?).map fun m => (j, m.val)) w := by
  obtain ⟨d, hd1, hd2⟩ := tyF_agg ht
  unfold Instr.findKey
  simp only [Sem.run_bind, run_underlying hd1, Result.andThen_ok]
  rcases findNow_eq ht hsh hk hd1 es l 0 hl hks hdn with h | h
  · rw [h]; simp
  · rw [h]
    have := findAsking_run ht hsh hk es l 0 hl hks hdn
    simpa using this

theorem op_makeMap {t : TypeId} {d : Tmp} (ho : o.op = .makeMap t none) (hd : o.dst = some d) (hd6 : d < 1000000) : OpOK P ops o s ⟨o.dst, .map d, [], [d], [(d, some (.map [] []))]⟩ := by
  intro s1 ha hf hn hdb E g a w hr K Qx hK
  unfold Oper.wp
  have hrun : (execOp a.eval o).run P w = .ok (.value (.map (some w.heap.size))) (w.alloc (.map #[] 0)) := by
    unfold execOp; rw [ho]; simp [Instr.makeMap]
  rw [hrun]
  have hrel := hr.alloc_obj (x := d) (hn d (by simp)) hd6 (.map [] []) (.map #[] 0) none (fun b q hm => by simp [mutAt, Gh.put] at hm; omega) (fun M' hM' _ =>
    .map (by simp [Gh.put]) (heap_alloc_new w _) (by simp [ments]) ⟨by simp, by simp⟩ (fun j k p hj => by simp [ments] at hj))
  refine hK _ _ (g.put d (some w.heap.size) none) ?_
  rw [app_one]
  exact hrel.put (dB_spec hdb) (.map (by simp [Gh.put]))
end
end Go.Pm

namespace Go.Pm

theorem sameBits_pv {e : EK} {d : D} (h : ekm e d = true) (n : Nat) : Instr.sameBits n d.pv d.pv = true := by
  cases e with
  | bool => obtain ⟨x, rfl⟩ := ekm_bool h; cases n <;> simp [D.pv, Instr.sameBits]
  | int k => obtain ⟨x, rfl⟩ := ekm_int h; cases n <;> simp [D.pv, Instr.sameBits]
  | str => obtain ⟨x, rfl⟩ := ekm_str h; cases n <;> simp [D.pv, Instr.sameBits, mk_beq]
theorem sameBits_all (n : Nat) : ∀ {ks : List EK} {ds : List D}, ekms ks ds = true → (((ds.map D.pv).zip (ds.map D.pv)).all fun (x, y) => Instr.sameBits n x y) = true
  | [], [], _ => rfl
  | k :: ks, d :: ds, h => by
    simp only [ekms, Bool.and_eq_true] at h
    simp only [List.map_cons, List.zip_cons_cons, List.all_cons, sameBits_pv h.1 n, Bool.true_and]
    exact sameBits_all n h.2
  | [], _ :: _, h => by simp [ekms] at h
  | _ :: _, [], h => by simp [ekms] at h

theorem putX_find {k : D} {p : PV} : ∀ {l : List (D × PV)}, (∀ {j : Nat}, findX k l = some j → putX k p l = l.modify j (fun e => (e.1, p))) ∧ (findX k l = none → putX k p l = l ++ [(k, p)])
  | [] => ⟨by simp [findX], by simp [putX]⟩
  | e :: r => by
    obtain ⟨h1, h2⟩ := putX_find (k := k) (p := p) (l := r)
    by_cases he : eqK k e.1 = true
    · refine ⟨fun {j} hj => ?_, fun h => ?_⟩
      · simp only [findX, if_pos he] at hj; injection hj with hj; subst hj
        simp [putX, he]
      · simp [findX, he] at h
    · refine ⟨fun {j} hj => ?_, fun h => ?_⟩
      · simp only [findX, if_neg he] at hj
        obtain ⟨j', hj', rfl⟩ := Option.map_eq_some_iff.1 hj
        simp only [putX, if_neg he, h1 hj', List.modify_succ_cons]
      · simp only [findX, if_neg he, Option.map_eq_none_iff] at h
        simp only [putX, if_neg he, h2 h, List.cons_append]
theorem findX_lt {k : D} : ∀ {l : List (D × PV)} {j : Nat}, findX k l = some j → j < l.length
  | [], j, h => by simp [findX] at h
  | e :: r, j, h => by
    simp only [findX] at h
    by_cases he : eqK k e.1 = true
    · rw [if_pos he] at h; injection h with h; subst h; simp
    · rw [if_neg he] at h
      obtain ⟨j', hj', rfl⟩ := Option.map_eq_some_iff.1 h
      have := findX_lt hj'
      simp; omega

section
variable {P : Program} {ops : Array Oper} {o : Oper} {s : St}

theorem sameBits_mk {kt : TypeId} {ks : List EK} {n m : Nat} (hsh : eqSh P n kt = some ks) {ds : List D} (h : ekms ks ds = true) : Instr.sameBits (m + 1) (mkV P kt (ds.map D.pv)) (mkV P kt (ds.map D.pv)) = true := by
  unfold mkV
  split
  · simp only [Instr.sameBits]
    simp only [beq_self_eq_true, Bool.true_and]
    exact sameBits_all m h
  · rename_i hns
    cases n with
    | zero => simp [eqSh] at hsh
    | succ n =>
      have one : ∃ e, ks = [e] := by
        unfold eqSh at hsh
        cases hu : P.underlying kt with
        | none => simp [hu] at hsh
        | some d =>
          cases hi : P.info? kt with
          | none => cases d <;> simp [hu, hi] at hsh
          | some i =>
            cases d <;> simp only [hu, hi] at hsh <;> first | (cases hsh; done) | (split at hsh <;> first | (injection hsh with hsh; exact ⟨_, hsh.symm⟩) | cases hsh) | (exact absurd hu (hns _))
      obtain ⟨e, rfl⟩ := one
      obtain ⟨d, rfl, hd⟩ := ekms_one h
      exact sameBits_pv hd _

theorem op_lookupR {t kt et : TypeId} {x y : Operand} {cok : Bool} {m : Nat} {dm : List (D × D)} {es : List (D × PV)} {k : D} {u : TK} {ks : List EK} {r r' : Option (Nat × Nat × Option Value)} {ue : Option TK} {sz bs : Nat} {zv : Value}
    (ho : o.op = .lookup t x y cok) (hx : s.val x = .map m) (hkx : okOp x = true) (hm : s.ob m = some (.map dm es)) (hy : s.val y = .d k) (hky : okOp y = true) (ht : tyF P t = (some (.map kt et), r)) (hkt : tyF P kt = (some u, r')) (hsh : eqSh P 5 kt = some ks)
    (het : tyF P et = (ue, some (sz, bs, some zv))) (hzk : constOK zv = true) (hk : kOK u ks k = true) (hks : ∀ e ∈ ments dm es, kOK u ks e.1 = true) {E : Env} {g : Gh} {s1 : St} {a : Act} {w : World} (hr : Rel E g s1 a w) (hv : ∀ x ∈ o.op.operands, s1.val x = s.val x) (hf : s1.ob m = s.ob m) :
    ∃ v, VRel g (MM E g s1) w (getX k (constPV zv) (ments dm es)) v ∧ (execOp a.eval o).run P w = .ok (.value (if cok then .tuple #[v, .bool (hasX k (ments dm es))] else v)) w := by
  have h1 := eval_of hr hv (x := x) (by rw [ho]; simp [Op.operands]) hkx hx
  have h2 := toD_den (x := k) rfl (eval_of hr hv (x := y) (by rw [ho]; simp [Op.operands]) hky hy)
  obtain ⟨b, hae, hφ⟩ := vrel_map h1
  obtain ⟨b', ents, clock, hφ', hb, hl, h⟩ := orel_map (hr.objs m _ (by rw [hf]; exact hm))
  rw [hφ] at hφ'; injection hφ' with hφ'; subst hφ'
  have hgo : (getObj b).run P w = .ok (.map ents clock) w := by simp [getObj, Sem.run, hb]
  have hso : ∀ ob, (setObj b ob).run P w = .ok () { w with heap := w.heap.setIfInBounds b ob } := fun ob => by simp [setObj, Sem.run, hb]
  have hkv := key_val hkt hsh hk h2
  have hk1 := hk
  simp only [kOK, Bool.and_eq_true] at hk1
  have hck := checkKey_run 5 kt ks hsh 10000 (by omega) ents.isEmpty w k.cells hk1.1
  have hfk := findKey_run hkt hsh hk (M := MM E g s1) (w := w) (ments dm es) ents.toList (by simpa using hl) hks (fun j e he => by
    obtain ⟨e', e1, e2, _⟩ := h j e.1 e.2 he
    exact ⟨e', by simpa using e1, e2⟩)
  obtain ⟨g1, g2⟩ := getX_find (k := k) (z := constPV zv) (l := ments dm es)
  unfold execOp
  rw [ho]
  simp only [Instr.lookup, Sem.run_bind, run_underlying (tyF_und ht rfl), Result.andThen_ok, hae, hgo, Sem.run_pure, hkv, hck, hfk]
  cases hfx : findX k (ments dm es) with
  | none =>
    obtain ⟨e1, e2⟩ := g2 hfx
    refine ⟨zv, by rw [e1]; exact constPV_rel _ zv hzk, ?_⟩
    simp only [Option.bind_none, Sem.run_bind, run_zero' het, Result.andThen_ok, Sem.run_pure, e2]
  | some j =>
    have hjl := findX_lt hfx
    have hej := List.getElem?_eq_getElem hjl
    obtain ⟨e1, e2, _⟩ := g1 hfx hej
    obtain ⟨e', e3, e4, e5⟩ := h j _ _ hej
    refine ⟨e'.val, by rw [e1]; exact e5, ?_⟩
    have e3' : ents.toList[j]? = some e' := by simpa using e3
    simp only [Option.bind_some, e3', Option.map_some, Sem.run_pure, Result.andThen_ok, e2]
    cases cok <;> rfl

theorem op_lookup {t kt et : TypeId} {x y : Operand} {m : Nat} {dm : List (D × D)} {es : List (D × PV)} {k : D} {p : PV} {u : TK} {ks : List EK} {r r' : Option (Nat × Nat × Option Value)} {ue : Option TK} {sz bs : Nat} {zv : Value}
    (ho : o.op = .lookup t x y false) (hx : s.val x = .map m) (hkx : okOp x = true) (hm : s.ob m = some (.map dm es)) (hy : s.val y = .d k) (hky : okOp y = true) (ht : tyF P t = (some (.map kt et), r)) (hkt : tyF P kt = (some u, r')) (hsh : eqSh P 5 kt = some ks)
    (het : tyF P et = (ue, some (sz, bs, some zv))) (hzk : constOK zv = true) (hk : kOK u ks k = true) (hks : ∀ e ∈ ments dm es, kOK u ks e.1 = true) (hp : getX k (constPV zv) (ments dm es) = p) : OpOK P ops o s ⟨o.dst, p, [m], [], []⟩ :=
  op_val fun s1 hv hf E g a w hr => by
    obtain ⟨v, e1, e2⟩ := op_lookupR ho hx hkx hm hy hky ht hkt hsh het hzk hk hks hr hv (hf m (by simp))
    rw [hp] at e1
    exact ⟨v, e2, e1⟩
theorem stmp_push {ents : Array MapEntry} {clock : Nat} (h : Stmp ents clock) {e : MapEntry} (he : e.born = clock) : Stmp (ents.push e) (clock + 1) := by
  obtain ⟨h1, h2⟩ := h
  refine ⟨?_, fun x hx => ?_⟩
  · rw [Array.toList_push, List.map_append, List.nodup_append]
    refine ⟨h1, by simp, fun a ha b hb hab => ?_⟩
    obtain ⟨y, hy, rfl⟩ := List.mem_map.1 ha
    simp at hb
    have := h2 y hy
    omega
  · rw [Array.toList_push, List.mem_append] at hx
    rcases hx with hx | hx
    · have := h2 x hx; omega
    · simp at hx; subst hx; omega
theorem stmp_modify {ents : Array MapEntry} {clock j : Nat} (h : Stmp ents clock) {f : MapEntry → MapEntry} (hf : ∀ e, (f e).born = e.born) : Stmp (ents.modify j f) clock := by
  obtain ⟨h1, h2⟩ := h
  have e1 : (ents.modify j f).toList.map (·.born) = ents.toList.map (·.born) := by
    apply List.ext_getElem?
    intro i
    simp only [Array.toList_modify, List.getElem?_map, List.getElem?_modify]
    cases ents.toList[i]? with
    | none => rfl
    | some e => simp only [Option.map_some, Option.map_eq_map]; split <;> simp [hf]
  refine ⟨by rw [e1]; exact h1, fun x hx => ?_⟩
  have hm : x.born ∈ ents.toList.map (·.born) := by rw [← e1]; exact List.mem_map.2 ⟨x, hx, rfl⟩
  obtain ⟨y, hy, hb⟩ := List.mem_map.1 hm
  have := h2 y hy
  omega
theorem map_same {M : Nat → Nat → Prop} {w : World} {b : Nat} {es es' : Array MapEntry} {c c' : Nat} (hb : w.heap[b]? = some (.map es c)) : Same M w { w with heap := w.heap.setIfInBounds b (.map es' c') } := by
  intro b' o' u hu _
  by_cases hbb : b = b'
  · subst hbb; simp [World.cell?, hb] at hu
  · simp only [World.cell?] at hu ⊢
    rw [Array.getElem?_setIfInBounds_ne hbb]; exact hu

theorem op_mapUpdate {t kt et : TypeId} {x y z : Operand} {m : Nat} {dm dm' : List (D × D)} {es es' : List (D × PV)} {k : D} {p : PV} {u : TK} {ks : List EK} {r r' : Option (Nat × Nat × Option Value)}
    (ho : o.op = .mapUpdate t x y z) (hx : s.val x = .map m) (hkx : okOp x = true) (hm : s.ob m = some (.map dm es)) (hy : s.val y = .d k) (hky : okOp y = true) (hz : s.rd z = some p) (hkz : okOp z = true) (ht : tyF P t = (some (.map kt et), r)) (hkt : tyF P kt = (some u, r')) (hsh : eqSh P 5 kt = some ks)
    (hk : kOK u ks k = true) (hks : ∀ e ∈ ments dm es, kOK u ks e.1 = true) (hput : putX k p (ments dm es) = ments dm' es') : OpOK P ops o s ⟨o.dst, .tup [], [m], [], [(m, some (.map dm' es'))]⟩ := by
  intro s1 ha hf hn hdb E g a w hr K Qx hK
  have hv : ∀ x ∈ o.op.operands, s1.val x = s.val x := fun x hx => val_agree ha hx
  have h1 := eval_of hr hv (x := x) (by rw [ho]; simp [Op.operands]) hkx hx
  have h2 := toD_den (x := k) rfl (eval_of hr hv (x := y) (by rw [ho]; simp [Op.operands]) hky hy)
  have h3 := eval_of hr hv (x := z) (by rw [ho]; simp [Op.operands]) hkz (rd_val hz)
  obtain ⟨b, hae, hφ⟩ := vrel_map h1
  have hm1 : s1.ob m = some (.map dm es) := by rw [hf m (by simp)]; exact hm
  obtain ⟨b', ents, clock, hφ', hb, hl, hst, h⟩ := orel_mapS (hr.objs m _ hm1)
  rw [hφ] at hφ'; injection hφ' with hφ'; subst hφ'
  have hgo : (getObj b).run P w = .ok (.map ents clock) w := by simp [getObj, Sem.run, hb]
  have hso : ∀ ob, (setObj b ob).run P w = .ok () { w with heap := w.heap.setIfInBounds b ob } := fun ob => by simp [setObj, Sem.run, hb]
  have hkv := key_val hkt hsh hk h2
  have hk1 := hk
  simp only [kOK, Bool.and_eq_true] at hk1
  have hck := checkKey_run 5 kt ks hsh 10000 (by omega) false w k.cells hk1.1
  have hfk := findKey_run hkt hsh hk (M := MM E g s1) (w := w) (ments dm es) ents.toList (by simpa using hl) hks (fun j e he => by
    obtain ⟨e', e1, e2, _⟩ := h j e.1 e.2 he
    exact ⟨e', by simpa using e1, e2⟩)
  obtain ⟨g1, g2⟩ := getX_find (k := k) (z := p) (l := ments dm es)
  obtain ⟨q1, q2⟩ := putX_find (k := k) (p := p) (l := ments dm es)
  have hown := hr.own m _ b hm1 hφ
  have hbl : b < w.heap.size := hown.2
  have fin : ∀ (ents' : Array MapEntry) (clock' : Nat), (execOp a.eval o).run P w = .ok .skip { w with heap := w.heap.setIfInBounds b (.map ents' clock') } → ents'.size = (ments dm' es').length → Stmp ents' clock' →
      (∀ (j : Nat) (k' : D) (q : PV), (ments dm' es')[j]? = some (k', q) → ∃ e, ents'[j]? = some e ∧ Den (MM E g s1) w k' e.key ∧ VRel g (MM E g s1) w q e.val) → o.wp P a w K Qx := by
    intro ents' clock' hrun hl' hst' h'
    unfold Oper.wp
    rw [hrun]
    have hsame : Same (MM E g s1) w { w with heap := w.heap.setIfInBounds b (.map ents' clock') } := map_same hb
    have hM : ∀ bb oo, MM E g ⟨s1.n, s1.slots, setOb s1.objs m (some (.map dm' es'))⟩ bb oo → MM E g s1 bb oo := by
      rintro bb oo (hm' | ⟨y, ob, hy, hm'⟩)
      · exact .inl hm'
      · have hy' : look (setOb s1.objs m (some (.map dm' es'))) y = some ob := hy
        rw [look_setOb] at hy'
        by_cases hyr : y = m
        · subst hyr
          rw [if_pos rfl] at hy'; injection hy' with hy'; subst hy'
          exact .inr ⟨y, _, hm1, hm'⟩
        · rw [if_neg hyr] at hy'; exact .inr ⟨y, ob, hy', hm'⟩
    have hrel : Rel E g ⟨s1.n, s1.slots, setOb s1.objs m (some (.map dm' es'))⟩ a { w with heap := w.heap.setIfInBounds b (.map ents' clock') } := by
      refine hr.turn m rfl rfl (fun y hy => ?_) (fun y hy => ⟨rfl, rfl⟩) (.inl ⟨rfl, rfl⟩) (fun bb oo _ h => hM bb oo h) hsame (fun y ob bb hy h3 h4 => ?_) (fun ob h3 => ?_) (fun ob bb h3 h4 => ?_) ?_ (by simp) (.inr ⟨rfl, rfl⟩)
      · show look _ _ = look _ _
        rw [look_setOb, if_neg hy]
      · show (w.heap.setIfInBounds b _)[bb]? = _
        rw [Array.getElem?_setIfInBounds_ne]
        rintro rfl
        exact hy (hr.inj y m _ _ _ h3 hm1 h4 hφ)
      · have h3' : look (setOb s1.objs m (some (.map dm' es'))) m = some ob := h3
        rw [look_setOb, if_pos rfl] at h3'
        injection h3' with h3'; subst h3'
        refine .map hφ (ents := ents') (clock := clock') (by simp [hbl]) hl' hst' fun j k' q hj => ?_
        obtain ⟨e, e1, e2, e3⟩ := h' j k' q hj
        exact ⟨e, e1, e2.mono hsame (fun bb oo _ h => hM bb oo h), e3.move hsame (fun bb oo _ h => hM bb oo h) fun _ _ => ⟨rfl, rfl⟩⟩
      · rw [hφ] at h4; injection h4 with h4; subst h4
        exact ⟨fun y ob' hy h5 h6 => hy (hr.inj y m _ _ _ h5 hm1 h6 hφ), hown.1, by simp; exact hown.2⟩
      · exact ⟨by simp; exact hr.fr.size, hr.fr.os, hr.fr.tape, hr.fr.output, fun kk hk hi => by
          have : b ≠ kk := by
            rintro rfl
            rcases hown.1 with hb | hb
            · exact absurd hb (Nat.not_le.2 hk)
            · exact hi hb
          show (w.heap.setIfInBounds b _)[kk]? = _
          rw [Array.getElem?_setIfInBounds_ne this]; exact hr.fr.block kk hk hi, hr.fr.gok⟩
    refine hK _ _ g ?_
    rw [app_one]
    exact hrel.put (dB_spec hdb) (v := undef) (.tup (vs := []) (cs := []) rfl (by simp))
  have hrun0 : (execOp a.eval o).run P w = (do Instr.mapUpdate t (a.eval x) (a.eval y) (a.eval z); pure Next.skip : Sem Next).run P w := by
    unfold execOp; rw [ho]
  cases hfx : findX k (ments dm es) with
  | none =>
    have hput' := q2 hfx
    rw [hput] at hput'
    refine fin (ents.push { key := mkV P kt (k.cells.map D.pv), val := a.eval z, born := clock }) (clock + 1) ?_ (by rw [hput']; simp [hl]) (stmp_push hst rfl) (fun j k' q hj => ?_)
    · rw [hrun0]
      simp only [Instr.mapUpdate, Sem.run_bind, run_underlying (tyF_und ht rfl), Result.andThen_ok, hae, hgo, Sem.run_pure, hkv, hck, hfk, hfx, Option.bind_none, hso]
    · rw [hput'] at hj
      by_cases hjl : j < (ments dm es).length
      · rw [List.getElem?_append_left hjl] at hj
        obtain ⟨e, e1, e2, e3⟩ := h j k' q hj
        exact ⟨e, by rw [Array.getElem?_push, if_neg (by omega)]; exact e1, e2, e3⟩
      · rw [List.getElem?_append_right (by omega)] at hj
        have hj0 : j - (ments dm es).length = 0 := by have := (List.getElem?_eq_some_iff.1 hj).1; simp at this; omega
        rw [hj0] at hj
        simp at hj
        obtain ⟨rfl, rfl⟩ := hj
        refine ⟨_, by rw [Array.getElem?_push, if_pos (by omega)], ?_, h3⟩
        rw [← hkv]; exact h2
  | some j0 =>
    have hput' := q1 hfx
    rw [hput] at hput'
    have hjl := findX_lt hfx
    have hej := List.getElem?_eq_getElem hjl
    obtain ⟨_, _, heq⟩ := g1 hfx hej
    obtain ⟨e0, e3, e4, e5⟩ := h j0 _ _ hej
    have hkk := eqK_eq hk (hks _ (List.getElem_mem hjl)) heq
    have hk0 := key_val hkt hsh (hks _ (List.getElem_mem hjl)) e4
    rw [← hkk] at hk0
    have e3' : ents.toList[j0]? = some e0 := by simpa using e3
    refine fin (ents.modify j0 fun e => { e with key := mkV P kt (k.cells.map D.pv), val := a.eval z }) clock ?_ (by rw [hput']; simp [hl]) (stmp_modify hst (fun _ => rfl)) (fun j k' q hj => ?_)
    · rw [hrun0]
      have hkts : (Instr.keyThatStays (mkV P kt (k.cells.map D.pv)) (mkV P kt (k.cells.map D.pv))).run P w = .ok (mkV P kt (k.cells.map D.pv)) w := by
        unfold Instr.keyThatStays
        rw [sameBits_mk (m := 9999) hsh hk1.1, if_pos rfl]; rfl
      simp only [Instr.mapUpdate, Sem.run_bind, run_underlying (tyF_und ht rfl), Result.andThen_ok, hae, hgo, Sem.run_pure, hkv, hck, hfk, hfx, Option.bind_some, e3', e3, Option.map_some, Option.getD_some, hk0, hkts, hso]
    · rw [hput', List.getElem?_modify] at hj
      by_cases hjj : j0 = j
      · subst hjj
        rw [hej] at hj
        simp only [if_pos rfl, Option.map_eq_map, Option.map_some, Option.some.injEq, Prod.mk.injEq] at hj
        obtain ⟨rfl, rfl⟩ := hj
        refine ⟨{ e0 with key := mkV P kt (k.cells.map D.pv), val := a.eval z }, ?_, ?_, h3⟩
        · simp [Array.getElem?_modify, e3]
        · rw [← hkk]
          show Den _ _ _ (mkV P kt (k.cells.map D.pv))
          rw [← hkv]; exact h2
      · simp only [if_neg hjj, Option.map_eq_map, Option.map_id'] at hj
        obtain ⟨e, e6, e7, e8⟩ := h j k' q (by simpa using hj)
        exact ⟨e, by simp [Array.getElem?_modify, hjj, e6], e7, e8⟩

theorem op_eqlA {op : BinOp} {t t2 : TypeId} {x y : Operand} {ax bs : List D} {ks : List EK} {r : Option (Nat × Nat × Option Value)} (ho : o.op = .binOp op t x y t2) (hop : op = .eql ∨ op = .neq) (hx : s.val x = .d (.agg ax)) (hy : s.val y = .d (.agg bs)) (hkx : okOp x = true) (hky : okOp y = true)
    (ht : tyF P t = (some .struct, r)) (hsh : eqSh P 5 t = some ks) (ha : ekms ks ax = true) (hb : ekms ks bs = true) (hg : P.eqGuardType P.depth t = false) : OpOK P ops o s ⟨o.dst, .d (.bool (if op = .eql then eqDs ax bs else !eqDs ax bs)), [], [], []⟩ :=
  op_val fun s1 hv _ E g a w hr => by
    have h1 := toD_den (x := .agg ax) rfl (eval_of hr hv (x := x) (by rw [ho]; simp [Op.operands]) hkx hx)
    have h2 := toD_den (x := .agg bs) rfl (eval_of hr hv (x := y) (by rw [ho]; simp [Op.operands]) hky hy)
    have k1 : kOK .struct ks (.agg ax) = true := by simp [kOK, D.cells, D.one, aggT, ha]
    have k2 : kOK .struct ks (.agg bs) = true := by simp [kOK, D.cells, D.one, aggT, hb]
    have e1 := key_val ht hsh k1 h1
    have e2 := key_val ht hsh k2 h2
    have hq := eq_run 5 t ks hsh 10000 (by omega) w ax bs ha hb
    obtain ⟨dsc, hd1, hd2⟩ := tyF_agg ht
    obtain ⟨fs, rfl⟩ : ∃ fs, dsc = .struct fs := by cases dsc <;> first | exact ⟨_, rfl⟩ | cases hd2
    simp only [mkV, hd1, D.cells] at e1 e2 hq
    have hgd : ∀ o', (eqGuard o' t x y (.agg (ax.map D.pv).toArray) (.agg (bs.map D.pv).toArray)).run P w = .ok () w := fun o' => run_eqGuard_agg (P := P) w o' t x y _ _ hg
    rcases hop with rfl | rfl
    · refine ⟨.bool _, ?_, .d (.bool _)⟩
      unfold execOp
      rw [ho]
      have := run_eql_struct (P := P) w t (ax.map D.pv).toArray (bs.map D.pv).toArray
      rw [hq] at this
      simp only [Sem.run_bind, hgd, Result.andThen_ok, e1, e2, this, Sem.run_pure]
      rfl
    · refine ⟨.bool _, ?_, .d (.bool _)⟩
      unfold execOp
      rw [ho]
      have := run_neq_struct (P := P) w t (ax.map D.pv).toArray (bs.map D.pv).toArray
      rw [hq] at this
      simp only [Sem.run_bind, hgd, Result.andThen_ok, e1, e2, this, Sem.run_pure]
      rfl
end
end Go.Pm

namespace Go.Pm

theorem g11 {c : Bool} (h : (c == true) = true) : c = true := by simpa using h
theorem g10 {c : Bool} (h : (c == true) = false) : c = false := by simpa using h
theorem g01 {c : Bool} (h : (c == false) = true) : c = false := by simpa using h
theorem g00 {c : Bool} (h : (c == false) = false) : c = true := by simpa using h

theorem ent_d1 {p1 : PV} {x1 y1 : D} {O : List (Nat × Ob)} (h1 : toD p1 = some x1) (e1 : x1 = y1) : Ent (St.of [p1] O) (St.of [.d y1] []) :=
  ent_id rfl (.cons rfl (.data (by rw [h1, e1])) .nil) obs_nil rfl
theorem ent_d2 {p1 p2 : PV} {x1 y1 x2 y2 : D} {O : List (Nat × Ob)} (h1 : toD p1 = some x1) (e1 : x1 = y1) (h2 : toD p2 = some x2) (e2 : x2 = y2) : Ent (St.of [p1, p2] O) (St.of [.d y1, .d y2] []) :=
  ent_id rfl (.cons rfl (.data (by rw [h1, e1])) (.cons rfl (.data (by rw [h2, e2])) .nil)) obs_nil rfl
/-- Lengths of elements. -/
theorem cl_map {α : Type} {f : α → D} {l : List α} {n : Nat} (h : ∀ a, (f a).cells.length = n) : ∀ d ∈ l.map f, d.cells.length = n := by
  intro d hd; obtain ⟨a, _, rfl⟩ := List.mem_map.1 hd; exact h a
theorem cl_nil {n : Nat} : ∀ d ∈ ([] : List D), d.cells.length = n := fun d h => by cases h
theorem cl_one {x : D} {n : Nat} (h : x.cells.length = n) : ∀ d ∈ [x], d.cells.length = n := fun d hd => by rw [List.mem_singleton.1 hd]; exact h
theorem cl_app {a b : List D} {n : Nat} (h : ∀ d ∈ a, d.cells.length = n) (k : ∀ d ∈ b, d.cells.length = n) : ∀ d ∈ a ++ b, d.cells.length = n := fun d hd => (List.mem_append.1 hd).elim (h d) (k d)

section
variable {P : Program} {ops : Array Oper} {o : Oper} {s : St}
/-- Comparing a pointer with nil. -/
theorem op_nilP {op : BinOp} {t e t2 : TypeId} {x y : Operand} {r : Option (Nat × Nat × Option Value)} {p : PV} (ho : o.op = .binOp op t x y t2) (hop : op = .eql ∨ op = .neq) (hx : s.rd x = some p) (hkx : okOp x = true) (hy : s.val y = .d .nilp) (hky : okOp y = true) (ht : tyF P t = (some (.ptr e), r))
    {b : Bool} (hb : (match p with | .d .nilp => some true | .ptr _ _ => some false | .eptr _ _ _ _ => some false | .cptr _ => some false | _ => none) = some b) : OpOK P ops o s ⟨o.dst, .d (.bool (if op = .eql then b else !b)), [], [], []⟩ :=
  op_val fun s1 hv _ E g a w hr => by
    have h1 := eval_of hr hv (x := x) (by rw [ho]; simp [Op.operands]) hkx (rd_val hx)
    have h2 := eval_of hr hv (x := y) (by rw [ho]; simp [Op.operands]) hky hy
    have hyv : a.eval y = .pointer none := by
      generalize a.eval y = vy at h2
      cases h2 with | d h => cases h; rfl
    have hxv : (b = true ∧ a.eval x = .pointer none) ∨ (b = false ∧ ∃ ad, a.eval x = .pointer (some ad)) := by
      generalize a.eval x = vx at h1
      split at hb
      · injection hb with hb; cases h1 with | d h => cases h; exact .inl ⟨hb.symm, rfl⟩
      · injection hb with hb; cases h1; exact .inr ⟨hb.symm, _, rfl⟩
      · injection hb with hb; cases h1; exact .inr ⟨hb.symm, _, rfl⟩
      · injection hb with hb; cases h1; exact .inr ⟨hb.symm, _, rfl⟩
      · cases hb
    refine ⟨.bool _, ?_, .d (.bool _)⟩
    unfold execOp
    rw [ho]
    have hE : ∀ (d : Nat) (v : Option Addr), (Op.equalIn (d + 1) t (.pointer v) (.pointer none)).run P w = .ok v.isNone w := fun d v => by
      cases v <;> simp [Op.equalIn, run_underlying (tyF_und ht rfl)]
    have heq : (Op.equal t (a.eval x) (.pointer none)).run P w = .ok b w := by
      rcases hxv with ⟨rfl, e1⟩ | ⟨rfl, ad, e1⟩
      · rw [e1]; exact hE 9999 none
      · rw [e1]; exact hE 9999 (some ad)
    rcases hxv with ⟨rfl, e1⟩ | ⟨rfl, ad, e1⟩ <;> rw [e1] at heq <;> rcases hop with rfl | rfl <;> simp [hyv, e1, eqGuard, binOp, heq]
end
end Go.Pm

namespace Go.Pm
section
variable {P : Program} {ops : Array Oper} {o : Oper} {s : St}

/-- An element's address in an array variable. -/
theorem op_ixV {t e : TypeId} {x i : Operand} {rr q : Nat} {k : IntKind} {n len : Nat} {r : Option (Nat × Nat × Option Value)} {u : Option TK} {sz bs : Nat} {z : Option Value} (ho : o.op = .indexAddr t x i) (hx : s.val x = .ptr rr q) (hi : s.val i = .d (.int k n)) (hkx : okOp x = true) (hki : okOp i = true)
    (ht : tyF P t = (some (.array len e), r)) (he : tyF P e = (u, some (sz, bs, z))) (hn : n < len) : OpOK P ops o s ⟨o.dst, .ptr rr (q + n * sz), [], [], []⟩ :=
  op_val fun s1 hv _ E g a w hr => by
    have h1 := eval_of hr hv (x := x) (by rw [ho]; simp [Op.operands]) hkx hx
    have h2 := vrel_int (eval_of hr hv (x := i) (by rw [ho]; simp [Op.operands]) hki hi)
    obtain ⟨b, hae, hφ⟩ := vrel_ptr h1
    refine ⟨.pointer (some ⟨b, q + n * sz, none⟩), ?_, .ptr hφ⟩
    unfold execOp
    rw [ho]
    have : (0 : Int) ≤ (n : Int) ∧ (n : Int) < (len : Int) := ⟨by omega, by omega⟩
    simp [hae, h2, Instr.indexAt, asIntOf, run_underlying (tyF_und ht rfl), this, run_sizeOf' he, add_none, Instr.sureAddr]
    intro hc'; omega

/-- A literal of a slice. -/
theorem o_bs {t e : TypeId} {n : Nat} {parts : Array (Nat × Operand)} {ds : List D} {rr : Option (Nat × Nat × Option Value)} {u : Option TK} {sz bs : Nat} {zv : Value}
    (ho : o.op = .buildSlice t n parts) (hp : parts.toList = enumO 0 (parts.toList.map (·.2))) (hn : (parts.toList.map (·.2)).length = n) (hds : toDl ((parts.toList.map (·.2)).map s.val) = some ds) (hk : (parts.toList.map (·.2)).all okOp = true) (ht : tyF P t = (some (.slice e), rr)) (he : tyF P e = (u, some (sz, bs, some zv)))
    (hsz : ds.all (fun d => d.cells.length == sz) = true) (hbig : Nat.ble (n * sz) 16777216 = true) : OpOK P ops o s ⟨o.dst, .tl ds none, [], [], []⟩ :=
  op_buildSlice ho hp hn rfl hds hk ht he hsz (Nat.le_of_ble_eq_true hbig)

theorem op_weak {d : Option Tmp} {p : PV} {y : D} {f n : List Nat} (hp : toD p = some y) (h : OpOK P ops o s ⟨d, p, f, n, []⟩) : OpOK P ops o s ⟨d, .d y, f, n, []⟩ := by
  intro s1 ha hf hn hdb E g a w hr K Qx hK
  refine h s1 ha hf hn hdb E g a w hr K Qx fun a' w' g' hr' => hK a' w' g' ?_
  rw [app_gen] at hr' ⊢
  cases d with
  | none => exact hr'
  | some d =>
    refine ⟨hr'.size, hr'.defers, fun i q hi => ?_, hr'.objs, hr'.inj, hr'.own, hr'.fr, hr'.av, hr'.keep⟩
    have hi' : (if d = i then some (PV.d y) else s1.sl i) = some q := hi
    by_cases hdi : d = i
    · rw [if_pos hdi] at hi'; injection hi' with hi'; subst hi'
      obtain ⟨v, h1, h2⟩ := hr'.slots i p (by show (if d = i then some p else s1.sl i) = some p; rw [if_pos hdi])
      exact ⟨v, h1, .d (toD_den hp h2)⟩
    · rw [if_neg hdi] at hi'
      exact hr'.slots i q (by show (if d = i then some p else s1.sl i) = some q; rw [if_neg hdi]; exact hi')
theorem o_mvD {x : Operand} {p : PV} {y : D} (ho : o.op = .move x) (hx : s.rd x = some p) (hk : okOp x = true) (hp : toD p = some y) : OpOK P ops o s ⟨o.dst, .d y, [], [], []⟩ := op_weak hp (o_mv ho hx hk)
theorem o_bsD {t e : TypeId} {n : Nat} {parts : Array (Nat × Operand)} {ds : List D} {rr : Option (Nat × Nat × Option Value)} {u : Option TK} {sz bs : Nat} {zv : Value}
    (ho : o.op = .buildSlice t n parts) (hp : parts.toList = enumO 0 (parts.toList.map (·.2))) (hn : (parts.toList.map (·.2)).length = n) (hds : toDl ((parts.toList.map (·.2)).map s.val) = some ds) (hk : (parts.toList.map (·.2)).all okOp = true) (ht : tyF P t = (some (.slice e), rr)) (he : tyF P e = (u, some (sz, bs, some zv)))
    (hsz : ds.all (fun d => d.cells.length == sz) = true) (hbig : Nat.ble (n * sz) 16777216 = true) : OpOK P ops o s ⟨o.dst, .d (.list ds), [], [], []⟩ := op_weak rfl (o_bs ho hp hn hds hk ht he hsz hbig)
end
end Go.Pm

namespace Go.Pm

theorem vrel_arr {g : Gh} {M : Nat → Nat → Prop} {w : World} {r sz off len : Nat} {v : Value} (h : VRel g M w (.arr r sz off len) v) (hl : 0 < len) : ∃ b cap, v = .slice (some ⟨b, off * sz, none⟩) len cap ∧ g.φ r = some b ∧ len ≤ cap := by
  cases h with
  | arr h ht hc hN => exact ⟨_, _, rfl, h, hc⟩
  | arr0 _ => omega
theorem vrel_arrl {g : Gh} {M : Nat → Nat → Prop} {w : World} {r sz off len : Nat} {v : Value} (h : VRel g M w (.arr r sz off len) v) : ∃ a cap, v = .slice a len cap := by
  cases h with
  | arr h ht hc hN => exact ⟨_, _, rfl⟩
  | arr0 _ => exact ⟨_, _, rfl⟩
theorem len_pos {α : Type} {l : List α} {i : Nat} {x : α} (h : l[i]? = some x) : 0 < l.length := by have := (List.getElem?_eq_some_iff.1 h).1; omega
theorem orel_arr {g : Gh} {M : Nat → Nat → Prop} {w : World} {x sz : Nat} {ds : List D} (h : ORel g M w x (.arr sz ds)) (hn : 0 < ds.length) :
    ∃ b vs elem, g.φ x = some b ∧ w.heap[b]? = some (.cells vs elem (0, 0)) ∧ ds.length * sz ≤ vs.size ∧ (∀ d ∈ ds, d.cells.length = sz) ∧ (∀ d ∈ ds, ∀ x ∈ d.cells, x.one = true) ∧
      (∀ (i : Nat) (d : D), ds[i]? = some d → ∀ (j : Nat) (y : D), d.cells[j]? = some y → (∃ u, vs[i * sz + j]? = some u ∧ Den M w y u)) ∧ g.τ x = some (.int .i64 ((vs.size : Nat) : Int)) := by
  cases h with
  | arr hφ hτ hb hl hsz hone h => exact ⟨_, _, _, hφ, hb, hl, hsz, hone, h, hτ⟩
  | arr0 _ => simp at hn

section
variable {P : Program} {ops : Array Oper} {o : Oper} {s : St}

theorem op_ixR {t e : TypeId} {x i : Operand} {r sz off len : Nat} {k : IntKind} {n : Nat} {rr : Option (Nat × Nat × Option Value)} {u : Option TK} {bs : Nat} {z : Option Value} (ho : o.op = .indexAddr t x i) (hx : s.val x = .arr r sz off len) (hi : s.val i = .d (.int k n)) (hkx : okOp x = true) (hki : okOp i = true)
    (ht : tyF P t = (some (.slice e), rr)) (he : tyF P e = (u, some (sz, bs, z))) (hn : n < len) : OpOK P ops o s ⟨o.dst, .eptr r sz (off + n) 0, [], [], []⟩ :=
  op_val fun s1 hv _ E g a w hr => by
    have h1 := eval_of hr hv (x := x) (by rw [ho]; simp [Op.operands]) hkx hx
    have h2 := vrel_int (eval_of hr hv (x := i) (by rw [ho]; simp [Op.operands]) hki hi)
    obtain ⟨b, cap, hae, hφ, hc⟩ := vrel_arr h1 (by omega)
    have hep := VRel.eptr (g := g) (M := MM E g s1) (w := w) (x := r) (b := b) (sz := sz) (i := off + n) (fo := 0) hφ
    refine ⟨.pointer (some ⟨b, (off + n) * sz + 0, none⟩), ?_, hep⟩
    unfold execOp
    rw [ho]
    have : (0 : Int) ≤ (n : Int) ∧ (n : Int) < (len : Int) := ⟨by omega, by omega⟩
    simp [hae, h2, Instr.indexAt, asIntOf, run_underlying (tyF_und ht rfl), this, run_sizeOf' he, add_none, Nat.add_mul]
    intro hc'; omega

theorem op_lenR {x : Operand} {t : TypeId} {e : TypeId} {r sz off len : Nat} {rr : Option (Nat × Nat × Option Value)}
    (ho : o.op = .call { callee := .builtin .len, args := #[x], argTypes := #[t] }) (hx : s.val x = .arr r sz off len) (hkx : okOp x = true) (ht : tyF P t = (some (.slice e), rr)) :
    OpOK P ops o s ⟨o.dst, .d (.int .i64 len), [], [], []⟩ :=
  op_val fun s1 hv _ E g a w hr => by
    obtain ⟨av, cap, hae⟩ := vrel_arrl (eval_of hr hv (x := x) (by rw [ho]; simp [Op.operands, Call.operands]) hkx hx)
    refine ⟨.int .i64 len, ?_, .d (.int _ _)⟩
    unfold execOp
    rw [ho]
    simp [resolve, invoke, builtin, hae, Builtin.len_, run_underlying (tyF_und ht rfl), goInt]

/-- A load out of an element: all its cells from one on. -/
theorem op_loadEA {t : TypeId} {x : Operand} {r sz i fo k bs : Nat} {ds : List D} {d : D} {u : TK} {z : Option Value} (ho : o.op = .load t x) (hx : s.val x = .eptr r sz i fo) (hkx : okOp x = true) (hob : s.ob r = some (.arr sz ds)) (hd : ds[i]? = some d)
    (ht : tyF P t = (some u, some (k, bs, z))) (ha : aggT u = true) (hl : Nat.ble (fo + k) d.cells.length = true) : OpOK P ops o s ⟨o.dst, .d (.agg ((d.cells.drop fo).take k)), [r], [], []⟩ :=
  op_val fun s1 hv hf E g a w hr => by
    have hl := Nat.le_of_ble_eq_true hl
    have h1 := eval_of hr hv (x := x) (by rw [ho]; simp [Op.operands]) hkx hx
    obtain ⟨b, hae, hφ⟩ := vrel_eptr h1
    obtain ⟨b', vs, elem, hφ', hb, hsz, hds, hone, hcell, hτr⟩ := orel_arr (hr.objs r _ (by rw [hf r (by simp)]; exact hob)) (len_pos hd)
    rw [hφ] at hφ'; injection hφ' with hφ'; subst hφ'
    have hil := (List.getElem?_eq_some_iff.1 hd).1
    have hdm := List.mem_of_getElem? hd
    have hdl := hds d hdm
    have hrow : (i + 1) * sz ≤ ds.length * sz := Nat.mul_le_mul_right _ hil
    rw [Nat.add_mul] at hrow
    have hvl : ((vs.toList.drop (i * sz + fo)).take k).length = k := by simp; omega
    have hget : ∀ (j : Nat) (v : Value), ((vs.toList.drop (i * sz + fo)).take k)[j]? = some v → j < k ∧ vs[i * sz + fo + j]? = some v := by
      intro j v hj
      have hj' : j < k := by have := (List.getElem?_eq_some_iff.1 hj).1; omega
      simp only [List.getElem?_take, if_pos hj', List.getElem?_drop] at hj
      exact ⟨hj', by simpa using hj⟩
    have hden : ∀ (j : Nat) (y : D), ((d.cells.drop fo).take k)[j]? = some y → ∃ v, vs[i * sz + fo + j]? = some v ∧ Den (MM E g s1) w y v ∧ y.one = true := by
      intro j y hj
      have hj' : j < k := by have := (List.getElem?_eq_some_iff.1 hj).1; simp at this; omega
      simp only [List.getElem?_take, if_pos hj', List.getElem?_drop] at hj
      obtain ⟨v, e1, e2⟩ := hcell i d hd _ y hj
      exact ⟨v, by rw [Nat.add_assoc]; exact e1, e2, hone d hdm y (List.mem_of_getElem? hj)⟩
    refine ⟨.agg ((vs.toList.drop (i * sz + fo)).take k).toArray, ?_, .d (.agg _ _ (by rw [hvl]; simp; omega) (fun y hy => ?_) (fun j y hj v hv => ?_))⟩
    · unfold execOp
      rw [ho]
      have := run_loadVar_agg (w := w) (b := b) (q := i * sz + fo) ht ha hvl (fun j v hj => by
        simp only [World.cell?, hb]
        simpa using (hget j v hj).2)
      simp [hae, Instr.loadAt, Instr.sureAddr, this]
    · obtain ⟨j, hj⟩ := List.mem_iff_getElem?.1 hy
      exact (hden j y hj).choose_spec.2.2
    · obtain ⟨v', e1, e2, _⟩ := hden j y hj
      have := (hget j v hv).2
      rw [e1] at this; injection this with this; rw [← this]; exact e2
theorem op_loadE1 {t : TypeId} {x : Operand} {r sz i fo : Nat} {ds : List D} {d c : D} {u : TK} {rr : Option (Nat × Nat × Option Value)} (ho : o.op = .load t x) (hx : s.val x = .eptr r sz i fo) (hkx : okOp x = true) (hob : s.ob r = some (.arr sz ds)) (hd : ds[i]? = some d)
    (ht : tyF P t = (some u, rr)) (ha : aggT u = false) (hl : d.cells[fo]? = some c) : OpOK P ops o s ⟨o.dst, .d c, [r], [], []⟩ :=
  op_val fun s1 hv hf E g a w hr => by
    have h1 := eval_of hr hv (x := x) (by rw [ho]; simp [Op.operands]) hkx hx
    obtain ⟨b, hae, hφ⟩ := vrel_eptr h1
    obtain ⟨b', vs, elem, hφ', hb, hsz, hds, hone, hcell, hτr⟩ := orel_arr (hr.objs r _ (by rw [hf r (by simp)]; exact hob)) (len_pos hd)
    rw [hφ] at hφ'; injection hφ' with hφ'; subst hφ'
    obtain ⟨v, e1, e2⟩ := hcell i d hd fo c hl
    refine ⟨v, ?_, .d e2⟩
    unfold execOp
    rw [ho]
    have := run_loadVar_one (w := w) (b := b) (q := i * sz + fo) (v := v) ht ha (by simp only [World.cell?, hb]; simpa using e1)
    simp [hae, Instr.loadAt, Instr.sureAddr, this]
end
end Go.Pm

namespace Go.Pm
def wrD (cs : List D) (q : Nat) : List D → List D
  | [] => cs
  | p :: r => wrD (cs.set q p) (q + 1) r
theorem wrD_length : ∀ (news cs : List D) (q : Nat), (wrD cs q news).length = cs.length
  | [], cs, q => rfl
  | p :: r, cs, q => by simp only [wrD, wrD_length r]; simp
theorem wrD_get : ∀ (news cs : List D) (q j : Nat), q + news.length ≤ cs.length → (wrD cs q news)[j]? = if q ≤ j ∧ j < q + news.length then news[j - q]? else cs[j]?
  | [], cs, q, j, h => by
    simp only [wrD, List.length_nil, Nat.add_zero]
    rw [if_neg (by omega)]
  | p :: r, cs, q, j, h => by
    simp only [List.length_cons] at h
    simp only [wrD]
    rw [wrD_get r (cs.set q p) (q + 1) j (by simp; omega)]
    simp only [List.length_cons]
    by_cases h1 : q = j
    · subst h1
      rw [if_neg (by omega), if_pos (by omega), List.getElem?_set]
      simp; omega
    · by_cases h2 : q + 1 ≤ j ∧ j < q + 1 + r.length
      · rw [if_pos h2, if_pos (by omega)]
        rw [show j - q = (j - (q + 1)) + 1 from by omega, List.getElem?_cons_succ]
      · rw [if_neg h2, if_neg (by omega), List.getElem?_set_ne h1]
/-- An element with cells of it replaced. -/
def D.upd (d : D) (fo : Nat) (news : List D) : D := match d with
  | .agg cs => .agg (wrD cs fo news)
  | _ => news.headD d
theorem upd_cells {d : D} {fo : Nat} {news : List D} (h : fo + news.length ≤ d.cells.length) (hn : 0 < news.length) (ho : ∀ x ∈ news, x.one = true) : (d.upd fo news).cells = wrD d.cells fo news := by
  cases d with
  | agg cs => rfl
  | _ =>
    simp only [D.cells, List.length_cons, List.length_nil] at h
    match news, hn, h, ho with
    | [x], _, h, ho =>
      have : fo = 0 := by simp at h; omega
      subst this
      have hx := ho x (by simp)
      simp only [D.upd, D.cells, wrD, List.headD_cons, List.set_cons_zero]
      cases x <;> first | rfl | cases hx
    | x :: y :: r, _, h, _ => simp at h; omega

section
variable {P : Program} {ops : Array Oper} {o : Oper} {s : St}
theorem op_storeE {t : TypeId} {x v : Operand} {r sz i fo k bs : Nat} {ds news : List D} {d : D} {nw : List PV} {u : Option TK} {z : Option Value} (ho : o.op = .store t x v) (hx : s.val x = .eptr r sz i fo) (hkx : okOp x = true) (hob : s.ob r = some (.arr sz ds)) (hd : ds[i]? = some d)
    (hv : cellsP (s.val v) = some nw) (hnw : toDs nw = some news) (hkv : okOp v = true) (ht : tyF P t = (u, some (k, bs, z))) (hk : news.length = k) (hk0 : Nat.ble 1 k = true) (hl : Nat.ble (fo + k) d.cells.length = true) :
    OpOK P ops o s ⟨o.dst, .tup [], [r], [], [(r, some (.arr sz (ds.set i (d.upd fo news))))]⟩ := by
  intro s1 ha hf hn hdb E g a w hr K Qx hK
  have hl := Nat.le_of_ble_eq_true hl
  have hk0 := Nat.le_of_ble_eq_true hk0
  have hag : ∀ x ∈ o.op.operands, s1.val x = s.val x := fun x hx => val_agree ha hx
  have h1 := eval_of (s := s) hr hag (x := x) (by rw [ho]; simp [Op.operands]) hkx hx
  have h2 := eval_of (s := s) hr hag (x := v) (by rw [ho]; simp [Op.operands]) hkv rfl
  have hob1 : s1.ob r = some (.arr sz ds) := by rw [hf r (by simp)]; exact hob
  obtain ⟨b, hae, hφ⟩ := vrel_eptr h1
  obtain ⟨b', vs, elem, hφ', hb, hsz, hds, hone, hcell, hτr⟩ := orel_arr (hr.objs r _ hob1) (len_pos hd)
  rw [hφ] at hφ'; injection hφ' with hφ'; subst hφ'
  obtain ⟨hvl, hvc⟩ := cellsP_rel hv h2
  obtain ⟨hn1, hn2, hn3⟩ := toDs_spec' hnw
  have hil := (List.getElem?_eq_some_iff.1 hd).1
  have hdm := List.mem_of_getElem? hd
  have hdl := hds d hdm
  have hrow : (i + 1) * sz ≤ ds.length * sz := Nat.mul_le_mul_right _ hil
  rw [Nat.add_mul] at hrow
  have huc := upd_cells (d := d) (fo := fo) (news := news) (by omega) (by omega) hn2
  have hone' : ∀ y ∈ (a.eval v).cells.toList, y.oneCell' = true := by
    intro y hy
    obtain ⟨j, hj⟩ := List.mem_iff_getElem?.1 hy
    have hjl : j < nw.length := by have := (List.getElem?_eq_some_iff.1 hj).1; simp at this; omega
    obtain ⟨u', e1, e2, _⟩ := hvc j _ (List.getElem?_eq_getElem hjl)
    have : (a.eval v).cells[j]? = some y := by simpa using hj
    rw [e1] at this; injection this with this; rw [← this]; exact e2
  have hst := run_storeCells_at P b (i * sz + fo) elem (a.eval v).cells.toList 0 vs w hb (by simp [hvl]; omega) hone'
  simp only [Nat.add_zero] at hst
  let cells' : Array Value := (vs.toList.take (i * sz + fo) ++ (a.eval v).cells.toList ++ vs.toList.drop (i * sz + fo + (a.eval v).cells.toList.length)).toArray
  have hnl : (a.eval v).cells.toList.length = k := by simp [hvl]; omega
  have hcs : cells'.size = vs.size := by
    show (vs.toList.take (i * sz + fo) ++ (a.eval v).cells.toList ++ vs.toList.drop (i * sz + fo + (a.eval v).cells.toList.length)).toArray.size = _
    rw [hnl]; simp [hvl]; omega
  have hget : ∀ j, cells'[j]? = if i * sz + fo ≤ j ∧ j < i * sz + fo + k then (a.eval v).cells[j - (i * sz + fo)]? else vs[j]? := by
    intro j
    show (vs.toList.take (i * sz + fo) ++ (a.eval v).cells.toList ++ vs.toList.drop (i * sz + fo + (a.eval v).cells.toList.length)).toArray[j]? = _
    rw [hnl]
    simp only [List.getElem?_toArray]
    have htl : (vs.toList.take (i * sz + fo)).length = i * sz + fo := by rw [List.length_take]; simp; omega
    by_cases h3 : j < i * sz + fo
    · rw [List.append_assoc, List.getElem?_append_left (by omega), List.getElem?_take, if_pos h3, if_neg (by omega)]; simp
    · by_cases h4 : j < i * sz + fo + k
      · rw [List.getElem?_append_left (by simp only [List.length_append, htl, hnl]; omega), List.getElem?_append_right (by omega), htl, if_pos ⟨by omega, h4⟩]; simp
      · rw [List.getElem?_append_right (by simp only [List.length_append, htl, hnl]; omega), List.getElem?_drop, if_neg (by omega)]
        simp only [List.length_append, htl, hnl]
        rw [show i * sz + fo + k + (j - (i * sz + fo + k)) = j from by omega]; simp
  have hrun : (execOp a.eval o).run P w = .ok .skip (w.setRow b cells') := by
    unfold execOp
    rw [ho]
    have hsv : (storeVar t ⟨b, i * sz + fo, none⟩ (a.eval v)).run P w = .ok () (w.setRow b cells') := by
      have : (a.eval v).cells.size = k := by rw [hvl]; omega
      simp [storeVar, run_sizeOf' ht, this, hst, cells']
    simp [Instr.storeAt, hae, Instr.sureAddr, hsv]
  unfold Oper.wp
  rw [hrun]
  have hMr : ∀ q', MM E g s1 b q' := fun q' => .inr ⟨r, _, hob1, hφ⟩
  have hMM : ∀ bb oo, MM E g ⟨s1.n, s1.slots, setOb s1.objs r (some (.arr sz (ds.set i (d.upd fo news))))⟩ bb oo → MM E g s1 bb oo := by
    rintro bb oo (hm | ⟨y, ob, hy, hm⟩)
    · exact .inl hm
    · have hy' : look (setOb s1.objs r (some (.arr sz (ds.set i (d.upd fo news))))) y = some ob := hy
      rw [look_setOb] at hy'
      by_cases hyr : y = r
      · subst hyr
        rw [if_pos rfl] at hy'; injection hy' with hy'; subst hy'
        exact .inr ⟨y, _, hob1, hm⟩
      · rw [if_neg hyr] at hy'; exact .inr ⟨y, ob, hy', hm⟩
  have hsame : Same (MM E g s1) w (w.setRow b cells') := setRow_same hb fun oo uu _ hm => absurd (hMr oo) hm
  have hown := hr.own r _ b hob1 hφ
  have hucl : (d.upd fo news).cells.length = sz := by rw [huc, wrD_length, hdl]
  have hrel : Rel E g ⟨s1.n, s1.slots, setOb s1.objs r (some (.arr sz (ds.set i (d.upd fo news))))⟩ a (w.setRow b cells') := by
    refine hr.turn r rfl rfl (fun y hy => ?_) (fun y hy => ⟨rfl, rfl⟩) (.inl ⟨rfl, rfl⟩) (fun bb oo _ h => hMM bb oo h) hsame (fun y ob bb hy h3 h4 => ?_) (fun ob h3 => ?_) (fun ob bb h3 h4 => ?_) (setRow_frm hr.fr hown.1 _) (by rw [setRow_size]; exact Nat.le_refl _) (.inr ⟨rfl, rfl⟩)
    · show look _ _ = look _ _
      rw [look_setOb, if_neg hy]
    · refine setRow_other w b bb _ ?_
      rintro rfl
      exact hy (hr.inj y r _ _ _ h3 hob1 h4 hφ)
    · have h3' : look (setOb s1.objs r (some (.arr sz (ds.set i (d.upd fo news))))) r = some ob := h3
      rw [look_setOb, if_pos rfl] at h3'
      injection h3' with h3'; subst h3'
      refine .arr hφ (by rw [hcs]; exact hτr) (setRow_heap w b vs cells' elem (0, 0) hb) (by rw [hcs]; simpa using hsz) (fun d' hd' => ?_) (fun d' hd' y hy => ?_) (fun i' d' hi' j y hj => ?_)
      · rcases List.mem_or_eq_of_mem_set hd' with h | h
        · exact hds d' h
        · rw [h]; exact hucl
      · rcases List.mem_or_eq_of_mem_set hd' with h | h
        · exact hone d' h y hy
        · subst h
          rw [huc] at hy
          obtain ⟨q, hq⟩ := List.mem_iff_getElem?.1 hy
          rw [wrD_get news d.cells fo q (by omega)] at hq
          split at hq
          · exact hn2 y (List.mem_of_getElem? hq)
          · exact hone d hdm y (List.mem_of_getElem? hq)
      · rw [hget]
        have hjl : j < sz := by
          have := (List.getElem?_eq_some_iff.1 hj).1
          rcases List.mem_or_eq_of_mem_set (List.mem_of_getElem? hi') with h | h
          · rw [hds d' h] at this; exact this
          · rw [h, hucl] at this; exact this
        by_cases hii : i = i'
        · subst hii
          rw [List.getElem?_set_self hil] at hi'
          injection hi' with hi'; subst hi'
          rw [huc, wrD_get news d.cells fo j (by omega)] at hj
          by_cases hc : fo ≤ j ∧ j < fo + news.length
          · rw [if_pos hc] at hj
            rw [if_pos (by omega)]
            obtain ⟨p, hp1, hp2⟩ := hn3 _ y hj
            obtain ⟨u', e1, _, e3⟩ := hvc _ p hp1
            exact ⟨u', by rw [show i * sz + j - (i * sz + fo) = j - fo from by omega]; exact e1, (toD_den hp2 e3).mono hsame (fun bb oo _ h => hMM bb oo h)⟩
          · rw [if_neg hc] at hj
            rw [if_neg (by omega)]
            obtain ⟨u', e1, e2⟩ := hcell i d hd j y hj
            exact ⟨u', e1, e2.mono hsame (fun bb oo _ h => hMM bb oo h)⟩
        · rw [List.getElem?_set_ne hii] at hi'
          obtain ⟨u', e1, e2⟩ := hcell i' d' hi' j y hj
          refine ⟨u', ?_, e2.mono hsame (fun bb oo _ h => hMM bb oo h)⟩
          rw [if_neg]
          · exact e1
          · rintro ⟨h5, h6⟩
            rcases Nat.lt_or_gt_of_ne hii with h7 | h7
            · have : (i + 1) * sz ≤ i' * sz := Nat.mul_le_mul_right _ h7
              rw [Nat.add_mul] at this; omega
            · have : (i' + 1) * sz ≤ i * sz := Nat.mul_le_mul_right _ h7
              rw [Nat.add_mul] at this; omega
    · rw [hφ] at h4; injection h4 with h4; subst h4
      exact ⟨fun y ob' hy h5 h6 => hy (hr.inj y r _ _ _ h5 hob1 h6 hφ), hown.1, by rw [setRow_size]; exact hown.2⟩
  refine hK _ _ g ?_
  rw [app_one]
  exact hrel.put (dB_spec hdb) (v := undef) (.tup (vs := []) (cs := []) rfl (by simp))
end
end Go.Pm

namespace Go.Pm

/-- Freezing: an array that nobody writes any more reads as a list. -/
theorem arr_den {g : Gh} {M M' : Nat → Nat → Prop} {w : World} {x sz off len : Nat} {ds : List D} {v : Value} (ho : ORel g M w x (.arr sz ds)) (hv : VRel g M w (.arr x sz off len) v) (hl : off + len ≤ ds.length) (hm : ∀ b o, (w.cell? ⟨b, o, none⟩).isSome = true → M' b o → M b o) (hb : ∀ b o, g.φ x = some b → ¬ M' b o) :
    Den M' w (.list ((ds.drop off).take len)) v := by
  have hcs : (len = 0 ∧ off = 0 ∧ v = .slice none 0 0) ∨ ∃ b vs elem cap, v = .slice (some ⟨b, off * sz, none⟩) len cap ∧ len ≤ cap ∧ g.φ x = some b ∧ w.heap[b]? = some (.cells vs elem (0, 0)) ∧ ds.length * sz ≤ vs.size ∧ (∀ d ∈ ds, d.cells.length = sz) ∧ (∀ d ∈ ds, ∀ x ∈ d.cells, x.one = true) ∧
      (∀ (i : Nat) (d : D), ds[i]? = some d → ∀ (j : Nat) (y : D), d.cells[j]? = some y → (∃ u, vs[i * sz + j]? = some u ∧ Den M w y u)) := by
    cases hv with
    | arr0 h => exact .inl ⟨rfl, rfl, rfl⟩
    | arr h ht hc hN =>
      cases ho with
      | arr0 hφ => rw [hφ] at h; cases h
      | arr hφ hτ hb hl hsz hone hcell => rw [hφ] at h; injection h with h; subst h; exact .inr ⟨_, _, _, _, rfl, hc, hφ, hb, hl, hsz, hone, hcell⟩
  rcases hcs with ⟨rfl, rfl, rfl⟩ | ⟨b, vs, elem, cap, rfl, hc, hφ, hbk, hsz, hds, hone, hcell⟩
  · rw [List.take_zero]; exact .nil
  have hlen : ((ds.drop off).take len).length = len := by simp; omega
  have hsub : ∀ d ∈ (ds.drop off).take len, d ∈ ds := fun d hd => List.mem_of_mem_drop (List.mem_of_mem_take hd)
  have hrow : (off + len) * sz ≤ ds.length * sz := Nat.mul_le_mul_right _ hl
  have := Den.list (M := M') (w := w) ((ds.drop off).take len) b (off * sz) cap sz (fun i j => vs.getD ((off + i) * sz + j) undef) (by rw [hlen]; exact hc) (fun d hd => hds d (hsub d hd)) (fun d hd => hone d (hsub d hd))
    (fun i d hi j y hj => by
      have hil : i < len := by have := (List.getElem?_eq_some_iff.1 hi).1; omega
      rw [List.getElem?_take, if_pos hil, List.getElem?_drop] at hi
      obtain ⟨u, e1, e2⟩ := hcell _ d hi j y hj
      have : vs.getD ((off + i) * sz + j) undef = u := by simp [Array.getD_eq_getD_getElem?, e1]
      rw [this]
      exact e2.mono (Same.refl _ _) hm)
    (fun i j hi hj => by
      rw [hlen] at hi
      refine ⟨?_, hb b _ hφ⟩
      have hle : (off + i + 1) * sz ≤ (off + len) * sz := Nat.mul_le_mul_right _ (by omega)
      rw [Nat.add_mul, Nat.add_mul] at hle
      have e : off * sz + i * sz + j = (off + i) * sz + j := by rw [Nat.add_mul]
      have hlt : (off + i) * sz + j < vs.size := by rw [Nat.add_mul]; rw [Nat.one_mul] at hle; omega
      rw [e]
      simp [World.cell?, hbk, Array.getD_eq_getD_getElem?, hlt])
  rw [hlen] at this
  exact this

/-- An object falls away. -/
theorem Rel.dropO {E : Env} {g : Gh} {s : St} {a : Act} {w : World} (h : Rel E g s a w) (X : Nat) : Rel E g ⟨s.n, s.slots, setOb s.objs X none⟩ a w ∧ ∀ b o, MM E g ⟨s.n, s.slots, setOb s.objs X none⟩ b o → MM E g s b o := by
  have hob : ∀ y, (⟨s.n, s.slots, setOb s.objs X none⟩ : St).ob y = if y = X then none else s.ob y := fun y => look_setOb X y none s.objs
  have hM : ∀ b o, MM E g ⟨s.n, s.slots, setOb s.objs X none⟩ b o → MM E g s b o := by
    rintro b o (hm | ⟨y, ob, hy, hm⟩)
    · exact .inl hm
    · rw [hob] at hy
      by_cases hyx : y = X
      · rw [if_pos hyx] at hy; cases hy
      · rw [if_neg hyx] at hy; exact .inr ⟨y, ob, hy, hm⟩
  have ob' : ∀ y ob, (⟨s.n, s.slots, setOb s.objs X none⟩ : St).ob y = some ob → s.ob y = some ob := by
    intro y ob hy
    rw [hob] at hy
    by_cases hyx : y = X
    · rw [if_pos hyx] at hy; cases hy
    · rw [if_neg hyx] at hy; exact hy
  refine ⟨⟨h.size, h.defers, fun i p hi => ?_, fun y ob hy => ?_, fun y z o1 o2 b h1 h2 => h.inj y z o1 o2 b (ob' y o1 h1) (ob' z o2 h2), fun y ob b hy => h.own y ob b (ob' y ob hy), h.fr, h.av, h.keep⟩, hM⟩
  · obtain ⟨v, h1, h2⟩ := h.slots i p hi
    exact ⟨v, h1, h2.mono (Same.refl _ _) (fun b o _ hm => hM b o hm) rfl rfl⟩
  · exact (h.objs y ob (ob' y ob hy)).move (Same.refl _ _) (fun b o _ hm => hM b o hm) (fun _ _ => ⟨rfl, rfl⟩) ⟨rfl, rfl⟩ (fun _ _ => rfl)

theorem ent_freeze {s : St} (i X : Nat) {sz off len : Nat} {ds : List D} (hs : s.sl i = some (.arr X sz off len)) (ho : s.ob X = some (.arr sz ds)) (hl : off + len ≤ ds.length) : Ent s ⟨s.n, (i, .d (.list ((ds.drop off).take len))) :: s.slots, setOb s.objs X none⟩ := by
  intro E g a w hr
  obtain ⟨h1, hM⟩ := hr.dropO X
  obtain ⟨v, hv1, hv2⟩ := hr.slots i _ hs
  refine ⟨g, h1.size, h1.defers, fun j q hj => ?_, h1.objs, h1.inj, h1.own, h1.fr, h1.av, h1.keep⟩
  have hj' : (if i = j then some (PV.d (.list ((ds.drop off).take len))) else s.sl j) = some q := hj
  by_cases hij : i = j
  · subst hij
    rw [if_pos rfl] at hj'; injection hj' with hj'; subst hj'
    refine ⟨v, hv1, .d (arr_den (hr.objs X _ ho) hv2 hl (fun b o _ hm => hM b o hm) fun b o hφ hm => ?_)⟩
    have hown := hr.own X _ b ho hφ
    rcases hm with hm | ⟨y, ob, hy, hm⟩
    · have := hr.av b o hm
      rcases hown.1 with h3 | h3
      · omega
      · exact this.2 h3
    · have hy' : look (setOb s.objs X none) y = some ob := hy
      rw [look_setOb] at hy'
      by_cases hyx : y = X
      · rw [if_pos hyx] at hy'; cases hy'
      · rw [if_neg hyx] at hy'
        exact hyx (hr.inj y X ob _ b hy' ho (hr.mut_own hy' hm) hφ)
  · rw [if_neg hij] at hj'
    exact h1.slots j q hj'
end Go.Pm

namespace Go.Pm

def putArr (O : List (Nat × Ob)) (d sz : Nat) (ds : List D) : Option Nat → List (Nat × Ob)
  | none => setOb O d (some (.arr sz ds))
  | some r => setOb (setOb O r none) d (some (.arr sz ds))
theorem look_putArr {O : List (Nat × Ob)} {d sz : Nat} {ds : List D} {r : Option Nat} (y : Nat) : look (putArr O d sz ds r) y = if y = d then some (.arr sz ds) else if r = some y then none else look O y := by
  cases r with
  | none => simp only [putArr, look_setOb]; simp
  | some r =>
    simp only [putArr, look_setOb, Option.some.injEq]
    by_cases h1 : y = d
    · simp [h1]
    · by_cases h2 : y = r
      · subst h2; simp [h1]
      · rw [if_neg h1, if_neg h1, if_neg h2, if_neg (fun h => h2 h.symm)]
theorem updOb_putArr (O : List (Nat × Ob)) (d sz : Nat) (ds : List D) (r : Option Nat) : updOb O ((r.toList.map fun x => (x, none)) ++ [(d, some (.arr sz ds))]) = putArr O d sz ds r := by cases r <;> rfl

/-- What an append in place stands on. -/
def StandR (s1 : St) (g : Gh) (M : Nat → Nat → Prop) (w : World) (v : Value) (sz : Nat) (ds : List D) : Option Nat → Prop
  | none => v = .slice none 0 0 ∧ ds = []
  | some r => s1.ob r = some (.arr sz ds) ∧ VRel g M w (.arr r sz 0 ds.length) v

theorem appendR_core {P : Program} {E : Env} {g : Gh} {s1 : St} {a : Act} {w : World} (hr : Rel E g s1 a w) {v y : Value} {ds ys : List D} {bx : Option Nat} {d : Nat} {t ty e : TypeId} {rr : Option (Nat × Nat × Option Value)} {u : Option TK} {sz bs : Nat} {zv : Value}
    (hfr : Fresh s1 d) (hd6 : d < 1000000) (hst : StandR s1 g (MM E g s1) w v sz ds bx) (hy : Den (MM E g s1) w (.list ys) y)
    (ht : tyF P t = (some (.slice e), rr)) (he : tyF P e = (u, some (sz, bs, some zv))) (hzs : zv.cells.size = sz) (hsz : 0 < sz) (hys : ∀ d ∈ ys, d.cells.length = sz) (hm0 : 0 < ys.length)
    (h63 : ds.length + ys.length ≤ 4611686018427387904) (hlim : (ds.length + ys.length) * bs ≤ 140737488355328) :
    ∃ v' w' g', (Builtin.append_ #[t, t] ty #[v, y]).run P w = .ok v' w' ∧ Rel E g' ⟨s1.n, s1.slots, putArr s1.objs d sz (ds ++ ys) bx⟩ a w' ∧ VRel g' (MM E g' ⟨s1.n, s1.slots, putArr s1.objs d sz (ds ++ ys) bx⟩) w' (.arr d sz 0 (ds.length + ys.length)) v' := by
  obtain ⟨ay, cy, news, hy1, hy2, hy3, hy4, hy5, hy6⟩ := run_first (P := P) hy hys
  have hobs : ∀ z, (⟨s1.n, s1.slots, putArr s1.objs d sz (ds ++ ys) bx⟩ : St).ob z = if z = d then some (.arr sz (ds ++ ys)) else if bx = some z then none else s1.ob z := fun z => look_putArr z
  -- the old elements, as a row
  obtain ⟨olds, hv3, hold2, hold⟩ : ∃ olds, RowOf (MM E g s1) w sz ds olds ∧ (∀ r b, bx = some r → g.φ r = some b → ∀ vs elem, w.heap[b]? = some (.cells vs elem (0, 0)) → ∀ (j : Nat) (x : Value), olds[j]? = some x → vs[j]? = some x) ∧ ∀ w1 : World, w1.heap = w.heap → ∃ av cv, v = .slice av ds.length cv ∧ ds.length ≤ cv ∧ (Builtin.firstCells sz ds.length v).run P w1 = .ok olds.toArray w1 := by
    cases bx with
    | none =>
      obtain ⟨rfl, rfl⟩ := hst
      exact ⟨[], ⟨by simp, by simp, by simp, by simp, by simp⟩, fun r b h => (by cases h), fun w1 _ => ⟨none, 0, rfl, Nat.le_refl _, run_firstCells_none w1 _ _ _ _⟩⟩
    | some r =>
      obtain ⟨h1, h2⟩ := hst
      have hcs : (ds = [] ∧ v = .slice none 0 0 ∧ g.φ r = none) ∨ ∃ b vs elem cap, v = .slice (some ⟨b, 0 * sz, none⟩) ds.length cap ∧ ds.length ≤ cap ∧ g.φ r = some b ∧ w.heap[b]? = some (.cells vs elem (0, 0)) ∧ ds.length * sz ≤ vs.size ∧ (∀ d ∈ ds, d.cells.length = sz) ∧ (∀ d ∈ ds, ∀ x ∈ d.cells, x.one = true) ∧
          (∀ (i : Nat) (d : D), ds[i]? = some d → ∀ (j : Nat) (y : D), d.cells[j]? = some y → (∃ u, vs[i * sz + j]? = some u ∧ Den (MM E g s1) w y u)) := by
        have ho := hr.objs r _ h1
        cases ho with
        | arr0 hφ =>
          cases h2 with
          | arr0 h => exact .inl ⟨rfl, rfl, hφ⟩
          | arr h ht hc hN => rw [hφ] at h; cases h
        | arr hφ hτ hb hl hsz hone hcell =>
          generalize hgl : ds.length = n at h2
          cases h2 with
          | arr0 h => rw [hφ] at h; cases h
          | arr h ht hc hN => rw [hφ] at h; injection h with h; subst h; subst hgl; exact .inr ⟨_, _, _, _, rfl, hc, hφ, hb, hl, hsz, hone, hcell⟩
      rcases hcs with ⟨rfl, rfl, hφ⟩ | ⟨b, vs, elem, cap, rfl, hc, hφ, hb, hl, hds, hone, hcell⟩
      · exact ⟨[], ⟨by simp, by simp, by simp, by simp, by simp⟩, fun r' b h h' => by (injection h with h; subst h; rw [hφ] at h'; cases h'), fun w1 _ => ⟨none, 0, rfl, Nat.le_refl _, run_firstCells_none w1 _ _ _ _⟩⟩
      have hlen : (vs.toList.take (ds.length * sz)).length = ds.length * sz := by simp; omega
      have hg : ∀ (j : Nat) (x : Value), (vs.toList.take (ds.length * sz))[j]? = some x → vs[j]? = some x := by
        intro j x hj
        have hjl : j < ds.length * sz := by have := (List.getElem?_eq_some_iff.1 hj).1; omega
        rw [List.getElem?_take, if_pos hjl] at hj
        simpa using hj
      have hden : ∀ (i : Nat) (d : D), ds[i]? = some d → ∀ (j : Nat) (y : D), d.cells[j]? = some y → ∃ u, (vs.toList.take (ds.length * sz))[i * sz + j]? = some u ∧ Den (MM E g s1) w y u := by
        intro i d hi j y hj
        obtain ⟨u', e1, e2⟩ := hcell i d hi j y hj
        have hil := (List.getElem?_eq_some_iff.1 hi).1
        have hjl : j < sz := by rw [← hds d (List.mem_of_getElem? hi)]; exact (List.getElem?_eq_some_iff.1 hj).1
        have : (i + 1) * sz ≤ ds.length * sz := Nat.mul_le_mul_right _ hil
        rw [Nat.add_mul] at this
        exact ⟨u', by rw [List.getElem?_take, if_pos (by omega)]; simpa using e1, e2⟩
      refine ⟨vs.toList.take (ds.length * sz), ⟨hlen, fun x hx => ?_, hds, hone, hden⟩, fun r' b' h1 h2 vs' elem' h3 j x hj => ?_, fun w1 hw => ⟨_, cap, rfl, hc, ?_⟩⟩
      · obtain ⟨q, hq⟩ := List.mem_iff_getElem?.1 hx
        have hql : q < ds.length * sz := by have := (List.getElem?_eq_some_iff.1 hq).1; omega
        have h1' : q / sz < ds.length := by rw [Nat.div_lt_iff_lt_mul hsz]; exact hql
        have h2' := Nat.mod_lt q hsz
        have hdq := List.getElem?_eq_getElem h1'
        have hm := List.getElem_mem h1'
        have hyq := List.getElem?_eq_getElem (l := (ds[q / sz]'h1').cells) (i := q % sz) (by rw [hds _ hm]; exact h2')
        obtain ⟨u', e1, e2⟩ := hden _ _ hdq _ _ hyq
        rw [show q / sz * sz + q % sz = q from by rw [Nat.mul_comm]; exact Nat.div_add_mod q sz, hq] at e1
        injection e1 with e1; subst e1
        exact e2.one (hone _ hm _ (List.getElem_mem _))
      · injection h1 with h1; subst h1
        rw [hφ] at h2; injection h2 with h2; subst h2
        rw [hb] at h3; injection h3 with h3; injection h3 with h3 _ _; subst h3
        exact hg j x hj
      · refine run_firstCells_some (P := P) w1 sz ds.length _ ds.length cap _ hlen fun j x hj => ?_
        rw [Nat.zero_mul, add_none, Nat.zero_add]
        simp only [World.cell?, hw, hb]
        simpa using hg j x hj
  have hdne : ∀ r, bx = some r → r ≠ d := by
    rintro r rfl rfl
    have := hst.1
    rw [hfr.ob] at this; cases this
  have hob1 : ∀ y, y ≠ bx.getD d → y ≠ d → (⟨s1.n, s1.slots, putArr s1.objs d sz (ds ++ ys) bx⟩ : St).ob y = s1.ob y := by
    intro y h1 h2
    rw [hobs, if_neg h2, if_neg]
    rintro rfl; exact h1 rfl
  have hob2 : bx.getD d ≠ d → (⟨s1.n, s1.slots, putArr s1.objs d sz (ds ++ ys) bx⟩ : St).ob (bx.getD d) = none := by
    intro h
    cases bx with
    | none => exact absurd rfl h
    | some r => rw [hobs, if_neg h]; simp
  have hobd : ∀ ob, (⟨s1.n, s1.slots, putArr s1.objs d sz (ds ++ ys) bx⟩ : St).ob d = some ob → ob = .arr sz (ds ++ ys) := by
    intro ob h
    rw [hobs, if_pos rfl] at h; injection h with h; exact h.symm
  have hMM : ∀ (b0 : Nat) (vo : Option Value) (b q : Nat), MM E (g.put d (some b0) vo) ⟨s1.n, s1.slots, putArr s1.objs d sz (ds ++ ys) bx⟩ b q →
      (E.av b q ∨ ∃ z ob, z ≠ d ∧ bx ≠ some z ∧ s1.ob z = some ob ∧ mutAt g z ob b q) ∨ b = b0 := by
    rintro b0 vo b q (h | ⟨z, ob, hz, hm⟩)
    · exact .inl (.inl h)
    · rw [hobs] at hz
      by_cases hzd : z = d
      · subst hzd
        rw [if_pos rfl] at hz; injection hz with hz; subst hz
        have : some b0 = some b := by simpa [mutAt, Gh.put] using hm
        injection this with this
        exact .inr this.symm
      · rw [if_neg hzd] at hz
        by_cases hzb : bx = some z
        · rw [if_pos hzb] at hz; cases hz
        · rw [if_neg hzb] at hz
          refine .inl (.inr ⟨z, ob, hzd, hzb, hz, ?_⟩)
          rw [← mutAt_same (gc := g.put d (some b0) vo) (g := g) ⟨by simp [Gh.put, hzd], by simp [Gh.put, hzd]⟩]; exact hm
  have hMold : ∀ (b q : Nat), (E.av b q ∨ ∃ z ob, z ≠ d ∧ bx ≠ some z ∧ s1.ob z = some ob ∧ mutAt g z ob b q) → MM E g s1 b q := by
    rintro b q (h | ⟨z, ob, _, _, h1, h2⟩)
    · exact .inl h
    · exact .inr ⟨z, ob, h1, h2⟩
  have hrow := hv3.append hy3
  have hnl : news.length = ys.length * sz := hy3.len
  have holl : olds.length = ds.length * sz := hv3.len
  have hlen : (ds ++ ys).length = ds.length + ys.length := by simp
  obtain ⟨av, cv, hv1, hcv, _⟩ := hold w rfl
  have hdall : ∀ d ∈ ds ++ ys, d.cells.length = sz := hrow.dsz
  have hdone : ∀ d ∈ ds ++ ys, ∀ x ∈ d.cells, x.one = true := hrow.done
  by_cases hroom : ds.length + ys.length ≤ cv
  · -- in place
    cases bx with
    | none =>
      obtain ⟨h1, h2⟩ := hst
      rw [hv1] at h1; injection h1 with _ h5 h6; omega
    | some r =>
      obtain ⟨hst1, hst2⟩ := hst
      rw [hv1] at hst2
      obtain ⟨b, vs, elem, hφ, hb, hl, hds, hone, hcell, hτ⟩ : ∃ b vs elem, g.φ r = some b ∧ w.heap[b]? = some (.cells vs elem (0, 0)) ∧ ds.length * sz ≤ vs.size ∧ (∀ d ∈ ds, d.cells.length = sz) ∧ (∀ d ∈ ds, ∀ x ∈ d.cells, x.one = true) ∧
          (∀ (i : Nat) (d : D), ds[i]? = some d → ∀ (j : Nat) (y : D), d.cells[j]? = some y → (∃ u, vs[i * sz + j]? = some u ∧ Den (MM E g s1) w y u)) ∧ g.τ r = some (.int .i64 ((vs.size : Nat) : Int)) := by
        have ho := hr.objs r _ hst1
        cases ho with
        | arr hφ hτ hb hl hsz hone hcell => exact ⟨_, _, _, hφ, hb, hl, hsz, hone, hcell, hτ⟩
        | arr0 hφ =>
          cases hst2 with
          | arr0 h => exact absurd hroom (by simp only [List.length_nil]; omega)
          | arr h ht hc hN => rw [hφ] at h; cases h
      have hav : av = some ⟨b, 0, none⟩ ∧ cv * sz ≤ vs.size := by
        generalize hgl : ds.length = n at hst2
        cases hst2 with
        | arr0 h => rw [hφ] at h; cases h
        | arr h ht hc hN =>
          rw [hφ] at h; injection h with h; subst h
          rw [hτ] at ht
          have hN' := Option.some.inj ht
          simp only [Value.int.injEq, true_and] at hN'
          have : vs.size = _ := Int.ofNat.inj hN'
          refine ⟨by simp, by rw [this]; simpa using hN⟩
      obtain ⟨rfl, hcvs⟩ := hav
      have hsum : ds.length * sz + ys.length * sz ≤ cv * sz := by rw [← Nat.add_mul]; exact Nat.mul_le_mul_right _ hroom
      have hfit : 0 + ds.length * sz + news.length ≤ vs.size := by rw [hnl]; omega
      let cells' : Array Value := (vs.toList.take (0 + ds.length * sz) ++ news ++ vs.toList.drop (0 + ds.length * sz + news.length)).toArray
      have hget : ∀ j, cells'[j]? = if ds.length * sz ≤ j ∧ j < ds.length * sz + news.length then news[j - ds.length * sz]? else vs[j]? := by
        intro j
        show (vs.toList.take (0 + ds.length * sz) ++ news ++ vs.toList.drop (0 + ds.length * sz + news.length)).toArray[j]? = _
        rw [Nat.zero_add]
        simp only [List.getElem?_toArray]
        have htl : (vs.toList.take (ds.length * sz)).length = ds.length * sz := by rw [List.length_take]; simp; omega
        by_cases h3 : j < ds.length * sz
        · rw [List.append_assoc, List.getElem?_append_left (by omega), List.getElem?_take, if_pos h3, if_neg (by omega)]; simp
        · by_cases h4 : j < ds.length * sz + news.length
          · rw [List.getElem?_append_left (by simp only [List.length_append, htl]; omega), List.getElem?_append_right (by omega), htl, if_pos ⟨by omega, h4⟩]
          · rw [List.getElem?_append_right (by simp only [List.length_append, htl]; omega), List.getElem?_drop, if_neg (by omega)]
            simp only [List.length_append, htl]
            rw [show ds.length * sz + news.length + (j - (ds.length * sz + news.length)) = j from by omega]; simp
      have hcsz : cells'.size = vs.size := by
        show (vs.toList.take (0 + ds.length * sz) ++ news ++ vs.toList.drop (0 + ds.length * sz + news.length)).toArray.size = _
        simp; omega
      have hown := hr.own r _ b hst1 hφ
      have hMr : ∀ q, MM E g s1 b q := fun q => .inr ⟨r, _, hst1, hφ⟩
      have hsame : Same (MM E g s1) w (w.setRow b cells') := setRow_same hb fun q uu hu hm => absurd (hMr q) hm
      have hM' : ∀ b' q, MM E (g.put d (some b) (some (.int .i64 ((vs.size : Nat) : Int)))) ⟨s1.n, s1.slots, putArr s1.objs d sz (ds ++ ys) (some r)⟩ b' q → MM E g s1 b' q := by
        intro b' q hm
        rcases hMM _ _ b' q hm with h | h
        · exact hMold b' q h
        · subst h; exact hMr q
      refine ⟨.slice (some ⟨b, 0, none⟩) (ds.length + ys.length) cv, w.setRow b cells', g.put d (some b) (some (.int .i64 ((vs.size : Nat) : Int))), ?_, ?_, ?_⟩
      · rw [hv1, hy1]
        obtain ⟨_, _, e1, _, e3⟩ := hold w rfl
        exact run_append_ip ht he w hb hroom (by have := hy6 w rfl; rw [hy1] at this; exact this) hy3.one hfit
      · refine Rel.swap hr r d hfr hd6 _ _ rfl rfl hob1 hob2 (fun b q _ => hM' b q) hsame (fun z ob b' hzr _ h1 h2 => ?_) (fun ob hob => ?_) (fun b' hb' => ?_) (setRow_frm hr.fr hown.1 _) (by rw [setRow_size]; exact Nat.le_refl _)
        · refine setRow_other w b b' _ ?_
          rintro rfl
          exact hzr (hr.inj z r _ _ _ h1 hst1 h2 hφ)
        · rw [hobd ob hob]
          have hrow' := hrow.mono hsame (fun b q _ => hM' b q)
          refine .arr (b := b) (vs := cells') (by simp [Gh.put]) (by simp [Gh.put, hcsz]) (setRow_heap w b vs cells' elem (0, 0) hb) (by rw [hcsz, hlen, Nat.add_mul]; omega) hdall hdone (fun i d' hi j y' hj => ?_)
          obtain ⟨u', e1, e2⟩ := hrow'.den i d' hi j y' hj
          refine ⟨u', ?_, e2⟩
          have hjl := (List.getElem?_eq_some_iff.1 e1).1
          rw [hget]
          by_cases hj1 : i * sz + j < ds.length * sz
          · rw [if_neg (by omega)]
            rw [List.getElem?_append_left (by omega)] at e1
            exact hold2 r b rfl hφ vs elem hb _ _ e1
          · rw [List.getElem?_append_right (by omega)] at e1
            rw [List.length_append] at hjl
            rw [if_pos ⟨by omega, by omega⟩, ← e1, holl]
        · injection hb' with hb'; subst hb'
          exact ⟨fun z ob' hz h1 h2 => hz (hr.inj z r _ _ b h1 hst1 h2 hφ), hown.1, by rw [setRow_size]; exact hown.2⟩
      · have := VRel.arr (g := g.put d (some b) (some (.int .i64 ((vs.size : Nat) : Int)))) (M := MM E (g.put d (some b) (some (.int .i64 ((vs.size : Nat) : Int)))) ⟨s1.n, s1.slots, putArr s1.objs d sz (ds ++ ys) (some r)⟩) (w := w.setRow b cells') (x := d) (b := b) (sz := sz) (off := 0) (len := ds.length + ys.length) (cap := cv) (N := vs.size) (by simp [Gh.put]) (by simp [Gh.put]) hroom (by simpa using hcvs)
        simpa using this
  · -- a new row
    have hge := grownCap_ge w (ds.length + ys.length) cv e
    let G := grownCap w (ds.length + ys.length) cv e
    have hG : ds.length + ys.length ≤ G := hge
    let row : Array Value := olds.toArray ++ news.toArray ++ Builtin.zeroCells zv.cells (G - (ds.length + ys.length))
    have hrowsz : row.size = G * sz := by
      show (olds.toArray ++ news.toArray ++ Builtin.zeroCells zv.cells (G - (ds.length + ys.length))).size = _
      simp only [Array.size_append, List.size_toArray, size_zeroCells, hzs, holl, hnl, ← Nat.add_mul]
      congr 1; omega
    have hM' : ∀ b' q, (w.cell? ⟨b', q, none⟩).isSome = true → MM E (g.put d (some w.heap.size) (some (.int .i64 ((row.size : Nat) : Int)))) ⟨s1.n, s1.slots, putArr s1.objs d sz (ds ++ ys) bx⟩ b' q → MM E g s1 b' q := by
      intro b' q hc hm
      rcases hMM _ _ b' q hm with h | h
      · exact hMold b' q h
      · subst h
        exfalso
        simp [World.cell?] at hc
    have hsame : Same (MM E g s1) w (w.drew.alloc (.cells row e)) := fun b' q uu h1 h2 => Same.alloc (MM E g s1) w.drew (.cells row e) b' q uu h1 h2
    refine ⟨.slice (some ⟨w.heap.size, 0, none⟩) (ds.length + ys.length) G, w.drew.alloc (.cells row e), g.put d (some w.heap.size) (some (.int .i64 ((row.size : Nat) : Int))), ?_, ?_, ?_⟩
    · obtain ⟨av', cv', e1, _, e3⟩ := hold w.drew rfl
      rw [hv1] at e1; injection e1 with e4 e5 e6; subst e4; subst e6
      rw [hv1, hy1]
      exact run_append_new ht he w (by omega) (by rw [hv1] at e3; exact e3) (by have := hy6 w.drew rfl; rw [hy1] at this; exact this) h63 hlim
    · refine Rel.swap hr (bx.getD d) d hfr hd6 _ _ rfl rfl hob1 hob2 hM' hsame (fun z ob b' hzr hzd h1 h2 => ?_) (fun ob hob => ?_) (fun b' hb' => ?_) ((frm_drew hr.fr).alloc _) (by simp)
      · exact RowKit.Below.heap_alloc w.drew _ _ (hr.own z ob b' h1 h2).2
      · rw [hobd ob hob]
        have hrow' := hrow.mono hsame hM'
        refine .arr (b := w.heap.size) (vs := row) (by simp [Gh.put]) (by simp [Gh.put]) (heap_alloc_new w.drew _) (by rw [hrowsz, hlen]; exact Nat.mul_le_mul_right _ hG) hdall hdone (fun i d' hi j y' hj => ?_)
        obtain ⟨u', e1, e2⟩ := hrow'.den i d' hi j y' hj
        refine ⟨u', ?_, e2⟩
        have hjl := (List.getElem?_eq_some_iff.1 e1).1
        show (olds.toArray ++ news.toArray ++ Builtin.zeroCells zv.cells (G - (ds.length + ys.length)))[i * sz + j]? = _
        rw [List.length_append] at hjl
        rw [Array.getElem?_append_left (by simp; omega)]
        simpa using e1
      · injection hb' with hb'; subst hb'
        refine ⟨fun z ob' hz h1 h2 => absurd (hr.own z ob' _ h1 h2).2 (Nat.lt_irrefl _), .inl hr.fr.size, by simp⟩
    · have := VRel.arr (g := g.put d (some w.heap.size) (some (.int .i64 ((row.size : Nat) : Int)))) (M := MM E (g.put d (some w.heap.size) (some (.int .i64 ((row.size : Nat) : Int)))) ⟨s1.n, s1.slots, putArr s1.objs d sz (ds ++ ys) bx⟩) (w := w.drew.alloc (.cells row e)) (x := d) (b := w.heap.size) (sz := sz) (off := 0) (len := ds.length + ys.length) (cap := G) (N := row.size) (by simp [Gh.put]) (by simp [Gh.put]) hG (by rw [hrowsz, Nat.zero_add]; exact Nat.le_refl _)
      simpa using this
end Go.Pm

namespace Go.Pm

section
variable {P : Program} {ops : Array Oper} {o : Oper} {s : St}

theorem op_appendR {t e : TypeId} {x y : Operand} {ds ys : List D} {bx : Option Nat} {d : Tmp} {rr : Option (Nat × Nat × Option Value)} {u : Option TK} {sz bs : Nat} {zv : Value}
    (ho : o.op = .call { callee := .builtin .append, args := #[x, y], argTypes := #[t, t] }) (hd : o.dst = some d) (hd6 : d < 1000000) (hx : (s.val x = .nils ∧ ds = [] ∧ bx = none) ∨ (∃ r, s.val x = .arr r sz 0 ds.length ∧ s.ob r = some (.arr sz ds) ∧ bx = some r)) (hkx : okOp x = true) (hy : toD (s.val y) = some (.list ys)) (hky : okOp y = true)
    (ht : tyF P t = (some (.slice e), rr)) (he : tyF P e = (u, some (sz, bs, some zv))) (hzs : zv.cells.size = sz) (hsz : 0 < sz) (hys : ∀ d ∈ ys, d.cells.length = sz) (hm0 : 0 < ys.length)
    (h63 : ds.length + ys.length ≤ 4611686018427387904) (hlim : (ds.length + ys.length) * bs ≤ 140737488355328) :
    OpOK P ops o s ⟨o.dst, .arr d sz 0 (ds.length + ys.length), bx.toList, [d], (bx.toList.map fun x => (x, none)) ++ [(d, some (.arr sz (ds ++ ys)))]⟩ := by
  intro s1 ha hf hn hdb E g a w hr K Qx hK
  have hag : ∀ x ∈ o.op.operands, s1.val x = s.val x := fun x hx => val_agree ha hx
  have h1 := eval_of (s := s) hr hag (x := x) (by rw [ho]; simp [Op.operands, Call.operands]) hkx rfl
  have h2 := toD_den hy (eval_of (s := s) hr hag (x := y) (by rw [ho]; simp [Op.operands, Call.operands]) hky rfl)
  have hst : StandR s1 g (MM E g s1) w (a.eval x) sz ds bx := by
    rcases hx with ⟨hx, rfl, rfl⟩ | ⟨r, hx, hr', rfl⟩
    · rw [hx] at h1
      cases hv : a.eval x <;> rw [hv] at h1 <;> cases h1
      exact ⟨rfl, rfl⟩
    · rw [hx] at h1
      exact ⟨by rw [hf r (by simp)]; exact hr', h1⟩
  obtain ⟨v', w', g', e1, e2, e3⟩ := appendR_core (ty := o.type) hr (hn d (by simp)) hd6 hst h2 ht he hzs hsz hys hm0 h63 hlim
  unfold Oper.wp execOp
  simp only [ho, resolve, invoke, builtin, Sem.run_bind, Sem.run_pure, Result.andThen_ok, List.map_toArray, List.map_cons, List.map_nil, e1]
  refine hK _ _ g' ?_
  rw [app_gen, updOb_putArr]
  exact e2.put (dB_spec hdb) e3

/-- A part of an array. -/
theorem op_sliceR {t e : TypeId} {x : Operand} {lo hi : Option Operand} {r sz off len i j : Nat} {rr : Option (Nat × Nat × Option Value)} {u : Option TK} {bs : Nat} {zv : Option Value} (ho : o.op = .slice t x lo hi none) (hx : s.val x = .arr r sz off len) (hkx : okOp x = true)
    (ht : tyF P t = (some (.slice e), rr)) (he : tyF P e = (u, some (sz, bs, zv))) (hlo : isN s lo i 0) (hhi : isN s hi j len) (h1 : i ≤ j) (h2 : j ≤ len) (hlt : i < j ∨ i = 0) :
    OpOK P ops o s ⟨o.dst, .arr r sz (off + i) (j - i), [], [], []⟩ :=
  op_val fun s1 hv _ E g a w hr => by
    have hx1 := eval_of hr hv (x := x) (by rw [ho]; simp [Op.operands]) hkx hx
    generalize hq : a.eval x = vv at hx1
    cases hx1 with
    | arr0 h =>
      obtain rfl : j = 0 := by omega
      obtain rfl : i = 0 := by omega
      have hrun := run_sliceL hr hv ho hq ht he hlo hhi (isN_none (n := 0)) (fun _ => rfl) h1 h2 (Nat.le_refl _)
      refine ⟨_, hrun, ?_⟩
      simp
      exact .arr0 h
    | @arr _ b _ _ _ cap N h hτ hc hN =>
      have hrun := run_sliceL hr hv ho hq ht he hlo hhi (isN_none (n := cap)) (fun _ => rfl) h1 (Nat.le_trans h2 hc) (Nat.le_refl _)
      refine ⟨_, hrun, ?_⟩
      have hif : (if cap = i then some (⟨b, off * sz, none⟩ : Addr) else (some (⟨b, off * sz, none⟩ : Addr)).map fun x => x.add (i * sz)) = some ⟨b, (off + i) * sz, none⟩ := by
        split
        · obtain rfl : i = 0 := by omega
          rfl
        · simp only [Option.map_some, add_none]
          rw [show off * sz + i * sz = (off + i) * sz from by rw [Nat.add_mul]]
      rw [hif]
      exact .arr h hτ (by omega) (by rw [show off + i + (cap - i) = off + cap from by omega]; exact hN)
theorem op_slice3R {t e : TypeId} {x : Operand} {lo : Option Operand} {hi mx : Operand} {r sz off len i j : Nat} {rr : Option (Nat × Nat × Option Value)} {u : Option TK} {bs : Nat} {zv : Option Value} (ho : o.op = .slice t x lo (some hi) (some mx)) (hx : s.val x = .arr r sz off len) (hkx : okOp x = true)
    (ht : tyF P t = (some (.slice e), rr)) (he : tyF P e = (u, some (sz, bs, zv))) (hlo : isN s lo i 0) (hhi : isN s (some hi) j 0) (hmx : isN s (some mx) j 0) (hlt : i < j ∨ i = 0) (h2 : j ≤ len) :
    OpOK P ops o s ⟨o.dst, .arr r sz (off + i) (j - i), [], [], []⟩ :=
  op_val fun s1 hv _ E g a w hr => by
    have hx1 := eval_of hr hv (x := x) (by rw [ho]; simp [Op.operands]) hkx hx
    generalize hq : a.eval x = vv at hx1
    cases hx1 with
    | arr0 h =>
      obtain rfl : j = 0 := by omega
      obtain rfl : i = 0 := by omega
      have hrun := run_sliceL hr hv ho hq ht he hlo hhi hmx (fun h => (by cases h)) (Nat.le_refl _) (Nat.le_refl _) (Nat.le_refl _)
      refine ⟨_, hrun, ?_⟩
      simp
      exact .arr0 h
    | @arr _ b _ _ _ cap N h hτ hc hN =>
      have hrun := run_sliceL hr hv ho hq ht he hlo hhi hmx (fun h => (by cases h)) (by omega) (Nat.le_refl _) (Nat.le_trans h2 hc)
      refine ⟨_, hrun, ?_⟩
      have hif : (if j = i then some (⟨b, off * sz, none⟩ : Addr) else (some (⟨b, off * sz, none⟩ : Addr)).map fun x => x.add (i * sz)) = some ⟨b, (off + i) * sz, none⟩ := by
        split
        · obtain rfl : i = 0 := by omega
          rfl
        · simp only [Option.map_some, add_none]
          rw [show off * sz + i * sz = (off + i) * sz from by rw [Nat.add_mul]]
      rw [hif]
      refine .arr h hτ (Nat.le_refl _) ?_
      have : (off + i + (j - i)) * sz ≤ (off + cap) * sz := Nat.mul_le_mul_right _ (by omega)
      omega
end
end Go.Pm

namespace Go.Pm

theorem awp_glob {P : Program} {c : Code} {Q : Exit → St → Prop} {s : St} (X : Nat) (hX : s.fresh X = true) (h6 : X < 1000000) (hk : ∀ n : Int, awp P c Q ⟨s.n, s.slots, (X, .glob n) :: s.objs⟩) : awp P c Q s := by
  intro E g a w hr
  have hfr := fresh_of hX
  obtain ⟨h1, h2, h3, ob, h4, vs, elem, fz, n, rfl, h5⟩ := hr.fr.gok _ (List.mem_singleton.2 rfl)
  have hb := hr.fr.block _ h1 h2
  simp only at h1 h2 h3 h4 hb
  have hcell : w.cell? ⟨0, 0, none⟩ = some (.int .i64 n) := by simp [World.cell?, hb, h4, h5]
  have hM : ¬ MM E g s 0 0 := by
    rintro (hm | ⟨x, ob', hx, hm⟩)
    · exact h3 0 hm
    · rcases (hr.own _ _ _ hx (hr.mut_own hx hm)).1 with h5 | h5
      · exact absurd h5 (Nat.not_le.2 h1)
      · exact h2 h5
  have hobs : ∀ y, (⟨s.n, s.slots, (X, .glob n) :: s.objs⟩ : St).ob y = if X = y then some (.glob n) else s.ob y := fun y => rfl
  have hMM : ∀ b' q, MM E (g.put X none none) ⟨s.n, s.slots, (X, .glob n) :: s.objs⟩ b' q → MM E g s b' q := by
    rintro b' q (h | ⟨y, ob, hy, hm⟩)
    · exact .inl h
    · rw [hobs] at hy
      by_cases hyX : X = y
      · subst hyX
        rw [if_pos rfl] at hy; injection hy with hy; subst hy
        simp [mutAt, Gh.put] at hm
      · rw [if_neg hyX] at hy
        refine .inr ⟨y, ob, hy, ?_⟩
        rw [← mutAt_same (gc := g.put X none none) (g := g) ⟨by simp [Gh.put, Ne.symm hyX], by simp [Gh.put, Ne.symm hyX]⟩]; exact hm
  have h1 : Rel E (g.put X none none) ⟨s.n, s.slots, (X, .glob n) :: s.objs⟩ a w := by
    refine Rel.swap hr X X hfr h6 _ _ rfl rfl (fun y h1 _ => by rw [hobs, if_neg (Ne.symm h1)]) (fun h => absurd rfl h) (fun b' q _ => hMM b' q) (Same.refl _ _) (fun _ _ _ _ _ _ _ => rfl) (fun ob hob => ?_) (fun b' h => by cases h) hr.fr (Nat.le_refl _)
    rw [hobs, if_pos rfl] at hob; injection hob with hob; subst hob
    exact .glob (by simp [Gh.put]) hcell fun h => hM (hMM _ _ h)
  exact hk n E _ a w h1

section
variable {P : Program} {ops : Array Oper} {o : Oper} {s : St}
theorem op_gload {t : TypeId} {X : Nat} {n : Int} {u : TK} {r : Option (Nat × Nat × Option Value)} (ho : o.op = .load t (.global 0)) (hX : s.ob X = some (.glob n)) (ht : tyF P t = (some u, r)) (ha : aggT u = false) :
    OpOK P ops o s ⟨o.dst, .d (.int .i64 n), [X], [], []⟩ :=
  op_val fun s1 hv hf E g a w hr => by
    have hob := hr.objs X _ (by rw [hf X (by simp)]; exact hX)
    cases hob with
    | glob hφ hc hM =>
      refine ⟨.int .i64 n, ?_, .d (.int _ _)⟩
      unfold execOp
      rw [ho]
      have := run_loadVar_one (w := w) (b := 0) (q := 0) ht ha hc
      simp [Act.eval, Instr.loadAt, Instr.sureAddr, this]
end
end Go.Pm

namespace Go.Pm
open Go.Extern (find findNext)

/-- A function without a body, and its entry. -/
structure ExtF (P : Program) (f : FuncId) (e : Array Value → Sem Value) : Prop where
  some : ∃ fn, P.funcs[f]? = some fn ∧ (fn.name == "runtime.NumGoroutine") = false ∧ fn.body.isNone = true ∧ findNext fn = none ∧ find fn = some e

section
variable {P : Program} {ops : Array Oper} {o : Oper} {s : St}

theorem op_extP {f : FuncId} {xs : Array Operand} {ats : Array TypeId} {e : Array Value → Sem Value} {p : PV} {foot : List Nat} (ho : o.op = .call { callee := .value (.func f), args := xs, argTypes := ats }) (hx : ExtF P f e)
    (hrun : ∀ (s1 : St), (∀ x ∈ o.op.operands, s1.val x = s.val x) → (∀ x ∈ foot, s1.ob x = s.ob x) → ∀ (E : Env) (g : Gh) (a : Act) (w : World), Rel E g s1 a w → ∃ v, (e (xs.map a.eval)).run P w = .ok v w ∧ VRel g (MM E g s1) w p v) :
    OpOK P ops o s ⟨o.dst, p, foot, [], []⟩ :=
  op_val fun s1 hv hf E g a w hr => by
    obtain ⟨v, h1, h2⟩ := hrun s1 hv hf E g a w hr
    obtain ⟨fn, k1, k2, k3, k4, k5⟩ := hx.some
    refine ⟨v, ?_, h2⟩
    unfold execOp
    rw [ho]
    have hc := run_callFunc_extern k1 k2 k3 k4 k5 (xs.map a.eval) w
    rw [h1] at hc
    simp only [Result.andThen_ok] at hc
    simp [resolve, Deferred.ofValue, Act.eval, invoke, hc]

theorem op_countS {f : FuncId} {x y : Operand} {ats : Array TypeId} {l : Bytes} {c : UInt8} {n : Int} (ho : o.op = .call { callee := .value (.func f), args := #[x, y], argTypes := ats }) (hf : ExtF P f Extern.BytealgCount.count)
    (hx : s.val x = .d (.str l)) (hy : s.val y = .d (.int .u8 n)) (hn : n = (c.toNat : Int)) (hkx : okOp x = true) (hky : okOp y = true) : OpOK P ops o s ⟨o.dst, .d (.int .i64 (l.count c : Nat)), [], [], []⟩ :=
  op_extP ho hf fun s1 hv _ E g a w hr => by
    have h1 := vrel_str (eval_of hr hv (x := x) (by rw [ho]; simp [Op.operands, Call.operands]) hkx hx)
    have h2 := vrel_int (eval_of hr hv (x := y) (by rw [ho]; simp [Op.operands, Call.operands]) hky hy)
    refine ⟨_, ?_, .d (.int _ _)⟩
    simp only [List.map_toArray, List.map_cons, List.map_nil, h1, h2]
    rw [Lib.run_countString]
    simp [Lib.countByte, hn]

theorem op_ixB {f : FuncId} {x y : Operand} {ats : Array TypeId} {l : Bytes} {c : UInt8} {n : Int} (ho : o.op = .call { callee := .value (.func f), args := #[x, y], argTypes := ats }) (hf : ExtF P f Extern.BytealgIndexByte.indexByte)
    (hx : s.val x = .d (.str l)) (hy : s.val y = .d (.int .u8 n)) (hn : n = (c.toNat : Int)) (hkx : okOp x = true) (hky : okOp y = true) : OpOK P ops o s ⟨o.dst, .d (.int .i64 (Lib.indexByte l c)), [], [], []⟩ :=
  op_extP ho hf fun s1 hv _ E g a w hr => by
    have h1 := vrel_str (eval_of hr hv (x := x) (by rw [ho]; simp [Op.operands, Call.operands]) hkx hx)
    have h2 := vrel_int (eval_of hr hv (x := y) (by rw [ho]; simp [Op.operands, Call.operands]) hky hy)
    refine ⟨_, ?_, .d (.int _ _)⟩
    simp only [List.map_toArray, List.map_cons, List.map_nil, h1, h2]
    rw [Lib.run_indexByteString]
    simp [hn]

/-- Where a string first stands in another. -/
def ixS (l m : Bytes) : Int := match (List.range (l.length + 1 - m.length)).find? fun i => (l.drop i).take m.length == m with
  | some i => i
  | none => -1

theorem op_ixS {f : FuncId} {x y : Operand} {ats : Array TypeId} {l m : Bytes} {X : Nat} {n : Int} (ho : o.op = .call { callee := .value (.func f), args := #[x, y], argTypes := ats }) (hf : ExtF P f Extern.BytealgIndex.index) (hg : P.globals.findIdx? (·.name == "internal/bytealg.MaxLen") = some 0)
    (hx : s.val x = .d (.str l)) (hy : s.val y = .d (.str m)) (hX : s.ob X = some (.glob n)) (h2 : 2 ≤ m.length) (h3 : (m.length : Int) ≤ n) (h4 : l.length < 4294967281) (hkx : okOp x = true) (hky : okOp y = true) : OpOK P ops o s ⟨o.dst, .d (.int .i64 (ixS l m)), [X], [], []⟩ :=
  op_extP ho hf fun s1 hv hfo E g a w hr => by
    have h5 := vrel_str (eval_of hr hv (x := x) (by rw [ho]; simp [Op.operands, Call.operands]) hkx hx)
    have h6 := vrel_str (eval_of hr hv (x := y) (by rw [ho]; simp [Op.operands, Call.operands]) hky hy)
    have hob := hr.objs X _ (by rw [hfo X (by simp)]; exact hX)
    cases hob with
    | glob hφ hc hM =>
      refine ⟨.int .i64 (ixS l m), ?_, .d (.int _ _)⟩
      simp only [List.map_toArray, List.map_cons, List.map_nil, h5, h6]
      have hml : (Extern.BytealgIndex.maxLen).run P w = .ok n w := by
        simp [Extern.BytealgIndex.maxLen, globalAddr, hg, hc, asInt, asIntOf]
      have hs1 : (⟨l.toArray⟩ : ByteArray).size = l.length := ByteArray.size_mk_toArray l
      have hs2 : (⟨m.toArray⟩ : ByteArray).size = m.length := ByteArray.size_mk_toArray m
      have hex : ∀ i, (ByteArray.extract ⟨l.toArray⟩ i (i + m.length) == (⟨m.toArray⟩ : ByteArray)) = ((l.drop i).take m.length == m) := by
        intro i
        have : ByteArray.extract ⟨l.toArray⟩ i (i + m.length) = ⟨((l.drop i).take m.length).toArray⟩ := by
          apply ByteArray.ext
          rw [ByteArray.data_extract]
          apply Array.ext'
          simp [Array.toList_extract, List.extract]
        rw [this, mk_beq]
      change Sem.run P (bind (Extern.Bytes.bytesOf (.string ⟨l.toArray⟩)) fun _ => bind (Extern.Bytes.bytesOf (.string ⟨m.toArray⟩)) _) w = _
      simp only [Extern.Bytes.bytesOf, Sem.run_bind, Sem.run_pure, Result.andThen_ok, hs1, hs2]
      have c1 : (decide (m.length < 2) || decide ((m.length : Int) > n)) = false := by simp; omega
      have c2 : ¬ l.length ≥ 2 ^ 32 - 15 := by omega
      simp only [hml, Result.andThen_ok, Sem.run_bind]
      rw [if_neg (by simp; omega)]
      rw [if_neg c2]
      simp only [Sem.run_bind, Sem.run_pure, Result.andThen_ok, hex, ixS]
      split <;> rename_i he <;> rw [he] <;> simp [goInt]
end
end Go.Pm

namespace Go.Pm

@[reducible] def bytD (s : Bytes) : List D := s.map fun c => D.int .u8 c.toNat

theorem foldl_push (l : Bytes) : ∀ (b : ByteArray), (l.map fun c => ((c.toNat : Nat) : Int)).foldl (fun (r : ByteArray) n => r.push (UInt8.ofNat n.toNat)) b = ⟨(b.data.toList ++ l).toArray⟩ := by
  induction l with
  | nil => intro b; simp
  | cons c l ih =>
    intro b
    simp only [List.map_cons, List.foldl_cons, ih]
    apply ByteArray.ext
    apply Array.ext'
    simp

theorem byt_row {M : Nat → Nat → Prop} {w : World} {s : Bytes} {v : Value} (h : Den M w (.list (bytD s)) v) : (∃ c, v = .slice none 0 c ∧ s = []) ∨ ∃ a c, v = .slice (some a) s.length c ∧ ∀ j b, s[j]? = some b → w.cell? (a.add j) = some (.int .u8 b.toNat) := by
  obtain ⟨a, c, cs, h1, h2, h3, h4, h5⟩ := den_row (sz := 1) h (by intro d hd; obtain ⟨b, _, rfl⟩ := List.mem_map.1 hd; rfl)
  simp only [List.length_map] at h1 h4
  cases a with
  | none =>
    have : s = [] := List.eq_nil_of_length_eq_zero (h4 rfl)
    subst this
    exact .inl ⟨c, h1, rfl⟩
  | some a =>
    refine .inr ⟨a, c, h1, fun j b hj => ?_⟩
    obtain ⟨u, e1, e2⟩ := h3.den j (.int .u8 b.toNat) (by simp [bytD, hj]) 0 (.int .u8 b.toNat) rfl
    simp only [Nat.mul_one, Nat.add_zero] at e1
    have := (h5 a rfl j u e1).1
    rw [this]
    cases e2; rfl

section
variable {P : Program} {ops : Array Oper} {o : Oper} {s : St}

theorem op_convB {src dst e : TypeId} {x : Operand} {l : Bytes} {r r' r'' : Option (Nat × Nat × Option Value)} (ho : o.op = .convert src dst x) (hx : toD (s.val x) = some (.list (bytD l))) (hkx : okOp x = true)
    (hs : tyF P src = (some (.slice e), r)) (he : tyF P e = (some (.int .u8), r')) (ht : tyF P dst = (some .string, r'')) : OpOK P ops o s ⟨o.dst, .d (.str l), [], [], []⟩ :=
  op_val fun s1 hv _ E g a w hr => by
    have h1 := toD_den hx (eval_of hr hv (x := x) (by rw [ho]; simp [Op.operands]) hkx rfl)
    refine ⟨.string ⟨l.toArray⟩, ?_, .d (.str _)⟩
    unfold execOp
    rw [ho]
    rcases byt_row h1 with ⟨c, hv', rfl⟩ | ⟨b, c, hv', hc⟩
    · have := run_convert_bytes_string (P := P) w src dst e none 0 c (tyF_und hs rfl) (tyF_und he rfl) (tyF_und ht rfl)
      simp only [hv', Sem.run_bind, this]
      simp [Conv.bytesToString]
      rfl
    · have := run_convert_bytes_string (P := P) w src dst e (some b) l.length c (tyF_und hs rfl) (tyF_und he rfl) (tyF_und ht rfl)
      have hl : (loadCells b l.length).run P w = .ok ((l.map fun c => ((c.toNat : Nat) : Int)).map (Value.int .u8)).toArray w := by
        have := run_loadCells_list (P := P) w b ((l.map fun c => ((c.toNat : Nat) : Int)).map (Value.int .u8)) (fun j v hj => by
          simp only [List.getElem?_map, Option.map_eq_some_iff] at hj
          obtain ⟨n, ⟨b', hb', rfl⟩, rfl⟩ := hj
          exact hc j b' hb')
        simpa using this
      simp only [hv', Sem.run_bind, this, run_bytesToString w b l.length c _ hl, Result.andThen_ok, Sem.run_pure]
      rw [foldl_push]
      rfl

/-- A literal of a slice, as an array to be written. -/
theorem op_bsR {t e : TypeId} {n : Nat} {parts : Array (Nat × Operand)} {ds : List D} {d : Tmp} {rr : Option (Nat × Nat × Option Value)} {u : Option TK} {sz bs : Nat} {zv : Value}
    (ho : o.op = .buildSlice t n parts) (hp : parts.toList = enumO 0 (parts.toList.map (·.2))) (hn : (parts.toList.map (·.2)).length = n) (hds : toDl ((parts.toList.map (·.2)).map s.val) = some ds) (hk : (parts.toList.map (·.2)).all okOp = true) (ht : tyF P t = (some (.slice e), rr)) (he : tyF P e = (u, some (sz, bs, some zv)))
    (hsz : ds.all (fun d => d.cells.length == sz) = true) (hbig : Nat.ble (n * sz) 16777216 = true) (hd : o.dst = some d) (hd6 : d < 1000000) : OpOK P ops o s ⟨o.dst, .arr d sz 0 n, [], [d], [(d, some (.arr sz ds))]⟩ := by
  intro s1 ha hf hfr hdb E g a w hr K Qx hK
  have hbig := Nat.le_of_ble_eq_true hbig
  have hag : ∀ x ∈ o.op.operands, s1.val x = s.val x := fun x hx => val_agree ha hx
  generalize hxs : parts.toList.map (·.2) = xs at hp hn hds hk
  have hmem : ∀ x ∈ xs, x ∈ o.op.operands := by
    intro x hx
    rw [← hxs] at hx
    obtain ⟨e, he, rfl⟩ := List.mem_map.1 hx
    rw [ho]
    simp only [Op.operands, List.mem_toArray, List.mem_map, Array.mem_map]
    exact ⟨e, by simpa using he, rfl⟩
  obtain ⟨hdl, hdx⟩ := toDl_spec hds
  simp only [List.length_map] at hdl
  have hden : ∀ (i : Nat) (d : D), ds[i]? = some d → ∃ x, xs[i]? = some x ∧ Den (MM E g s1) w d (a.eval x) := by
    intro i d hi
    have hil : i < xs.length := by have := (List.getElem?_eq_some_iff.1 hi).1; omega
    have hx := List.getElem?_eq_getElem hil
    obtain ⟨y, hy1, hy2⟩ := hdx i (s.val xs[i]) (by rw [List.getElem?_map, hx]; rfl)
    rw [hi] at hy1; injection hy1 with hy1; subst hy1
    exact ⟨_, hx, toD_den hy2 (eval_of hr hag (hmem _ (List.getElem_mem hil)) (List.all_eq_true.1 hk _ (List.getElem_mem hil)) rfl)⟩
  have hdsz : ∀ d ∈ ds, d.cells.length = sz := fun d hd => by simpa using List.all_eq_true.1 hsz d hd
  have hvsz : ∀ v ∈ xs.map a.eval, v.cells.size = sz := by
    intro v hv
    obtain ⟨x, hx, rfl⟩ := List.mem_map.1 hv
    obtain ⟨i, hi⟩ := List.mem_iff_getElem?.1 hx
    have hil : i < ds.length := by have := (List.getElem?_eq_some_iff.1 hi).1; omega
    obtain ⟨x', hx', hd⟩ := hden i _ (List.getElem?_eq_getElem hil)
    rw [hi] at hx'; injection hx' with hx'; subst hx'
    rw [(den_cells hd).1, hdsz _ (List.getElem_mem hil)]
  generalize hzero : (if n * sz = 0 then #[] else zv.cells : Array Value) = zero
  obtain ⟨B, hB1, hB2, _, hB4⟩ := fill_row sz (xs.map a.eval) 0 ((Array.range (n * sz)).map (zero[· % zero.size]!)) hvsz (by simp [hn])
  have hparts : (parts.map fun (i, x) => (i, a.eval x)).toList = enumV 0 (xs.map a.eval) := by
    rw [Array.toList_map, hp]; exact enumO_map a.eval xs 0
  have hrun : (execOp a.eval o).run P w = .ok (.value (.slice (some ⟨w.heap.size, 0, none⟩) n n)) (w.alloc (.cells B e)) := by
    have key : (Instr.buildSlice t n (parts.map fun (i, x) => (i, a.eval x))).run P w = .ok (.slice (some ⟨w.heap.size, 0, none⟩) n n) (w.alloc (.cells B e)) := by
      unfold Instr.buildSlice
      simp only [Sem.run_bind, run_underlying (tyF_und ht rfl), Result.andThen_ok, run_sizeOf' he]
      rw [if_neg (by show ¬ n * sz > 2 ^ 24; omega)]
      have hB1' := hB1
      rw [← hparts] at hB1'
      by_cases h0 : n * sz = 0
      · rw [if_pos h0] at hzero; subst hzero
        rw [if_pos h0]
        simp only [Sem.run_bind, Sem.run_pure, Result.andThen_ok]
        rw [hB1']
        simp only [Sem.run_bind, newRow, run_newObj, Sem.run_pure, Result.andThen_ok]
        rfl
      · rw [if_neg h0] at hzero; subst hzero
        rw [if_neg h0]
        simp only [Sem.run_bind, Sem.run_pure, Result.andThen_ok, run_zero' he]
        rw [hB1']
        simp only [Sem.run_bind, newRow, run_newObj, Sem.run_pure, Result.andThen_ok]
        rfl
    unfold execOp
    rw [ho]
    simp only [key, Sem.run_bind, Result.andThen_ok, Sem.run_pure]
  unfold Oper.wp
  rw [hrun]
  have hdn : ds.length = n := by omega
  have hsub : ∀ (i : Nat) (d : D), ds[i]? = some d → ∀ (j : Nat) (x : D), d.cells[j]? = some x → ∃ u, B[i * sz + j]? = some u ∧ Den (MM E g s1) w x u := by
    intro i d hi j x hj
    obtain ⟨x', hx', hd⟩ := hden i d hi
    obtain ⟨_, _, _, c4⟩ := den_cells hd
    obtain ⟨u', e1, e2⟩ := c4 j x hj
    have hjl : j < sz := by rw [← hdsz d (List.mem_of_getElem? hi)]; exact (List.getElem?_eq_some_iff.1 hj).1
    refine ⟨u', ?_, e2⟩
    have := hB4 i (a.eval x') (by rw [List.getElem?_map, hx']; rfl) j hjl
    rw [Nat.zero_add] at this
    simpa [this] using e1
  have hBs : B.size = n * sz := by rw [hB2]; simp
  have hrel := hr.alloc_obj (x := d) (hfr d (by simp)) hd6 (.arr sz ds) (.cells B e) (some (.int .i64 ((B.size : Nat) : Int))) (fun b q hm => by simp [mutAt, Gh.put] at hm; omega) (fun M' hM' _ => by
    refine .arr (by simp [Gh.put]) (by simp [Gh.put]) (heap_alloc_new w _) (by rw [hBs, hdn]; exact Nat.le_refl _) hdsz (fun d' hd' => ?_) (fun i d' hi j y hj => ?_)
    · obtain ⟨i, hi⟩ := List.mem_iff_getElem?.1 hd'
      obtain ⟨x', _, hd''⟩ := hden i d' hi
      exact (den_cells hd'').2.2.1
    · obtain ⟨u', e1, e2⟩ := hsub i d' hi j y hj
      exact ⟨u', e1, e2.mono (Same.alloc _ _ _) hM'⟩)
  refine hK _ _ (g.put d (some w.heap.size) (some (.int .i64 ((B.size : Nat) : Int)))) ?_
  rw [app_one]
  refine hrel.put (dB_spec hdb) ?_
  have := VRel.arr (g := g.put d (some w.heap.size) (some (.int .i64 ((B.size : Nat) : Int)))) (M := MM E (g.put d (some w.heap.size) (some (.int .i64 ((B.size : Nat) : Int)))) ⟨s1.n, s1.slots, setOb s1.objs d (some (.arr sz ds))⟩) (w := w.alloc (.cells B e)) (x := d) (b := w.heap.size) (sz := sz) (off := 0) (len := n) (cap := n) (N := B.size) (by simp [Gh.put]) (by simp [Gh.put]) (Nat.le_refl _) (by rw [hBs, Nat.zero_add]; exact Nat.le_refl _)
  simpa using this

set_option maxRecDepth 100000 in
/-- A slice that is made, as an array to be written. -/
theorem op_mkR {t e : TypeId} {x y : Operand} {n : Nat} {k k' : IntKind} {zd : D} {d : Tmp} {rr : Option (Nat × Nat × Option Value)} {u : Option TK} {sz bs : Nat} {zv : Value}
    (ho : o.op = .makeSlice t x y) (hx : s.val x = .d (.int k (n : Int))) (hy : s.val y = .d (.int k' (n : Int))) (hkx : okOp x = true) (hky : okOp y = true) (ht : tyF P t = (some (.slice e), rr)) (he : tyF P e = (u, some (sz, bs, some zv)))
    (hzd : ∀ (M : Nat → Nat → Prop) (w : World), Den M w zd zv) (hcl : zd.cells.length = sz) (hsz : 0 < sz) (hbig : bs * n ≤ 140737488355328) (h63 : n < 4611686018427387904) (hd : o.dst = some d) (hd6 : d < 1000000) : OpOK P ops o s ⟨o.dst, .arr d sz 0 n, [], [d], [(d, some (.arr sz (List.replicate n zd)))]⟩ := by
  intro s1 ha hf hfr hdb E g a w hr K Qx hK
  have hag : ∀ x ∈ o.op.operands, s1.val x = s.val x := fun x hx => val_agree ha hx
  have h1 := vrel_int (eval_of (s := s) hr hag (x := x) (by rw [ho]; simp [Op.operands]) hkx hx)
  have h2 := vrel_int (eval_of (s := s) hr hag (x := y) (by rw [ho]; simp [Op.operands]) hky hy)
  obtain ⟨i, hi, hs, hb, hz⟩ := tyF_info he
  let B : Array Value := (Array.range (n * sz)).map ((if n * sz = 0 then #[] else zv.cells : Array Value)[· % (if n * sz = 0 then #[] else zv.cells : Array Value).size]!)
  have hBs : B.size = n * sz := by simp [B]
  obtain ⟨c1, c2, c3, c4⟩ := den_cells (hzd (MM E g s1) w)
  have hBg : ∀ (q j : Nat), q < n → j < sz → B[q * sz + j]? = zv.cells[j]? := by
    intro q j hq hj
    have hlt : q * sz + j < n * sz := by
      have : (q + 1) * sz ≤ n * sz := Nat.mul_le_mul_right _ hq
      rw [Nat.add_mul] at this; omega
    have h0 : ¬ n * sz = 0 := by omega
    have hzs : zv.cells.size = sz := by rw [c1, hcl]
    have hm : (q * sz + j) % sz = j := by rw [Nat.mul_comm, Nat.mul_add_mod, Nat.mod_eq_of_lt hj]
    have hrr : B[q * sz + j]? = ((Array.range (n * sz))[q * sz + j]?).map fun r => (zv.cells : Array Value)[r % zv.cells.size]! := by
      show ((Array.range (n * sz)).map _)[q * sz + j]? = _
      rw [Array.getElem?_map, if_neg h0]
    rw [hrr, Array.getElem?_range, if_pos hlt, Option.map_some, hzs, hm, Array.getElem?_eq_getElem (by omega), getElem!_pos]
  have hrun : (execOp a.eval o).run P w = .ok (.value (.slice (some ⟨w.heap.size, 0, none⟩) n n)) (w.alloc (.cells B e)) := by
    have wn : IntKind.i64.wrap (n : Int) = n := wrap64 (by omega) (by omega)
    have key : (Instr.makeSlice t (.int k n) (.int k' n)).run P w = .ok (.slice (some ⟨w.heap.size, 0, none⟩) n n) (w.alloc (.cells B e)) := by
      unfold Instr.makeSlice
      have hbz : ¬ (281474976710656 < (i.bytes : Int) * (n : Int)) := by
        have h7 : ((bs * n : Nat) : Int) ≤ ((140737488355328 : Nat) : Int) := Int.ofNat_le.2 hbig
        rw [Int.natCast_mul] at h7
        rw [hb]
        generalize (bs : Int) * (n : Int) = q at h7
        omega
      have hroom : ∀ q, (askRoom q).run P w = .ok () w := by intro q; unfold askRoom; split <;> simp
      have hlen' : ∀ q, (typeInfo e).run P q = .ok i q := fun q => by simp [typeInfo, hi]
      simp only [Sem.run_bind, run_underlying (tyF_und ht rfl), Result.andThen_ok, asInt, asIntOf, Sem.run_pure, hlen', wn]
      have g1 : ¬ (((n : Int) < 0 ∨ (i.bytes : Int) * n > 2 ^ 48)) := by omega
      rw [if_neg (by simp; omega)]
      simp only [Sem.run_bind, hroom, Result.andThen_ok, run_sizeOf' he, Int.toNat_natCast]
      by_cases h0 : n * sz = 0
      · simp only [h0, if_true, Sem.run_bind, Sem.run_pure, Result.andThen_ok, newRow, run_newObj, B]
        rfl
      · simp only [h0, if_false, Sem.run_bind, Sem.run_pure, Result.andThen_ok, newRow, run_newObj, run_zero' he, B]
        rfl
    unfold execOp
    rw [ho]
    simp only [h1, h2, key, Sem.run_bind, Result.andThen_ok, Sem.run_pure]
  unfold Oper.wp
  rw [hrun]
  have hrel := hr.alloc_obj (x := d) (hfr d (by simp)) hd6 (.arr sz (List.replicate n zd)) (.cells B e) (some (.int .i64 ((B.size : Nat) : Int))) (fun b q hm => by simp [mutAt, Gh.put] at hm; omega) (fun M' hM' _ => by
    refine .arr (by simp [Gh.put]) (by simp [Gh.put]) (heap_alloc_new w _) (by rw [hBs, List.length_replicate]; exact Nat.le_refl _) (fun d' hd' => by rw [List.eq_of_mem_replicate hd']; exact hcl) (fun d' hd' => by rw [List.eq_of_mem_replicate hd']; exact c3) (fun q d' hq j y hj => ?_)
    have hqn : q < n := by have := (List.getElem?_eq_some_iff.1 hq).1; simpa using this
    have hd' : d' = zd := List.eq_of_mem_replicate (List.mem_of_getElem? hq)
    subst hd'
    have hjl : j < sz := by rw [← hcl]; exact (List.getElem?_eq_some_iff.1 hj).1
    obtain ⟨u', e1, e2⟩ := (den_cells (hzd M' (w.alloc (.cells B e)))).2.2.2 j y hj
    exact ⟨u', by rw [hBg q j hqn hjl]; exact e1, e2⟩)
  refine hK _ _ (g.put d (some w.heap.size) (some (.int .i64 ((B.size : Nat) : Int)))) ?_
  rw [app_one]
  refine hrel.put (dB_spec hdb) ?_
  have := VRel.arr (g := g.put d (some w.heap.size) (some (.int .i64 ((B.size : Nat) : Int)))) (M := MM E (g.put d (some w.heap.size) (some (.int .i64 ((B.size : Nat) : Int)))) ⟨s1.n, s1.slots, setOb s1.objs d (some (.arr sz (List.replicate n zd)))⟩) (w := w.alloc (.cells B e)) (x := d) (b := w.heap.size) (sz := sz) (off := 0) (len := n) (cap := n) (N := B.size) (by simp [Gh.put]) (by simp [Gh.put]) (Nat.le_refl _) (by rw [hBs, Nat.zero_add]; exact Nat.le_refl _)
  simpa using this
end
end Go.Pm

namespace Go.Pm
section
variable {P : Program} {ops : Array Oper} {o : Oper} {s : St}

theorem o_call {fop : Operand} {xs : Array Operand} {ats : Array TypeId} {f : FuncId} {first caps : List PV} {args rs : List PV} (hfn : Fn P f args [] rs []) (ho : o.op = .call { callee := .value fop, args := xs, argTypes := ats }) (hk : (fop :: xs.toList).all okOp = true)
    (hf : s.val fop = .fn (.func f) first caps) (hca : callable P f = true) (hargs : first ++ xs.toList.map s.val ++ caps = renL (nren [] 0) args) (hcl : closedB rs [] = true) :
    OpOK P ops o s ⟨o.dst, (resV rs).ren (nren [] 0), [], [], []⟩ := op_callP ho hk hf hca hargs hfn hcl
theorem o_callR {fop : Operand} {xs : Array Operand} {ats : Array TypeId} {f : FuncId} {first caps : List PV} {args rs : List PV} {O : List (Nat × Ob)} (ins : List Nat) (hfn : Fn P f args O rs O) (ho : o.op = .call { callee := .value fop, args := xs, argTypes := ats }) (hk : (fop :: xs.toList).all okOp = true)
    (hf : s.val fop = .fn (.func f) first caps) (hca : callable P f = true) (hargs : first ++ xs.toList.map s.val ++ caps = renL (nren ins 0) args) (hnd : ins.Nodup) (hO : HandOK ins 0 s O) (hcl : closedB rs O = true) :
    OpOK P ops o s ⟨o.dst, (resV rs).ren (nren ins 0), ins, [], []⟩ := op_callR ins ho hk hf hca hargs hnd hO hfn hcl
theorem o_callW {fop : Operand} {xs : Array Operand} {ats : Array TypeId} {f : FuncId} {first caps : List PV} {args rs : List PV} {O O' : List (Nat × Ob)} (ins : List Nat) (d : Nat) (hfn : Fn P f args O rs O') (ho : o.op = .call { callee := .value fop, args := xs, argTypes := ats }) (hk : (fop :: xs.toList).all okOp = true)
    (hf : s.val fop = .fn (.func f) first caps) (hca : callable P f = true) (hargs : first ++ xs.toList.map s.val ++ caps = renL (nren ins d) args) (hnd : ins.Nodup) (hO : HandOK ins d s O) (hall : ((List.range ins.length).all fun i => (look O (1000000 + i)).isSome) = true) (hcl : closedB rs O' = true)
    (hold : O'.all (fun e => decide (e.1 < 1000000) || (decide (e.1 < 1000000 + ins.length) && e.2.open_)) = true) (hlow : O'.all (fun e => decide (1000000 ≤ e.1) || decide (nren ins d e.1 < 1000000)) = true) :
    OpOK P ops o s ⟨o.dst, (resV rs).ren (nren ins d), ins, (O'.filter fun e => decide (e.1 < 1000000)).map fun e => nren ins d e.1, callUpd ins d O'⟩ :=
  op_callW ins d ho hk hf hca hargs hnd hO (fun i hi => List.all_eq_true.1 hall i (List.mem_range.2 hi)) hfn hcl hold hlow

theorem o_lenE {x : Operand} {t : TypeId} {e : TypeId} {ds : List D} {n : Int} {r : Option (Nat × Nat × Option Value)}
    (ho : o.op = .call { callee := .builtin .len, args := #[x], argTypes := #[t] }) (hx : listD (s.val x) = some ds) (hkx : okOp x = true) (ht : tyF P t = (some (.slice e), r)) (hn : (ds.length : Int) = n) :
    OpOK P ops o s ⟨o.dst, .d (.int .i64 n), [], [], []⟩ := by subst hn; exact op_len ho hx hkx ht

theorem ent_b {p1 : PV} {a b : Bool} {O : List (Nat × Ob)} (h1 : toD p1 = some (.bool a)) (e1 : a = b) : Ent (St.of [p1] O) (St.of [.d (.bool b)] []) := ent_d1 h1 (by rw [e1])
theorem ent_i {p1 : PV} {k : IntKind} {a b : Int} {O : List (Nat × Ob)} (h1 : toD p1 = some (.int k a)) (e1 : a = b) : Ent (St.of [p1] O) (St.of [.d (.int k b)] []) := ent_d1 h1 (by rw [e1])
theorem ent_st {p1 : PV} {a b : Bytes} {O : List (Nat × Ob)} (h1 : toD p1 = some (.str a)) (e1 : a = b) : Ent (St.of [p1] O) (St.of [.d (.str b)] []) := ent_d1 h1 (by rw [e1])
/-- An index that is a sum. -/
theorem o_idxS {t : TypeId} {x i : Operand} {k : IntKind} {m : Int} (n : Nat) {l : Bytes} {c : UInt8} {r : Option (Nat × Nat × Option Value)} (ho : o.op = .index t x i) (hx : s.val x = .d (.str l)) (hi : s.val i = .d (.int k m)) (hk : (okOp x && okOp i) = true)
    (ht : tyF P t = (some .string, r)) (hm : m = (n : Int)) (hn : l[n]? = some c) : OpOK P ops o s ⟨o.dst, .d (.int .u8 c.toNat), [], [], []⟩ := by
  subst hm
  simp only [Bool.and_eq_true] at hk
  exact op_indexS ho hx hi hk.1 hk.2 ht hn
theorem o_ixN {α : Type} {f : α → D} {l : List α} {r : α} {x i : Operand} {t e : TypeId} {k : IntKind} {m : Int} (n : Nat) {rr : Option (Nat × Nat × Option Value)} {u : Option TK} {bs : Nat} {z : Option Value}
    (ho : o.op = .indexAddr t x i) (hx : listD (s.val x) = some (l.map f)) (hi : s.val i = .d (.int k m)) (hk : (okOp x && okOp i) = true)
    (ht : tyF P t = (some (.slice e), rr)) (hm : m = (n : Int)) (hn : l[n]? = some r) (he : tyF P e = (u, some ((f r).cells.length, bs, z))) : OpOK P ops o s ⟨o.dst, .cptr (f r).cells, [], [], []⟩ := by
  subst hm
  exact o_ixM ho hx hi hn hk ht he
/-- A bound of a slice that is a sum. -/
inductive IsZ (s : St) : Option Operand → Nat → Nat → Prop
  | some {y : Operand} {k : IntKind} {m : Int} {n d : Nat} (h : s.val y = .d (.int k m)) (hk : okOp y = true) (hm : m = (n : Int)) : IsZ s (some y) n d
  | none {n : Nat} : IsZ s none n n
theorem IsZ.isN {s : St} {x : Option Operand} {n d : Nat} (h : IsZ s x n d) : isN s x n d := by
  cases h with
  | some h hk hm => subst hm; exact ⟨⟨_, h⟩, hk⟩
  | none => rfl
theorem o_slS {t : TypeId} {x : Operand} {lo hi : Option Operand} {l : Bytes} {i j : Nat} {rr : Option (Nat × Nat × Option Value)} (ho : o.op = .slice t x lo hi none) (hx : s.val x = .d (.str l)) (hkx : okOp x = true) (ht : tyF P t = (some .string, rr))
    (hlo : IsZ s lo i 0) (hhi : IsZ s hi j l.length) (h1 : i ≤ j) (h2 : j ≤ l.length) : OpOK P ops o s ⟨o.dst, .d (.str ((l.drop i).take (j - i))), [], [], []⟩ := by
  cases hlo with
  | some a b c =>
    subst c
    cases hhi with
    | some d e f => subst f; exact op_sliceS ho hx hkx ht ⟨a, b⟩ ⟨d, e⟩ h1 h2
    | none => exact op_sliceS (k' := .i64) ho hx hkx ht ⟨a, b⟩ rfl h1 h2
  | none =>
    cases hhi with
    | some d e f => subst f; exact op_sliceS (k := .i64) ho hx hkx ht rfl ⟨d, e⟩ h1 h2
    | none => exact op_sliceS (k := .i64) (k' := .i64) ho hx hkx ht rfl rfl h1 h2
theorem o_slL {t e : TypeId} {x : Operand} {lo hi : Option Operand} {ds : List D} {i j : Nat} {rr : Option (Nat × Nat × Option Value)} {u : Option TK} {sz bs : Nat} {zv : Option Value} (ho : o.op = .slice t x lo hi none) (hx : toD (s.val x) = some (.list ds)) (hkx : okOp x = true)
    (ht : tyF P t = (some (.slice e), rr)) (he : tyF P e = (u, some (sz, bs, zv))) (hsz : ∀ d ∈ ds, d.cells.length = sz) (hlo : IsZ s lo i 0) (hhi : IsZ s hi j ds.length) (h1 : i ≤ j) (h2 : j ≤ ds.length) :
    OpOK P ops o s ⟨o.dst, .d (.list ((ds.drop i).take (j - i))), [], [], []⟩ := op_sliceL ho hx hkx ht he hsz hlo.isN hhi.isN h1 h2
theorem o_sl3 {t e : TypeId} {x : Operand} {lo : Option Operand} {hi mx : Operand} {ds : List D} {i j : Nat} {rr : Option (Nat × Nat × Option Value)} {u : Option TK} {sz bs : Nat} {zv : Option Value} (ho : o.op = .slice t x lo (some hi) (some mx)) (hx : toD (s.val x) = some (.list ds)) (hkx : okOp x = true)
    (ht : tyF P t = (some (.slice e), rr)) (he : tyF P e = (u, some (sz, bs, zv))) (hsz : ∀ d ∈ ds, d.cells.length = sz) (hlo : IsZ s lo i 0) (hhi : IsZ s (some hi) j 0) (hmx : IsZ s (some mx) j 0) (h1 : i ≤ j) (h2 : j ≤ ds.length) :
    OpOK P ops o s ⟨o.dst, .tl ((ds.drop i).take (j - i)) none, [], [], []⟩ := op_slice3 ho hx hkx ht he hsz hlo.isN hhi.isN hmx.isN h1 h2
theorem o_slR {t e : TypeId} {x : Operand} {lo hi : Option Operand} {r sz off len i j : Nat} {rr : Option (Nat × Nat × Option Value)} {u : Option TK} {bs : Nat} {zv : Option Value} (ho : o.op = .slice t x lo hi none) (hx : s.val x = .arr r sz off len) (hkx : okOp x = true)
    (ht : tyF P t = (some (.slice e), rr)) (he : tyF P e = (u, some (sz, bs, zv))) (hlo : IsZ s lo i 0) (hhi : IsZ s hi j len) (hlt : i < j ∨ i = 0) (h2 : j ≤ len) :
    OpOK P ops o s ⟨o.dst, .arr r sz (off + i) (j - i), [], [], []⟩ := op_sliceR ho hx hkx ht he hlo.isN hhi.isN (by omega) h2 hlt
theorem o_sl3R {t e : TypeId} {x : Operand} {lo : Option Operand} {hi mx : Operand} {r sz off len i j : Nat} {rr : Option (Nat × Nat × Option Value)} {u : Option TK} {bs : Nat} {zv : Option Value} (ho : o.op = .slice t x lo (some hi) (some mx)) (hx : s.val x = .arr r sz off len) (hkx : okOp x = true)
    (ht : tyF P t = (some (.slice e), rr)) (he : tyF P e = (u, some (sz, bs, zv))) (hlo : IsZ s lo i 0) (hhi : IsZ s (some hi) j 0) (hmx : IsZ s (some mx) j 0) (hlt : i < j ∨ i = 0) (h2 : j ≤ len) :
    OpOK P ops o s ⟨o.dst, .arr r sz (off + i) (j - i), [], [], []⟩ := op_slice3R ho hx hkx ht he hlo.isN hhi.isN hmx.isN hlt h2
/-- An element of an array that is written in place. -/
theorem o_ixR {t e : TypeId} {x i : Operand} {r sz off len : Nat} {k : IntKind} {m : Int} (n : Nat) {rr : Option (Nat × Nat × Option Value)} {u : Option TK} {bs : Nat} {z : Option Value} (ho : o.op = .indexAddr t x i) (hx : s.val x = .arr r sz off len) (hi : s.val i = .d (.int k m)) (hk : (okOp x && okOp i) = true)
    (ht : tyF P t = (some (.slice e), rr)) (he : tyF P e = (u, some (sz, bs, z))) (hm : m = (n : Int)) (hn : n < len) : OpOK P ops o s ⟨o.dst, .eptr r sz (off + n) 0, [], [], []⟩ := by
  subst hm
  simp only [Bool.and_eq_true] at hk
  exact op_ixR ho hx hi hk.1 hk.2 ht he hn
/-- The same, the place told in another way. -/
theorem o_ixR' {t e : TypeId} {x i : Operand} {r sz off len : Nat} {k : IntKind} {m : Int} (n : Nat) {q : Nat} {rr : Option (Nat × Nat × Option Value)} {u : Option TK} {bs : Nat} {z : Option Value} (ho : o.op = .indexAddr t x i) (hx : s.val x = .arr r sz off len) (hi : s.val i = .d (.int k m)) (hk : (okOp x && okOp i) = true)
    (ht : tyF P t = (some (.slice e), rr)) (he : tyF P e = (u, some (sz, bs, z))) (hm : m = (n : Int)) (hn : n < len) (hq : q = off + n) : OpOK P ops o s ⟨o.dst, .eptr r sz q 0, [], [], []⟩ := by
  subst hq; exact o_ixR n ho hx hi hk ht he hm hn
/-- A length that is told in another way. -/
theorem o_v {p q : PV} {f n : List Nat} {u : List (Nat × Option Ob)} {d : Option Tmp} (h : OpOK P ops o s ⟨d, p, f, n, u⟩) (e : p = q) : OpOK P ops o s ⟨d, q, f, n, u⟩ := e ▸ h
theorem o_eqI {k : IntKind} {m m' : Int} {f n : List Nat} {u : List (Nat × Option Ob)} {d : Option Tmp} (h : OpOK P ops o s ⟨d, .d (.int k m), f, n, u⟩) (e : m = m') : OpOK P ops o s ⟨d, .d (.int k m'), f, n, u⟩ := e ▸ h
theorem o_eqB {b b' : Bool} {f n : List Nat} {u : List (Nat × Option Ob)} {d : Option Tmp} (h : OpOK P ops o s ⟨d, .d (.bool b), f, n, u⟩) (e : b = b') : OpOK P ops o s ⟨d, .d (.bool b'), f, n, u⟩ := e ▸ h
theorem o_eqS {l l' : Bytes} {f n : List Nat} {u : List (Nat × Option Ob)} {d : Option Tmp} (h : OpOK P ops o s ⟨d, .d (.str l), f, n, u⟩) (e : l = l') : OpOK P ops o s ⟨d, .d (.str l'), f, n, u⟩ := e ▸ h
/-- Append of data to a list, in words of images. -/
theorem o_app {t e : TypeId} {x y : Operand} {ds ys : List D} {bx : Option Nat} {d : Tmp} {rr : Option (Nat × Nat × Option Value)} {u : Option TK} {sz bs : Nat} {zv : Value}
    (ho : o.op = .call { callee := .builtin .append, args := #[x, y], argTypes := #[t, t] }) (hd : o.dst = some d) (hd6 : d < 1000000) (hx : baseOf (s.val x) = some (ds, bx)) (hy : toD (s.val y) = some (.list ys)) (hk : (okOp x && okOp y) = true)
    (ht : tyF P t = (some (.slice e), rr)) (he : tyF P e = (u, some (sz, bs, some zv))) (hzs : zv.cells.size = sz) (hsz : 0 < sz) (hob : tailAt s sz bx = true) (hds : ∀ d ∈ ds, d.cells.length = sz) (hys : ∀ d ∈ ys, d.cells.length = sz)
    (hlim : (ds.length + ys.length) * bs ≤ 140737488355328) (hbs : 0 < bs) {zs : List D} (hz : ds ++ ys = zs) : OpOK P ops o s ⟨o.dst, .tl zs (some d), bx.toList, [d], (bx.toList.map fun x => (x, none)) ++ [(d, some (.tail sz))]⟩ := by
  subst hz
  simp only [Bool.and_eq_true] at hk
  refine op_append ho hd hd6 hx hk.1 hy hk.2 ht he hzs hsz hob hds hys ?_ hlim
  have : (ds.length + ys.length) * 1 ≤ (ds.length + ys.length) * bs := Nat.mul_le_mul_left _ hbs
  omega
end
end Go.Pm

namespace Go.Pm
theorem k_arr {ρ : Nat → Nat} {x y sz off len len' : Nat} (hx : x = ρ y) (hl : len = len') : Le ρ (.arr x sz off len) (.arr y sz off len') := by
  subst hx; subst hl; exact .same (.arr y sz off len)
theorem ko_arr {ρ : Nat → Nat} {sz : Nat} {ds ds' : List D} (h : ds = ds') : LeO ρ (.arr sz ds) (.arr sz ds') := by
  subst h; exact .same (.arr sz ds)
theorem k_tl {ρ : Nat → Nat} {x y : Nat} {ds ds' : List D} (hx : x = ρ y) (h : ds = ds') : Le ρ (.tl ds (some x)) (.tl ds' (some y)) := by
  subst hx; subst h; exact .same (.tl ds (some y))

theorem ent_fz1 {X sz off len : Nat} {ds ys : List D} {O : List (Nat × Ob)} (ho : look O X = some (.arr sz ds)) (hl : off + len ≤ ds.length) (hy : (ds.drop off).take len = ys) : Ent (St.of [.arr X sz off len] O) (St.of [.d (.list ys)] []) := by
  subst hy
  refine Ent.trans (ent_freeze (s := St.of [.arr X sz off len] O) 0 X rfl ho hl) ?_
  exact ent_id rfl (.cons rfl (.data rfl) .nil) obs_nil rfl
end Go.Pm
namespace Go.Pm
theorem cl_drop {a : List D} {n k : Nat} (h : ∀ d ∈ a, d.cells.length = n) : ∀ d ∈ a.drop k, d.cells.length = n := fun d hd => h d (List.mem_of_mem_drop hd)
theorem cl_take {a : List D} {n k : Nat} (h : ∀ d ∈ a, d.cells.length = n) : ∀ d ∈ a.take k, d.cells.length = n := fun d hd => h d (List.mem_of_mem_take hd)
end Go.Pm
namespace Go.Pm
theorem k_b {ρ : Nat → Nat} {x y : Bool} (h : x = y) : Le ρ (.d (.bool x)) (.d (.bool y)) := h ▸ .same (.d (.bool x))
theorem k_s {ρ : Nat → Nat} {x y : Bytes} (h : x = y) : Le ρ (.d (.str x)) (.d (.str y)) := h ▸ .same (.d (.str x))
/-- A join: every way comes to one of a family. -/
theorem awp_joinX {P : Program} {Q : Exit → St → Prop} {α : Type} {x y : Code} {s : St} (m : α → St) (Inv : α → Prop) (h : awp P x (thenA (fun s' => ∃ a, Inv a ∧ Ent s' (m a)) Q) s) (k : ∀ a, Inv a → awp P y Q (m a)) : awp P (.seq x y) Q s :=
  awp_seq (awp_mono h fun e s' hq => by
    cases e with
    | normal => obtain ⟨a, h1, h2⟩ := hq; exact awp_ent h2 (k a h1)
    | _ => exact hq)
section
variable {P : Program} {ops : Array Oper} {draw : Bool} {s0 : St} {o : Oper} {rest : List Oper} {s : St} {es : List Eff} {K : St → Prop} {x : Operand} {p : PV} {b : Bool}
theorem lmv (ho : o.op = .move x) (hx : s.rd x = some p) (hk : okOp x = true) (h0 : s.want ops o = some true) (hd : dB o s.n = true) (h3 : Lex P ops draw s0 rest (s.ap o.dst p []) (⟨o.dst, p, [], [], []⟩ :: es) K) : Lex P ops draw s0 (o :: rest) s es K := lx (o_mv ho hx hk) h0 hd rfl h3
theorem las (ho : o.op = .assign x) (hx : s.rd x = some p) (hk : okOp x = true) (h0 : s.want ops o = some true) (hd : dB o s.n = true) (h3 : Lex P ops draw s0 rest (s.ap o.dst p []) (⟨o.dst, p, [], [], []⟩ :: es) K) : Lex P ops draw s0 (o :: rest) s es K := lx (o_as ho hx hk) h0 hd rfl h3
theorem gmv (hb : b = true) (ho : o.op = .move x) (hx : s.rd x = some p) (hk : okOp x = true) (h0 : s.want ops o = some b) (hd : dB o s.n = true) (h3 : Lex P ops draw s0 rest (s.ap o.dst p []) (⟨o.dst, p, [], [], []⟩ :: es) K) : Lex P ops draw s0 (o :: rest) s es K := lg (o_mv ho hx hk) h0 hb hd rfl h3
end
end Go.Pm

namespace Go.Pm

theorem ent_arr0 {s : St} (i : Nat) (X sz : Nat) (hp : s.sl i = some .nils) (hX : s.fresh X = true) (h6 : X < 1000000) : Ent s ⟨s.n, (i, .arr X sz 0 0) :: s.slots, (X, .arr sz []) :: s.objs⟩ := by
  intro E g a w hr
  have hfr := fresh_of hX
  obtain ⟨v, hv1, hv2⟩ := hr.slots i _ hp
  cases hv2
  have hobs : ∀ y, (⟨s.n, s.slots, (X, .arr sz []) :: s.objs⟩ : St).ob y = if X = y then some (.arr sz []) else s.ob y := fun y => rfl
  have hM : ∀ b' q, MM E (g.put X none none) ⟨s.n, s.slots, (X, .arr sz []) :: s.objs⟩ b' q → MM E g s b' q := by
    rintro b' q (h | ⟨y, ob, hy, hm⟩)
    · exact .inl h
    · rw [hobs] at hy
      by_cases hyX : X = y
      · subst hyX
        rw [if_pos rfl] at hy; injection hy with hy; subst hy
        simp [mutAt, Gh.put] at hm
      · rw [if_neg hyX] at hy
        refine .inr ⟨y, ob, hy, ?_⟩
        rw [← mutAt_same (gc := g.put X none none) (g := g) ⟨by simp [Gh.put, Ne.symm hyX], by simp [Gh.put, Ne.symm hyX]⟩]; exact hm
  have h1 : Rel E (g.put X none none) ⟨s.n, s.slots, (X, .arr sz []) :: s.objs⟩ a w := by
    refine Rel.swap hr X X hfr h6 _ _ rfl rfl (fun y h1 _ => by rw [hobs, if_neg (Ne.symm h1)]) (fun h => absurd rfl h) (fun b' q _ => hM b' q) (Same.refl _ _) (fun _ _ _ _ _ _ _ => rfl) (fun ob hob => ?_) (fun b' h => by cases h) hr.fr (Nat.le_refl _)
    rw [hobs, if_pos rfl] at hob; injection hob with hob; subst hob
    exact .arr0 (by simp [Gh.put])
  refine ⟨g.put X none none, h1.size, h1.defers, fun j q hj => ?_, h1.objs, h1.inj, h1.own, h1.fr, h1.av, h1.keep⟩
  have hj' : (if i = j then some (PV.arr X sz 0 0) else s.sl j) = some q := hj
  by_cases hij : i = j
  · subst hij
    rw [if_pos rfl] at hj'; injection hj' with hj'; subst hj'
    exact ⟨_, hv1, .arr0 (by simp [Gh.put])⟩
  · rw [if_neg hij] at hj'
    exact h1.slots j q hj'

/-- An array of tails that nobody has yet. -/
theorem rel_ghost {E : Env} {g : Gh} {s : St} {a : Act} {w : World} (hr : Rel E g s a w) (X sz : Nat) (hX : s.fresh X = true) (h6 : X < 1000000) : Rel E (g.put X none (some (.slice none 0 0))) ⟨s.n, s.slots, (X, .tail sz) :: s.objs⟩ a w ∧ ∀ b' q, MM E (g.put X none (some (.slice none 0 0))) ⟨s.n, s.slots, (X, .tail sz) :: s.objs⟩ b' q → MM E g s b' q := by
  have hfr := fresh_of hX
  have hobs : ∀ y, (⟨s.n, s.slots, (X, .tail sz) :: s.objs⟩ : St).ob y = if X = y then some (.tail sz) else s.ob y := fun y => rfl
  have hM : ∀ b' q, MM E (g.put X none (some (.slice none 0 0))) ⟨s.n, s.slots, (X, .tail sz) :: s.objs⟩ b' q → MM E g s b' q := by
    rintro b' q (h | ⟨y, ob, hy, hm⟩)
    · exact .inl h
    · rw [hobs] at hy
      by_cases hyX : X = y
      · subst hyX
        rw [if_pos rfl] at hy; injection hy with hy; subst hy
        obtain ⟨n', c', o0, e1, e2, e3⟩ := hm
        simp only [Gh.put, if_pos rfl] at e1
        injection e1 with e1; injection e1 with e4 e5 e6
        cases e4
      · rw [if_neg hyX] at hy
        refine .inr ⟨y, ob, hy, ?_⟩
        rw [← mutAt_same (gc := g.put X none (some (.slice none 0 0))) (g := g) ⟨by simp [Gh.put, Ne.symm hyX], by simp [Gh.put, Ne.symm hyX]⟩]; exact hm
  refine ⟨?_, hM⟩
  refine Rel.swap hr X X hfr h6 _ _ rfl rfl (fun y h1 _ => by rw [hobs, if_neg (Ne.symm h1)]) (fun h => absurd rfl h) (fun b' q _ => hM b' q) (Same.refl _ _) (fun _ _ _ _ _ _ _ => rfl) (fun ob hob => ?_) (fun b' h => by cases h) hr.fr (Nat.le_refl _)
  rw [hobs, if_pos rfl] at hob; injection hob with hob; subst hob
  exact .full (a := none) (n := 0) (by simp [Gh.put]) (by simp [Gh.put])
theorem ent_ghost {s : St} (X sz : Nat) (hX : s.fresh X = true) (h6 : X < 1000000) : Ent s ⟨s.n, s.slots, (X, .tail sz) :: s.objs⟩ := by
  intro E g a w hr
  exact ⟨_, (rel_ghost hr X sz hX h6).1⟩
/-- A nil list in a cell, taken as one that may be appended to. -/
theorem ent_tailc {s : St} (y j : Nat) (X sz : Nat) {cs : List PV} (hy : s.ob y = some (.cells cs)) (hj : cs[j]? = some .nils) (hX : s.fresh X = true) (h6 : X < 1000000) (hyX : (X == y) = false) : Ent s ⟨s.n, s.slots, (y, .cells (cs.set j (.tl [] (some X)))) :: (X, .tail sz) :: s.objs⟩ := by
  intro E g a w hr
  obtain ⟨h1, hM⟩ := rel_ghost hr X sz hX h6
  have hyX' : X ≠ y := by simpa using hyX
  have hy1 : (⟨s.n, s.slots, (X, .tail sz) :: s.objs⟩ : St).ob y = some (.cells cs) := by
    show (if X = y then some (Ob.tail sz) else s.ob y) = _
    rw [if_neg hyX']; exact hy
  generalize hg : g.put X none (some (.slice none 0 0)) = g' at h1 hM
  have hτ : g'.τ X = some (.slice none 0 0) := by rw [← hg]; simp [Gh.put]
  have hobs : ∀ z, (⟨s.n, s.slots, (y, .cells (cs.set j (.tl [] (some X)))) :: (X, .tail sz) :: s.objs⟩ : St).ob z = if y = z then some (.cells (cs.set j (.tl [] (some X)))) else (⟨s.n, s.slots, (X, .tail sz) :: s.objs⟩ : St).ob z := fun z => rfl
  have back : ∀ z ob, (⟨s.n, s.slots, (y, .cells (cs.set j (.tl [] (some X)))) :: (X, .tail sz) :: s.objs⟩ : St).ob z = some ob → ∃ ob', (⟨s.n, s.slots, (X, .tail sz) :: s.objs⟩ : St).ob z = some ob' ∧ ∀ b o, mutAt g' z ob b o → mutAt g' z ob' b o := by
    intro z ob hz
    rw [hobs] at hz
    by_cases hyz : y = z
    · subst hyz; rw [if_pos rfl] at hz; injection hz with hz; subst hz; exact ⟨_, hy1, fun b o h => h⟩
    · rw [if_neg hyz] at hz; exact ⟨ob, hz, fun b o h => h⟩
  have hMM : ∀ b o, MM E g' ⟨s.n, s.slots, (y, .cells (cs.set j (.tl [] (some X)))) :: (X, .tail sz) :: s.objs⟩ b o → MM E g' ⟨s.n, s.slots, (X, .tail sz) :: s.objs⟩ b o := by
    rintro b o (h | ⟨z, ob, hz, hm⟩)
    · exact .inl h
    · obtain ⟨ob', e1, e2⟩ := back z ob hz; exact .inr ⟨z, ob', e1, e2 b o hm⟩
  refine ⟨g', h1.size, h1.defers, fun i p hi => ?_, fun z ob hz => ?_, fun z u o1 o2 b hz hu => ?_, fun z ob b hz => ?_, h1.fr, h1.av, h1.keep⟩
  · obtain ⟨v, e1, e2⟩ := h1.slots i p hi
    exact ⟨v, e1, e2.mono (Same.refl _ _) (fun b o _ h => hMM b o h) rfl rfl⟩
  · rw [hobs] at hz
    by_cases hyz : y = z
    · subst hyz; rw [if_pos rfl] at hz; injection hz with hz; subst hz
      have ho := (h1.objs y _ hy1).move (Same.refl _ _) (fun b o _ h => hMM b o h) (fun _ _ => ⟨rfl, rfl⟩) ⟨rfl, rfl⟩ (fun _ _ => rfl)
      cases ho with
      | cells hφ hb hl h =>
        refine .cells hφ hb (by rw [hl]; simp) fun k p hk => ?_
        by_cases hkj : j = k
        · subst hkj
          have hjl := (List.getElem?_eq_some_iff.1 hj).1
          rw [List.getElem?_set_self hjl] at hk; injection hk with hk; subst hk
          obtain ⟨v, e1, e2, e3⟩ := h j _ hj
          cases e3
          exact ⟨_, e1, e2, .tail .nil hτ⟩
        · rw [List.getElem?_set_ne hkj] at hk; exact h k p hk
    · rw [if_neg hyz] at hz
      exact (h1.objs z ob hz).move (Same.refl _ _) (fun b o _ h => hMM b o h) (fun _ _ => ⟨rfl, rfl⟩) ⟨rfl, rfl⟩ (fun _ _ => rfl)
  · obtain ⟨o1', e1, _⟩ := back z o1 hz
    obtain ⟨o2', e2, _⟩ := back u o2 hu
    exact h1.inj z u o1' o2' b e1 e2
  · obtain ⟨ob', e1, _⟩ := back z ob hz
    exact h1.own z ob' b e1

section
variable {P : Program} {ops : Array Oper} {o : Oper} {s : St}
/-- Looking up, told as plain data. -/
theorem op_lookupD {t kt et : TypeId} {x y : Operand} {m : Nat} {dm : List (D × D)} {es : List (D × PV)} {k : D} {d : D} {u : TK} {ks : List EK} {r r' : Option (Nat × Nat × Option Value)} {ue : Option TK} {sz bs : Nat} {zv : Value}
    (ho : o.op = .lookup t x y false) (hx : s.val x = .map m) (hkx : okOp x = true) (hm : s.ob m = some (.map dm es)) (hy : s.val y = .d k) (hky : okOp y = true) (ht : tyF P t = (some (.map kt et), r)) (hkt : tyF P kt = (some u, r')) (hsh : eqSh P 5 kt = some ks)
    (het : tyF P et = (ue, some (sz, bs, some zv))) (hzk : constOK zv = true) (hk : kOK u ks k = true) (hks : ∀ e ∈ ments dm es, kOK u ks e.1 = true) (hp : toD (getX k (constPV zv) (ments dm es)) = some d) : OpOK P ops o s ⟨o.dst, .d d, [m], [], []⟩ :=
  op_val fun s1 hv hf E g a w hr => by
    obtain ⟨v, e1, e2⟩ := op_lookupR ho hx hkx hm hy hky ht hkt hsh het hzk hk hks hr hv (hf m (by simp))
    exact ⟨v, e2, .d (toD_den hp e1)⟩
theorem op_lookup2D {t kt et : TypeId} {x y : Operand} {m : Nat} {dm : List (D × D)} {es : List (D × PV)} {k : D} {d : D} {b : Bool} {u : TK} {ks : List EK} {r r' : Option (Nat × Nat × Option Value)} {ue : Option TK} {sz bs : Nat} {zv : Value}
    (ho : o.op = .lookup t x y true) (hx : s.val x = .map m) (hkx : okOp x = true) (hm : s.ob m = some (.map dm es)) (hy : s.val y = .d k) (hky : okOp y = true) (ht : tyF P t = (some (.map kt et), r)) (hkt : tyF P kt = (some u, r')) (hsh : eqSh P 5 kt = some ks)
    (het : tyF P et = (ue, some (sz, bs, some zv))) (hzk : constOK zv = true) (hk : kOK u ks k = true) (hks : ∀ e ∈ ments dm es, kOK u ks e.1 = true) (hp : toD (getX k (constPV zv) (ments dm es)) = some d) (hb : hasX k (ments dm es) = b) : OpOK P ops o s ⟨o.dst, .tup [.d d, .d (.bool b)], [m], [], []⟩ :=
  op_val fun s1 hv hf E g a w hr => by
    obtain ⟨v, e1, e2⟩ := op_lookupR ho hx hkx hm hy hky ht hkt hsh het hzk hk hks hr hv (hf m (by simp))
    refine ⟨_, e2, ?_⟩
    rw [if_pos rfl, hb]
    exact .tup (vs := [v, .bool b]) rfl fun j p hj u hu => by
      match j, hj, hu with
      | 0, hj, hu => injection hj with hj; injection hu with hu; subst hj; subst hu; exact .d (toD_den hp e1)
      | 1, hj, hu => injection hj with hj; injection hu with hu; subst hj; subst hu; exact .d (.bool b)
      | j + 2, hj, hu => cases hj
end

section
variable {P : Program} {ops : Array Oper} {o : Oper} {s : St}
/-- A call that writes, its outcome told in full. -/
theorem o_callX {p : PV} {news : List Nat} {upd : List (Nat × Option Ob)} {fop : Operand} {xs : Array Operand} {ats : Array TypeId} {f : FuncId} {first caps : List PV} {args rs : List PV} {O O' : List (Nat × Ob)} (ins : List Nat) (d : Nat) (hfn : Fn P f args O rs O') (ho : o.op = .call { callee := .value fop, args := xs, argTypes := ats }) (hk : (fop :: xs.toList).all okOp = true)
    (hf : s.val fop = .fn (.func f) first caps) (hca : callable P f = true) (hargs : first ++ xs.toList.map s.val ++ caps = renL (nren ins d) args) (hnd : ins.Nodup) (hO : HandOK ins d s O) (hall : ((List.range ins.length).all fun i => (look O (1000000 + i)).isSome) = true) (hcl : closedB rs O' = true)
    (hold : O'.all (fun e => decide (e.1 < 1000000) || (decide (e.1 < 1000000 + ins.length) && e.2.open_)) = true) (hlow : O'.all (fun e => decide (1000000 ≤ e.1) || decide (nren ins d e.1 < 1000000)) = true)
    (hp : (resV rs).ren (nren ins d) = p) (hn : ((O'.filter fun e => decide (e.1 < 1000000)).map fun e => nren ins d e.1) = news) (hu : callUpd ins d O' = upd) :
    OpOK P ops o s ⟨o.dst, p, ins, news, upd⟩ := by
  subst hp; subst hn; subst hu
  exact o_callW ins d hfn ho hk hf hca hargs hnd hO hall hcl hold hlow
end
def fldT (P : Program) (t : TypeId) (f : Nat) : Option (Nat × TypeId) := match P.underlying t with
  | some (.struct fs) => fs[f]?.map fun fd => (fd.offset, fd.type)
  | _ => none
section
variable {P : Program} {ops : Array Oper} {o : Oper} {s : St}
/-- A field of a struct's value, of one cell. -/
theorem op_fieldV {t ft : TypeId} {x : Operand} {f off : Nat} {cs : List D} {c : D} {u : TK} {r : Option (Nat × Nat × Option Value)} (ho : o.op = .field t x f) (hx : s.val x = .d (.agg cs)) (hkx : okOp x = true) (hf : fldT P t f = some (off, ft)) (ht : tyF P ft = (some u, r)) (ha : aggT u = false) (hc : cs[off]? = some c) :
    OpOK P ops o s ⟨o.dst, .d c, [], [], []⟩ :=
  op_val fun s1 hv _ E g a w hr => by
    have h1 := eval_of hr hv (x := x) (by rw [ho]; simp [Op.operands]) hkx hx
    obtain ⟨vs, hae, hl, hone, h⟩ := vrel_agg h1
    have hnl := (List.getElem?_eq_some_iff.1 hc).1
    have hv' : vs[off]? = some (vs[off]'(by omega)) := List.getElem?_eq_getElem _
    refine ⟨vs[off]'(by omega), ?_, .d (h off c hc _ hv')⟩
    unfold fldT at hf
    split at hf
    · rename_i fs hu
      obtain ⟨fd, hfd, he⟩ := Option.map_eq_some_iff.1 hf
      injection he with he1 he2
      subst he1; subst he2
      unfold execOp
      rw [ho]
      simp [hae, Instr.field, asAgg, run_underlying hu, hfd, part, run_isAgg' ht, ha, show fd.offset < vs.length by omega]
    · cases hf
end

/-- A function that leaves the world. -/
theorem fn_keep {P : Program} {f : FuncId} {args rs : List PV} (h : ∀ (E : Env) (g : Gh) (cargs : Array Value), Rel E g (St.of args []) ⟨cargs, []⟩ E.w0 →
    ∃ vs : List Value, vs.length = rs.length ∧ (∀ (i : Nat) (p : PV), rs[i]? = some p → ∃ v, vs[i]? = some v ∧ VRel g E.av E.w0 p v) ∧ Calls P f cargs E.w0 fun e w' => e = .returned (packR vs.toArray) ∧ w' = E.w0) : Fn P f args [] rs [] := by
  intro E g cargs hr
  obtain ⟨vs, hl, hv, hc⟩ := h E g cargs hr
  refine hc.mono ?_
  rintro e w' ⟨rfl, rfl⟩
  have hM : MM E g (St.of rs []) = MM E g (St.of args []) := by
    funext b o
    apply propext
    constructor
    · rintro (h | ⟨x, ob, hx, _⟩)
      · exact .inl h
      · cases hx
    · rintro (h | ⟨x, ob, hx, _⟩)
      · exact .inl h
      · cases hx
  refine ⟨g, vs.toArray, rfl, ⟨by simp [St.of, hl], rfl, fun i p hi => ?_, fun x ob hx => (by cases hx), fun x y ob ob' b hx => (by cases hx), fun x ob b hx => (by cases hx), hr.fr, hr.av, hr.keep⟩⟩
  rw [of_sl] at hi
  obtain ⟨v, h1, h2⟩ := hv i p hi
  refine ⟨v, by simpa using h1, h2.mono (Same.refl _ _) (fun b o _ h => ?_) rfl rfl⟩
  rw [hM] at h
  rcases h with h | ⟨x, ob, hx, _⟩
  · exact h
  · cases hx

/-- A function that turns one row, and returns nothing. -/
theorem rel_row {E : Env} {g : Gh} {args : List PV} {cargs : Array Value} {sz b : Nat} {ds ds' : List D} {vs vs' : Array Value} {elem : TypeId} {w' : World} (hr : Rel E g (St.of args [(1000000, .arr sz ds)]) ⟨cargs, []⟩ E.w0) (hφ : g.φ 1000000 = some b)
    (hb : E.w0.heap[b]? = some (.cells vs elem (0, 0))) (hb' : w'.heap[b]? = some (.cells vs' elem (0, 0))) (hs : vs'.size = vs.size) (hl : ds'.length * sz ≤ vs'.size) (hsz : E.w0.heap.size ≤ w'.heap.size) (hos : w'.os = E.w0.os) (htp : w'.tape = E.w0.tape) (hou : w'.output = E.w0.output)
    (hk : ∀ k, k < E.w0.heap.size → k ≠ b → w'.heap[k]? = E.w0.heap[k]?) (hd1 : ∀ d ∈ ds', d.cells.length = sz) (hd2 : ∀ d ∈ ds', ∀ x ∈ d.cells, x.one = true)
    (hden : ∀ (i : Nat) (d : D), ds'[i]? = some d → ∀ (j : Nat) (y : D), d.cells[j]? = some y → ∃ u, vs'[i * sz + j]? = some u ∧ ∀ M, Den M w' y u) :
    Rel E g (St.of [] [(1000000, .arr sz ds')]) ⟨#[], []⟩ w' := by
  have hob : (St.of args [(1000000, Ob.arr sz ds)]).ob 1000000 = some (.arr sz ds) := rfl
  have hown := hr.own 1000000 _ b hob hφ
  have himp : E.imp b := by
    rcases hown.1 with h | h
    · exact absurd hown.2 (by have : E.B = E.w0.heap.size := rfl; omega)
    · exact h
  have obs : ∀ x ob, (St.of [] [(1000000, Ob.arr sz ds')]).ob x = some ob → x = 1000000 ∧ ob = .arr sz ds' := by
    intro x ob h
    have h' : (if 1000000 = x then some (Ob.arr sz ds') else none) = some ob := h
    by_cases hx : 1000000 = x
    · rw [if_pos hx] at h'; injection h' with h'; exact ⟨hx.symm, h'.symm⟩
    · rw [if_neg hx] at h'; cases h'
  refine ⟨rfl, rfl, fun i p hi => ?_, fun x ob hx => ?_, fun x y ob ob' b' hx hy _ _ => ?_, fun x ob b' hx h => ?_, ⟨hsz, hos, htp, hou, fun k hk1 hk2 => hk k hk1 fun e => hk2 (e ▸ himp), hr.fr.gok⟩, hr.av, hr.keep⟩
  · rw [of_sl] at hi; simp at hi
  · obtain ⟨rfl, rfl⟩ := obs x ob hx
    have hτ : g.τ 1000000 = some (.int .i64 ((vs.size : Nat) : Int)) := by
      have := hr.objs 1000000 _ hob
      cases this with
      | arr0 h => rw [hφ] at h; cases h
      | arr h1 h2 h3 => rw [hφ] at h1; injection h1 with h1; subst h1; rw [hb] at h3; injection h3 with h3; injection h3 with h3 _ _; rw [h3]; exact h2
    exact .arr hφ (by rw [hs]; exact hτ) hb' hl hd1 hd2 fun i d hi j y hj => let ⟨u, h1, h2⟩ := hden i d hi j y hj; ⟨u, h1, h2 _⟩
  · rw [(obs x ob hx).1, (obs y ob' hy).1]
  · obtain ⟨rfl, rfl⟩ := obs x ob hx
    rw [hφ] at h; injection h with h; subst h
    exact ⟨.inr himp, by have := hown.2; omega⟩

section
variable {P : Program} {ops : Array Oper} {o : Oper} {s : St}
/-- Comparing a slice with nil. -/
theorem op_nilS {op : BinOp} {t e t2 : TypeId} {x y : Operand} {r : Option (Nat × Nat × Option Value)} {p : PV} (ho : o.op = .binOp op t x y t2) (hop : op = .eql ∨ op = .neq) (hx : s.rd x = some p) (hkx : okOp x = true) (hy : s.val y = .nils) (hky : okOp y = true) (ht : tyF P t = (some (.slice e), r))
    {b : Bool} (hb : (match p with | .nils => some true | .nn _ => some false | _ => none) = some b) : OpOK P ops o s ⟨o.dst, .d (.bool (if op = .eql then b else !b)), [], [], []⟩ :=
  op_val fun s1 hv _ E g a w hr => by
    have h1 := eval_of hr hv (x := x) (by rw [ho]; simp [Op.operands]) hkx (rd_val hx)
    have h2 := eval_of hr hv (x := y) (by rw [ho]; simp [Op.operands]) hky hy
    have hyv : a.eval y = .slice none 0 0 := by
      generalize a.eval y = vy at h2
      cases h2; rfl
    have hxv : (b = true ∧ a.eval x = .slice none 0 0) ∨ (b = false ∧ ∃ ad n c, a.eval x = .slice (some ad) n c) := by
      generalize a.eval x = vx at h1
      split at hb
      · injection hb with hb; cases h1; exact .inl ⟨hb.symm, rfl⟩
      · injection hb with hb; cases h1; exact .inr ⟨hb.symm, _, _, _, rfl⟩
      · cases hb
    refine ⟨.bool _, ?_, .d (.bool _)⟩
    unfold execOp
    rw [ho]
    have hE : ∀ (d : Nat) (v : Option Addr) (n c : Nat), (Op.equalIn (d + 1) t (.slice v n c) (.slice none 0 0)).run P w = .ok v.isNone w := fun d v n c => by
      cases v <;> simp [Op.equalIn, run_underlying (tyF_und ht rfl)]
    have heq : (Op.equal t (a.eval x) (.slice none 0 0)).run P w = .ok b w := by
      rcases hxv with ⟨rfl, e1⟩ | ⟨rfl, ad, n, c, e1⟩
      · rw [e1]; exact hE 9999 none 0 0
      · rw [e1]; exact hE 9999 (some ad) n c
    rcases hxv with ⟨rfl, e1⟩ | ⟨rfl, ad, n, c, e1⟩ <;> rw [e1] at heq <;> rcases hop with rfl | rfl <;> simp [hyv, e1, eqGuard, binOp, heq]
end

/-- A list that is handed in is nil, or it is not. -/
theorem fn_nil {P : Program} {f : FuncId} {ds : List D} {rs : List PV} {O O' : List (Nat × Ob)} (h1 : ds = [] → Fn P f [.nils] O rs O') (h2 : Fn P f [.nn ds] O rs O') : Fn P f [.d (.list ds)] O rs O' := by
  intro E g cargs hr
  obtain ⟨v, hv1, hv2⟩ := hr.slots 0 (.d (.list ds)) rfl
  have go : ∀ p, VRel g (MM E g (St.of [p] O)) E.w0 p v → Rel E g (St.of [p] O) ⟨cargs, []⟩ E.w0 := fun p hp =>
    ⟨hr.size, hr.defers, fun i q hi => (by
      rw [of_sl] at hi
      match i, hi with
      | 0, hi => injection hi with hi; subst hi; exact ⟨v, hv1, hp⟩
      | i + 1, hi => cases hi), hr.objs, hr.inj, hr.own, hr.fr, hr.av, hr.keep⟩
  cases hv2 with
  | d h =>
    cases h with
    | nil => exact h1 rfl E g cargs (go .nils .nils)
    | empty a c => exact h2 E g cargs (go (.nn []) (.nn (.empty a c)))
    | list ds b o c sz cell hc hsz hone h hw => exact h2 E g cargs (go (.nn ds) (.nn (.list ds b o c sz cell hc hsz hone h hw)))
end Go.Pm

namespace Go.Pm
section
variable {P : Program} {ops : Array Oper} {o : Oper} {s : St}
theorem op_storeX {t : TypeId} {x v : Operand} {r : Nat} {q sz bs : Nat} {cs news : List PV} {u : Option TK} {z : Option Value} (cs' : List PV) (ho : o.op = .store t x v) (hx : s.val x = .ptr r q) (hkx : okOp x = true) (hob : s.ob r = some (.cells cs)) (hv : cellsP (s.val v) = some news) (hkv : okOp v = true)
    (ht : tyF P t = (u, some (sz, bs, z))) (hsz : news.length = sz) (hl : q + sz ≤ cs.length) (hw : wr cs q news = cs') : OpOK P ops o s ⟨o.dst, .tup [], [r], [], [(r, some (.cells cs'))]⟩ := by
  subst hw; exact op_store ho hx hkx hob hv hkv ht hsz hl
end
end Go.Pm

namespace Go.Pm
noncomputable abbrev PR : Program := Go.Proofs.Tryz.prog
theorem ty3 : tyF PR 3 = (some (.int .i64), some (1, 8, some (.int .i64 0))) := by kernel_rfl   -- int
theorem ty4 : tyF PR 4 = (some .bool, some (1, 1, some (.bool false))) := by kernel_rfl   -- bool
theorem ty5 : tyF PR 5 = (some (.int .u8), some (1, 1, some (.int .u8 0))) := by kernel_rfl   -- uint8
theorem ty9 : tyF PR 9 = (some .string, some (1, 16, some (.string ⟨#[]⟩))) := by kernel_rfl   -- string
theorem ty22 : tyF PR 22 = (some (.slice 40), some (1, 24, some (.slice none 0 0))) := by kernel_rfl   -- []api.Release
theorem ty25 : tyF PR 25 = (some .struct, some (2, 48, some (.agg #[(.slice none 0 0), (.slice none 0 0)]))) := by kernel_rfl   -- api.Index
theorem ty26 : tyF PR 26 = (some (.slice 51), some (1, 24, some (.slice none 0 0))) := by kernel_rfl   -- []api.Requirement
theorem ty27 : tyF PR 27 = (some (.slice 54), some (1, 24, some (.slice none 0 0))) := by kernel_rfl   -- []api.Selected
theorem ty34 : tyF PR 34 = (some (.int .i64), some (1, 8, some (.int .i64 0))) := by kernel_rfl   -- api.Errno
theorem ty38 : tyF PR 38 = (some .struct, some (3, 24, some (.agg #[(.int .i64 0), (.int .i64 0), (.int .i64 0)]))) := by kernel_rfl   -- api.Version
theorem ty40 : tyF PR 40 = (some .struct, some (9, 120, some (.agg #[(.string ⟨#[]⟩), (.int .i64 0), (.int .i64 0), (.int .i64 0), (.slice none 0 0), (.string ⟨#[]⟩), (.string ⟨#[]⟩), (.string ⟨#[]⟩), (.bool false)]))) := by kernel_rfl   -- api.Release
theorem ty49 : tyF PR 49 = (some (.slice 78), some (1, 24, some (.slice none 0 0))) := by kernel_rfl   -- api.Set
theorem ty51 : tyF PR 51 = (some .struct, some (2, 40, some (.agg #[(.string ⟨#[]⟩), (.slice none 0 0)]))) := by kernel_rfl   -- api.Requirement
theorem ty54 : tyF PR 54 = (some .struct, some (4, 40, some (.agg #[(.string ⟨#[]⟩), (.int .i64 0), (.int .i64 0), (.int .i64 0)]))) := by kernel_rfl   -- api.Selected
theorem ty68 : tyF PR 68 = (some (.slice 38), some (1, 24, some (.slice none 0 0))) := by kernel_rfl   -- []api.Version
theorem ty71 : tyF PR 71 = (some (.slice 9), some (1, 24, some (.slice none 0 0))) := by kernel_rfl   -- []string
theorem ty78 : tyF PR 78 = (some .struct, some (2, 16, some (.agg #[(.int .i64 0), (.int .i64 0)]))) := by kernel_rfl   -- api.Span
theorem ty79 : tyF PR 79 = (some (.map 54 40), some (1, 8, some (.map none))) := by kernel_rfl   -- map[api.Selected]api.Release
theorem ty80 : tyF PR 80 = (some (.map 9 22), some (1, 8, some (.map none))) := by kernel_rfl   -- map[string][]api.Release
theorem ty82 : tyF PR 82 = (some .struct, some (2, 16, some (.agg #[(.map none), (.map none)]))) := by kernel_rfl   -- index.table
theorem ty85 : tyF PR 85 = (some (.map 54 4), some (1, 8, some (.map none))) := by kernel_rfl   -- map[api.Selected]bool
theorem ty92 : tyF PR 92 = (some (.map 9 40), some (1, 8, some (.map none))) := by kernel_rfl   -- map[string]api.Release
theorem ty93 : tyF PR 93 = (some (.map 9 4), some (1, 8, some (.map none))) := by kernel_rfl   -- map[string]bool
theorem ty96 : tyF PR 96 = (some (.slice 3), some (1, 24, some (.slice none 0 0))) := by kernel_rfl   -- []int
theorem ty104 : tyF PR 104 = (some (.ptr 140), some (1, 8, some (.pointer none))) := by kernel_rfl   -- modcert/codec.text
theorem ty136 : tyF PR 136 = (some (.int .u64), some (1, 8, some (.int .u64 0))) := by kernel_rfl   -- uint64
theorem ty140 : tyF PR 140 = (some .struct, some (3, 32, some (.agg #[(.string ⟨#[]⟩), (.int .i64 0), (.int .i64 0)]))) := by kernel_rfl   -- codec.Reader
theorem ty151 : tyF PR 151 = (some (.array 3 3), some (3, 24, some (.agg #[(.int .i64 0), (.int .i64 0), (.int .i64 0)]))) := by kernel_rfl   -- [3]int
theorem ty156 : tyF PR 156 = (some (.int .u64), some (1, 8, some (.int .u64 0))) := by kernel_rfl   -- uint
theorem ty159 : tyF PR 159 = (some (.slice 5), some (1, 24, some (.slice none 0 0))) := by kernel_rfl   -- []uint8
theorem ty168 : tyF PR 168 = (some (.ptr 51), some (1, 8, some (.pointer none))) := by kernel_rfl   -- *api.Requirement
theorem ty180 : tyF PR 180 = (some (.int .u32), some (1, 4, some (.int .u32 0))) := by kernel_rfl   -- uint32
theorem fl25_0 : fldF PR 25 0 = some 0 := by kernel_rfl
theorem fl38_0 : fldF PR 38 0 = some 0 := by kernel_rfl
theorem fl38_1 : fldF PR 38 1 = some 1 := by kernel_rfl
theorem fl38_2 : fldF PR 38 2 = some 2 := by kernel_rfl
theorem fl40_0 : fldF PR 40 0 = some 0 := by kernel_rfl
theorem fl40_1 : fldF PR 40 1 = some 1 := by kernel_rfl
theorem fl40_2 : fldF PR 40 2 = some 4 := by kernel_rfl
theorem fl40_3 : fldF PR 40 3 = some 5 := by kernel_rfl
theorem fl40_4 : fldF PR 40 4 = some 6 := by kernel_rfl
theorem fl40_5 : fldF PR 40 5 = some 7 := by kernel_rfl
theorem fl40_6 : fldF PR 40 6 = some 8 := by kernel_rfl
theorem fl51_0 : fldF PR 51 0 = some 0 := by kernel_rfl
theorem fl51_1 : fldF PR 51 1 = some 1 := by kernel_rfl
theorem fl54_0 : fldF PR 54 0 = some 0 := by kernel_rfl
theorem fl78_0 : fldF PR 78 0 = some 0 := by kernel_rfl
theorem fl78_1 : fldF PR 78 1 = some 1 := by kernel_rfl
theorem fl82_0 : fldF PR 82 0 = some 0 := by kernel_rfl
theorem fl82_1 : fldF PR 82 1 = some 1 := by kernel_rfl
theorem fl140_0 : fldF PR 140 0 = some 0 := by kernel_rfl
theorem fl140_1 : fldF PR 140 1 = some 1 := by kernel_rfl
theorem fl140_2 : fldF PR 140 2 = some 2 := by kernel_rfl
theorem ca9 : callable PR 9 = true := by kernel_rfl   -- modcert/modcertlaw32.awake
theorem ca10 : callable PR 10 = true := by kernel_rfl   -- modcert/modcertref32.FewReleases
theorem ca11 : callable PR 11 = true := by kernel_rfl   -- modcert/modcertref32.FewRequirements
theorem ca13 : callable PR 13 = true := by kernel_rfl   -- modcert/index.Reachable
theorem ca15 : callable PR 15 = true := by kernel_rfl   -- modcert/index.Solves
theorem ca17 : callable PR 17 = true := by kernel_rfl   -- modcert/index.Manifest
theorem ca19 : callable PR 19 = true := by kernel_rfl   -- modcert/index.Read
theorem ca21 : callable PR 21 = true := by kernel_rfl   -- modcert/modcertref32.SameRelease
theorem ca22 : callable PR 22 = true := by kernel_rfl   -- modcert/index.Check
theorem ca23 : callable PR 23 = true := by kernel_rfl   -- slices.Clone[[]modcert/api.Requirement,modcert/api.Requirement]
theorem ca24 : callable PR 24 = true := by kernel_rfl   -- modcert/index.Find
theorem ca25 : callable PR 25 = true := by kernel_rfl   -- modcert/constraint.Place
theorem ca26 : callable PR 26 = true := by kernel_rfl   -- slices.ContainsFunc[[]modcert/api.Requirement,modcert/api.Requirement]
theorem ca28 : callable PR 28 = true := by kernel_rfl   -- modcert/constraint.Has
theorem ca35 : callable PR 35 = true := by kernel_rfl   -- modcert/modcertref32.Find
theorem ca36 : callable PR 36 = true := by kernel_rfl   -- slices.Equal[[]modcert/api.Version,modcert/api.Version]
theorem ca37 : callable PR 37 = true := by kernel_rfl   -- modcert/index.Versions
theorem ca38 : callable PR 38 = true := by kernel_rfl   -- modcert/modcertref32.Versions
theorem ca39 : callable PR 39 = true := by kernel_rfl   -- slices.Equal[[]string,string]
theorem ca40 : callable PR 40 = true := by kernel_rfl   -- modcert/index.Paths
theorem ca41 : callable PR 41 = true := by kernel_rfl   -- modcert/modcertref32.Paths
theorem ca42 : callable PR 42 = true := by kernel_rfl   -- modcert/modcertref31.Same
theorem ca43 : callable PR 43 = true := by kernel_rfl   -- modcert/index.Available
theorem ca44 : callable PR 44 = true := by kernel_rfl   -- modcert/modcertref32.Available
theorem ca45 : callable PR 45 = true := by kernel_rfl   -- modcert/modcertlaw32.example
theorem ca46 : callable PR 46 = true := by kernel_rfl   -- modcert/index.newTable
theorem ca47 : callable PR 47 = true := by kernel_rfl   -- modcert/index.key
theorem ca48 : callable PR 48 = true := by kernel_rfl   -- modcert/index.place
theorem ca49 : callable PR 49 = true := by kernel_rfl   -- modcert/modcertref32.Check
theorem ca51 : callable PR 51 = true := by kernel_rfl   -- (modcert/index.table).selected
theorem ca52 : callable PR 52 = true := by kernel_rfl   -- modcert/index.Solves$1
theorem ca55 : callable PR 55 = true := by kernel_rfl   -- modcert/index.Manifest$1
theorem ca56 : callable PR 56 = true := by kernel_rfl   -- modcert/codec.Uint
theorem ca57 : callable PR 57 = true := by kernel_rfl   -- modcert/index.Manifest$2
theorem ca58 : callable PR 58 = true := by kernel_rfl   -- modcert/codec.Text
theorem ca59 : callable PR 59 = true := by kernel_rfl   -- modcert/modcertref32.release
theorem ca63 : callable PR 63 = true := by kernel_rfl   -- modcert/codec.NewReader
theorem ca64 : callable PR 64 = true := by kernel_rfl   -- (*modcert/codec.Reader).Text
theorem ca65 : callable PR 65 = true := by kernel_rfl   -- modcert/version.Line
theorem ca66 : callable PR 66 = true := by kernel_rfl   -- (*modcert/codec.Reader).Uint
theorem ca67 : callable PR 67 = true := by kernel_rfl   -- (*modcert/codec.Reader).Count
theorem ca68 : callable PR 68 = true := by kernel_rfl   -- (*modcert/codec.Reader).Error
theorem ca69 : callable PR 69 = true := by kernel_rfl   -- (*modcert/codec.Reader).End
theorem ca73 : callable PR 73 = true := by kernel_rfl   -- modcert/modcertref32.major
theorem ca74 : callable PR 74 = true := by kernel_rfl   -- modcert/modcertref32.SameRequirements
theorem ca75 : callable PR 75 = true := by kernel_rfl   -- modcert/index.checkRelease
theorem ca76 : callable PR 76 = true := by kernel_rfl   -- modcert/index.compare
theorem ca77 : callable PR 77 = true := by kernel_rfl   -- modcert/index.clone
theorem ca78 : callable PR 78 = true := by kernel_rfl   -- modcert/version.Valid
theorem ca79 : callable PR 79 = true := by kernel_rfl   -- slices.IndexFunc[[]modcert/api.Requirement,modcert/api.Requirement]
theorem ca80 : callable PR 80 = true := by kernel_rfl   -- slices.ContainsFunc[modcert/api.Set,modcert/api.Span]
theorem ca81 : callable PR 81 = true := by kernel_rfl   -- modcert/constraint.Has$1
theorem ca85 : callable PR 85 = true := by kernel_rfl   -- slices.Sort[[]string,string]
theorem ca86 : callable PR 86 = true := by kernel_rfl   -- modcert/constraint.Canonical
theorem ca87 : callable PR 87 = true := by kernel_rfl   -- modcert/modcertref32.Place
theorem ca88 : callable PR 88 = true := by kernel_rfl   -- modcert/modcertref31.Canonical
theorem ca90 : callable PR 90 = true := by kernel_rfl   -- modcert/modcertref32.compare
theorem ca93 : callable PR 93 = true := by kernel_rfl   -- modcert/codec.unsigned
theorem ca94 : callable PR 94 = true := by kernel_rfl   -- modcert/modcertref24.Valid
theorem ca95 : callable PR 95 = true := by kernel_rfl   -- modcert/modcertref32.CheckRequirements
theorem ca96 : callable PR 96 = true := by kernel_rfl   -- modcert/modcertref32.digest
theorem ca99 : callable PR 99 = true := by kernel_rfl   -- modcert/codec.take[string]
theorem ca100 : callable PR 100 = true := by kernel_rfl   -- (*modcert/codec.Reader).text
theorem ca101 : callable PR 101 = true := by kernel_rfl   -- modcert/lexer.Major
theorem ca102 : callable PR 102 = true := by kernel_rfl   -- modcert/lexer.IsPath
theorem ca103 : callable PR 103 = true := by kernel_rfl   -- strings.LastIndex
theorem ca104 : callable PR 104 = true := by kernel_rfl   -- modcert/codec.take[int]
theorem ca105 : callable PR 105 = true := by kernel_rfl   -- (*modcert/codec.Reader).size
theorem ca106 : callable PR 106 = true := by kernel_rfl   -- (*modcert/codec.Reader).Count$1
theorem ca108 : callable PR 108 = true := by kernel_rfl   -- modcert/modcertref24.Line
theorem ca109 : callable PR 109 = true := by kernel_rfl   -- modcert/index.CheckRequirements
theorem ca110 : callable PR 110 = true := by kernel_rfl   -- cmp.Or[int]
theorem ca111 : callable PR 111 = true := by kernel_rfl   -- cmp.Compare[string]
theorem ca112 : callable PR 112 = true := by kernel_rfl   -- modcert/version.Compare
theorem ca113 : callable PR 113 = true := by kernel_rfl   -- slices.Clone[modcert/api.Set,modcert/api.Span]
theorem ca114 : callable PR 114 = true := by kernel_rfl   -- modcert/version.parts
theorem ca115 : callable PR 115 = true := by kernel_rfl   -- slices.IndexFunc[modcert/api.Set,modcert/api.Span]
theorem ca117 : callable PR 117 = true := by kernel_rfl   -- math/bits.Len
theorem ca118 : callable PR 118 = true := by kernel_rfl   -- slices.SortFunc[modcert/api.Set,modcert/api.Span]
theorem ca120 : callable PR 120 = true := by kernel_rfl   -- modcert/modcertref24.Compare
theorem ca121 : callable PR 121 = true := by kernel_rfl   -- modcert/modcertref24.part
theorem ca122 : callable PR 122 = true := by kernel_rfl   -- strings.Split
theorem ca123 : callable PR 123 = true := by kernel_rfl   -- modcert/lexer.version
theorem ca124 : callable PR 124 = true := by kernel_rfl   -- modcert/lexer.IsName
theorem ca125 : callable PR 125 = true := by kernel_rfl   -- modcert/lexer.all
theorem ca127 : callable PR 127 = true := by kernel_rfl   -- modcert/lexer.small
theorem ca128 : callable PR 128 = true := by kernel_rfl   -- modcert/lexer.digit
theorem ca129 : callable PR 129 = true := by kernel_rfl   -- internal/bytealg.LastIndexByteString
theorem ca131 : callable PR 131 = true := by kernel_rfl   -- (*modcert/codec.Reader).scan
theorem ca132 : callable PR 132 = true := by kernel_rfl   -- modcert/modcertref03.IsPath
theorem ca133 : callable PR 133 = true := by kernel_rfl   -- modcert/modcertref03.Major
theorem ca134 : callable PR 134 = true := by kernel_rfl   -- modcert/index.checkRequirement
theorem ca135 : callable PR 135 = true := by kernel_rfl   -- cmp.isNaN[string]
theorem ca136 : callable PR 136 = true := by kernel_rfl   -- cmp.Compare[int]
theorem ca148 : callable PR 148 = true := by kernel_rfl   -- slices.pdqsortCmpFunc[modcert/api.Span]
theorem ca149 : callable PR 149 = true := by kernel_rfl   -- strings.genSplit
theorem ca150 : callable PR 150 = true := by kernel_rfl   -- strings.CutPrefix
theorem ca152 : callable PR 152 = true := by kernel_rfl   -- modcert/lexer.keyword
theorem ca154 : callable PR 154 = true := by kernel_rfl   -- modcert/modcertref03.Segments
theorem ca155 : callable PR 155 = true := by kernel_rfl   -- modcert/modcertref03.segment
theorem ca156 : callable PR 156 = true := by kernel_rfl   -- modcert/modcertref03.major
theorem ca157 : callable PR 157 = true := by kernel_rfl   -- slices.Equal[modcert/api.Set,modcert/api.Span]
theorem ca158 : callable PR 158 = true := by kernel_rfl   -- cmp.isNaN[int]
theorem ca173 : callable PR 173 = true := by kernel_rfl   -- strings.Count
theorem ca174 : callable PR 174 = true := by kernel_rfl   -- strings.Index
theorem ca175 : callable PR 175 = true := by kernel_rfl   -- internal/stringslite.CutPrefix
theorem ca176 : callable PR 176 = true := by kernel_rfl   -- modcert/lexer.capital
theorem ca177 : callable PR 177 = true := by kernel_rfl   -- strings.Contains
theorem ca178 : callable PR 178 = true := by kernel_rfl   -- modcert/modcertref03.small
theorem ca179 : callable PR 179 = true := by kernel_rfl   -- modcert/modcertref03.digit
theorem ca180 : callable PR 180 = true := by kernel_rfl   -- modcert/modcertref03.IsName
theorem ca188 : callable PR 188 = true := by kernel_rfl   -- internal/stringslite.Index
theorem ca189 : callable PR 189 = true := by kernel_rfl   -- internal/stringslite.HasPrefix
theorem ca190 : callable PR 190 = true := by kernel_rfl   -- modcert/modcertref03.words
theorem ca191 : callable PR 191 = true := by kernel_rfl   -- modcert/modcertref03.Has
theorem ca192 : callable PR 192 = true := by kernel_rfl   -- modcert/modcertref03.Keywords
theorem ca195 : callable PR 195 = true := by kernel_rfl   -- internal/stringslite.IndexByte
theorem ca197 : callable PR 197 = true := by kernel_rfl   -- internal/bytealg.Cutover
theorem ca198 : callable PR 198 = true := by kernel_rfl   -- internal/bytealg.IndexRabinKarp[string]
theorem ca199 : callable PR 199 = true := by kernel_rfl   -- modcert/modcertref03.word
theorem ca201 : callable PR 201 = true := by kernel_rfl   -- internal/bytealg.hashStr[string]
theorem ca202 : callable PR 202 = true := by kernel_rfl   -- modcert/modcertref03.capital
theorem zk9 : cellsP (rawPV (.string ⟨#[]⟩)) = some [.d (.str [])] := rfl
theorem es9 : eqSh PR 5 9 = some [.str] := by kernel_rfl
theorem zk25 : cellsP (rawPV (.agg #[(.slice none 0 0), (.slice none 0 0)])) = some [.nils, .nils] := rfl
theorem bl25 : blF PR 25 = some [(0, 1), (1, 1)] := by kernel_rfl
theorem zk38 : cellsP (rawPV (.agg #[(.int .i64 0), (.int .i64 0), (.int .i64 0)])) = some [.d (.int .i64 0), .d (.int .i64 0), .d (.int .i64 0)] := rfl
theorem bl38 : blF PR 38 = some [(0, 1), (1, 1), (2, 1)] := by kernel_rfl
theorem es38 : eqSh PR 5 38 = some [.int .i64, .int .i64, .int .i64] := by kernel_rfl
theorem eg38 : PR.eqGuardType PR.depth 38 = false := by kernel_rfl
theorem zk40 : cellsP (rawPV (.agg #[(.string ⟨#[]⟩), (.int .i64 0), (.int .i64 0), (.int .i64 0), (.slice none 0 0), (.string ⟨#[]⟩), (.string ⟨#[]⟩), (.string ⟨#[]⟩), (.bool false)])) = some [.d (.str []), .d (.int .i64 0), .d (.int .i64 0), .d (.int .i64 0), .nils, .d (.str []), .d (.str []), .d (.str []), .d (.bool false)] := rfl
theorem bl40 : blF PR 40 = some [(0, 1), (1, 3), (4, 1), (5, 1), (6, 1), (7, 1), (8, 1)] := by kernel_rfl
theorem zk51 : cellsP (rawPV (.agg #[(.string ⟨#[]⟩), (.slice none 0 0)])) = some [.d (.str []), .nils] := rfl
theorem bl51 : blF PR 51 = some [(0, 1), (1, 1)] := by kernel_rfl
theorem zk54 : cellsP (rawPV (.agg #[(.string ⟨#[]⟩), (.int .i64 0), (.int .i64 0), (.int .i64 0)])) = some [.d (.str []), .d (.int .i64 0), .d (.int .i64 0), .d (.int .i64 0)] := rfl
theorem bl54 : blF PR 54 = some [(0, 1), (1, 3)] := by kernel_rfl
theorem es54 : eqSh PR 5 54 = some [.str, .int .i64, .int .i64, .int .i64] := by kernel_rfl
theorem eg54 : PR.eqGuardType PR.depth 54 = false := by kernel_rfl
theorem zk78 : cellsP (rawPV (.agg #[(.int .i64 0), (.int .i64 0)])) = some [.d (.int .i64 0), .d (.int .i64 0)] := rfl
theorem bl78 : blF PR 78 = some [(0, 1), (1, 1)] := by kernel_rfl
theorem es78 : eqSh PR 5 78 = some [.int .i64, .int .i64] := by kernel_rfl
theorem eg78 : PR.eqGuardType PR.depth 78 = false := by kernel_rfl
theorem zk82 : cellsP (rawPV (.agg #[(.map none), (.map none)])) = some [.d .nilm, .d .nilm] := rfl
theorem bl82 : blF PR 82 = some [(0, 1), (1, 1)] := by kernel_rfl
theorem zk92 : cellsP (rawPV (.map none)) = some [.d .nilm] := rfl
theorem zk140 : cellsP (rawPV (.agg #[(.string ⟨#[]⟩), (.int .i64 0), (.int .i64 0)])) = some [.d (.str []), .d (.int .i64 0), .d (.int .i64 0)] := rfl
theorem bl140 : blF PR 140 = some [(0, 1), (1, 1), (2, 1)] := by kernel_rfl
theorem zk151 : cellsP (rawPV (.agg #[(.int .i64 0), (.int .i64 0), (.int .i64 0)])) = some [.d (.int .i64 0), .d (.int .i64 0), .d (.int .i64 0)] := rfl
theorem bl151 : blF PR 151 = some [(0, 1), (1, 1), (2, 1)] := by kernel_rfl
theorem mixed : PR.follows .mixedOrders = true := by kernel_rfl
end Go.Pm

namespace Go.Pm
open Go.Proofs
theorem xsr {id : Nat} {ops : Array Oper} {draw : Bool} {y : Code} {Q : Exit → St → Prop} {s : St} (h : Lex PR ops draw s ops.toList s [] ((thenA (awp PR y Q) Q) .normal)) : awp PR (.seq (.region id ops draw) y) Q s := awp_seq (awp_region mixed h)
theorem xlb {n m : Nat} (h : Nat.ble n m = true) : n ≤ m := Nat.le_of_ble_eq_true h
theorem xkc {ρ : Nat → Nat} {s : St} {i : Nat} {p q : PV} {l : List (Nat × PV)} (t : KS ρ s l) (h : s.sl i = some p := by exact rfl) (hle : Le ρ p q := by first | exact k_eq rfl | exact k_i (by simp) | exact .data rfl | exact k_d (by simp) | exact k_i (by simp; omega) | exact k_i (by omega)) : KS ρ s ((i, q) :: l) := .cons h hle t
section
variable {P : Program} {ops : Array Oper} {draw : Bool} {s0 : St} {o : Oper} {rest : List Oper} {s : St} {es : List Eff} {K : St → Prop}
theorem xlz {dst : Option Tmp} {val : PV} {foot news : List Nat} {upd : List (Nat × Option Ob)} (h1 : OpOK P ops o s ⟨dst, val, foot, news, upd⟩) (h3 : Lex P ops draw s0 rest (s.ap dst val upd) (⟨dst, val, foot, news, upd⟩ :: es) K) (h0 : s.want ops o = some true := by exact rfl) (hd : dB o s.n = true := by exact rfl) (h2 : (news.all fun x => s.fresh x) = true := by exact rfl) : Lex P ops draw s0 (o :: rest) s es K := lx h1 h0 hd h2 h3
end
end Go.Pm

namespace Go.Pm
structure Ver where
  maj : Int
  min : Int
  pat : Int
  deriving DecidableEq
structure Span where
  lo : Int
  hi : Int
  deriving DecidableEq
structure Req where
  path : Bytes
  set : List Span
  deriving DecidableEq
structure Rls where
  path : Bytes
  ver : Ver
  reqs : List Req
  arch : Bytes
  iface : Bytes
  cert : Bytes
  yank : Bool
  deriving DecidableEq
structure Sel where
  path : Bytes
  ver : Ver
  deriving DecidableEq
abbrev I (n : Int) : D := .int .i64 n
@[reducible] def Ver.d (v : Ver) : D := .agg [I v.maj, I v.min, I v.pat]
@[reducible] def Span.d (x : Span) : D := .agg [I x.lo, I x.hi]
@[reducible] def setD (s : List Span) : D := .list (s.map Span.d)
@[reducible] def Req.d (q : Req) : D := .agg [.str q.path, setD q.set]
@[reducible] def reqsD (l : List Req) : D := .list (l.map Req.d)
@[reducible] def Rls.d (r : Rls) : D := .agg [.str r.path, I r.ver.maj, I r.ver.min, I r.ver.pat, reqsD r.reqs, .str r.arch, .str r.iface, .str r.cert, .bool r.yank]
@[reducible] def Rls.sel (r : Rls) : Sel := ⟨r.path, r.ver⟩
@[reducible] def Sel.d (s : Sel) : D := .agg [.str s.path, I s.ver.maj, I s.ver.min, I s.ver.pat]
@[reducible] def relsD (l : List Rls) : D := .list (l.map Rls.d)
@[reducible] def selsD (l : List Sel) : D := .list (l.map Sel.d)
structure Idx where
  rels : List Rls
  ifs : List D
@[reducible] def Idx.d (x : Idx) : D := .agg [relsD x.rels, .list x.ifs]
end Go.Pm

namespace Go.Pm
theorem ent_s1 {p1 : PV} {x1 y1 : D} {O O' : List (Nat × Ob)} (h1 : toD p1 = some x1) (hO : ∀ x ob, look O' x = some ob → look O x = some ob) (e1 : x1 = y1) : Ent (St.of [p1] O) (St.of [.d y1] O') := by
  refine ent_of (s := St.of [p1] O) id rfl (fun i q hi => ?_) (fun x ob hx => ⟨ob, hO x ob hx, by have := LeO.same (ρ := id) ob; rwa [obren_id] at this⟩) (fun x y _ _ _ _ h => h) (fun _ _ => rfl)
  have hi' : (if 0 = i then some (PV.d y1) else none) = some q := hi
  by_cases h0 : 0 = i
  · subst h0
    rw [if_pos rfl] at hi'; injection hi' with hi'; subst hi'
    exact ⟨p1, rfl, .data (by rw [h1, e1])⟩
  · rw [if_neg h0] at hi'; cases hi'
theorem o_eq {ρ : Nat → Nat} {a b : Ob} (h : a = b.ren ρ) : LeO ρ a b := h ▸ .same b
theorem rng_lt {α : Type} {l : List α} {i : Nat} (h : decide ((i : Int) < (l.length : Int)) = true) : ∃ x, l[i]? = some x := by
  have : i < l.length := by simpa using h
  exact ⟨_, List.getElem?_eq_getElem this⟩
theorem rng_ge {α : Type} {l : List α} {i : Nat} (h : decide ((i : Int) < (l.length : Int)) = false) (hi : i ≤ l.length) : i = l.length := by
  have : ¬ i < l.length := by simpa using h
  omega
theorem rng_le {α : Type} {l : List α} {i : Nat} {x : α} (h : l[i]? = some x) : i + 1 ≤ l.length := (List.getElem?_eq_some_iff.1 h).1
theorem drop_cons {α : Type} {l : List α} {i : Nat} {x : α} (h : l[i]? = some x) : l.drop i = x :: l.drop (i + 1) := by
  obtain ⟨h1, h2⟩ := List.getElem?_eq_some_iff.1 h
  rw [List.drop_eq_getElem_cons h1, h2]

def Span.has (x : Span) (p : Int) : Bool := decide (x.lo ≤ p) && decide (p < x.hi)
def ixF {α : Type} (f : α → Bool) : List α → Nat → Int
  | [], _ => -1
  | x :: r, i => if f x then i else ixF f r (i + 1)
theorem ixF_yes {α : Type} {f : α → Bool} {x : α} {r : List α} {i : Nat} (h : f x = true) : ixF f (x :: r) i = i := by simp [ixF, h]
theorem ixF_no {α : Type} {f : α → Bool} {x : α} {r : List α} {i : Nat} (h : f x = false) : ixF f (x :: r) i = ixF f r (i + 1) := by simp [ixF, h]
theorem ixF_ge {α : Type} {f : α → Bool} : ∀ {l : List α} {i : Nat}, (0 ≤ ixF f l i ↔ l.any f = true) ∧ (ixF f l i = -1 ∨ 0 ≤ ixF f l i)
  | [], i => by simp [ixF]
  | x :: r, i => by
    by_cases h : f x = true
    · simp [ixF, h]
    · have := ixF_ge (f := f) (l := r) (i := i + 1)
      simp only [ixF, h, List.any_cons, Bool.false_or]; exact this
theorem ixF_any {α : Type} {f : α → Bool} {l : List α} : decide (ixF f l 0 ≥ 0) = l.any f := by
  have := (ixF_ge (f := f) (l := l) (i := 0)).1
  cases h : l.any f with
  | true => exact decide_eq_true (this.2 h)
  | false => exact decide_eq_false (fun h' => by rw [this.1 h'] at h; cases h)
def setHas (l : List Span) (p : Int) : Bool := decide (0 ≤ p) && decide (p < 1000000) && l.any (·.has p)
def Ver.nums (v : Ver) : List Int := [v.maj, v.min, v.pat]
def okNum (n : Int) : Bool := decide (0 ≤ n) && decide (n ≤ 999)
def Ver.ok (v : Ver) : Bool := v.nums.all okNum
theorem nums_get {v : Ver} {i : Nat} {x : Int} (h : v.nums[i]? = some x) : ([I v.maj, I v.min, I v.pat] : List D)[i]? = some (I x) := by
  have : ([I v.maj, I v.min, I v.pat] : List D) = v.nums.map I := rfl
  rw [this, List.getElem?_map, h]; rfl
end Go.Pm
namespace Go.Pm
theorem ok_bounds {v : Ver} (h : v.ok = true) : 0 ≤ v.maj ∧ v.maj ≤ 999 ∧ 0 ≤ v.min ∧ v.min ≤ 999 ∧ 0 ≤ v.pat ∧ v.pat ≤ 999 := by
  simp [Ver.ok, Ver.nums, okNum] at h; omega
/-- A version's place, and the error. -/
def placeOf (v : Ver) : Int × Int := if v.ok then (1000 * v.min + v.pat, 0) else (0, 2)
end Go.Pm
namespace Go.Pm
def cmpI (a b : Int) : Int := if a < b then -1 else if b < a then 1 else 0
def cmpS (a b : Bytes) : Int := if Op.bytesLess a b then -1 else if a = b then 0 else 1
def cmpL : List Int → List Int → Int
  | a :: r, b :: q => if cmpI a b = 0 then cmpL r q else cmpI a b
  | _, _ => 0
def cmpV (v u : Ver) : Int := cmpL v.nums u.nums
theorem nums_cell {v : Ver} {i : Nat} {x : Int} (h : v.nums[i]? = some x) : ([.d (I v.maj), .d (I v.min), .d (I v.pat)] : List PV)[0 + i * 1]? = some (.d (I x)) := by
  have : ([.d (I v.maj), .d (I v.min), .d (I v.pat)] : List PV) = v.nums.map fun n => .d (I n) := rfl
  rw [this, Nat.zero_add, Nat.mul_one, List.getElem?_map, h]; rfl
def orI : List Int → Int
  | [] => 0
  | x :: r => if x ≠ 0 then x else orI r
def cmpR (a b : Rls) : Int := orI [cmpS a.path b.path, cmpV a.ver b.ver]
end Go.Pm
namespace Go.Pm
def smallB (c : UInt8) : Bool := decide ((97 : Int) ≤ c.toNat) && decide ((c.toNat : Int) ≤ 122)
def digitB (c : UInt8) : Bool := decide ((48 : Int) ≤ c.toNat) && decide ((c.toNat : Int) ≤ 57)
def capB (c : UInt8) : Bool := decide ((65 : Int) ≤ c.toNat) && decide ((c.toNat : Int) ≤ 90)
def wordB (c : UInt8) : Bool := smallB c || capB c || digitB c || ((c.toNat : Int) == 95)
end Go.Pm
namespace Go.Pm
end Go.Pm
namespace Go.Pm
end Go.Pm
namespace Go.Pm
/-- The keywords. -/
def kwords : List Bytes := [[97, 110, 100], [97, 110, 121], [97, 115], [98, 111, 111, 108], [100, 101, 112, 114, 101, 99, 97, 116, 101, 100], [101, 108, 115, 101], [101, 120, 112, 111, 114, 116], [102, 97, 108, 115, 101], [102, 110], [102, 111, 108, 100], [102, 114, 111, 109], [105, 102], [105, 109, 112, 111, 114, 116], [105, 110], [105, 110, 116], [108, 101, 110, 103, 116, 104], [108, 101, 116], [108, 105, 115, 116], [109, 97, 116, 99, 104], [109, 111, 100, 117, 108, 101], [110, 111, 110, 101], [110, 111, 116], [111, 114], [116, 101, 120, 116], [116, 104, 101, 110], [116, 114, 117, 101], [116, 121, 112, 101], [117, 115, 101]]
def isName (s : Bytes) : Bool := decide (1 ≤ s.length) && decide (s.length ≤ 32) && s.head?.any smallB && s.all wordB && !(kwords.any (· == s))
def segOK (s : Bytes) : Bool := s.all (fun c => smallB c || digitB c) && isName s
end Go.Pm

namespace Go.Pm
open Go.Proofs
theorem ext187 : ExtF PR 187 Extern.BytealgCount.count := ⟨⟨Tryz.f187, Tryz.func187, by kernel_rfl, by kernel_rfl, by kernel_rfl, by kernel_rfl⟩⟩
theorem ext196 : ExtF PR 196 Extern.BytealgIndex.index := ⟨⟨Tryz.f196, Tryz.func196, by kernel_rfl, by kernel_rfl, by kernel_rfl, by kernel_rfl⟩⟩
theorem ext200 : ExtF PR 200 Extern.BytealgIndexByte.indexByte := ⟨⟨Tryz.f200, Tryz.func200, by kernel_rfl, by kernel_rfl, by kernel_rfl, by kernel_rfl⟩⟩
theorem ca151 : callable PR 151 = true := by kernel_rfl
theorem ca126 : callable PR 126 = true := by kernel_rfl
theorem ca89 : callable PR 89 = true := by kernel_rfl
theorem gix : PR.globals.findIdx? (·.name == "internal/bytealg.MaxLen") = some 0 := by kernel_rfl
end Go.Pm

namespace Go.Proofs
open Go.Shelf Go.RowKit Go.Lib Go.Sort
def Tryz.pdqSp_ren : Go.Shelf.Ren := ⟨fun | 14 => 148 | 20 => 164 | 21 => 165 | 22 => 166 | 23 => 167 | 24 => 168 | 25 => 169 | 26 => 170 | 27 => 171 | 46 => 182 | 47 => 160 | 48 => 161 | 49 => 183 | 50 => 184 | 15 => 117 | 57 => 193 | 28 => 146 | 29 => 147 | n => n, fun | 24 => 78 | 22 => 48 | 3 => 3 | 25 => 158 | 4 => 4 | 0 => 0 | 46 => 173 | 45 => 172 | 50 => 162 | 66 => 189 | 39 => 156 | 55 => 136 | 70 => 193 | 76 => 201 | 77 => 202 | 53 => 180 | 5 => 5 | 9 => 9 | n => n, fun | n => n⟩
theorem Tryz.pdqSp : Go.Proofs.SlLaysF0.n14 Tryz.prog Tryz.pdqSp_ren := {
  mixed := by kernel_rfl
  f14 := ⟨Tryz.f148.name, by decide, Tryz.func148.trans (congrArg some (by kernel_rfl))⟩
  f15 := Tryz.func117.trans (congrArg some (by kernel_rfl))
  f20 := ⟨Tryz.f164.name, by decide, Tryz.func164.trans (congrArg some (by kernel_rfl))⟩
  f21 := ⟨Tryz.f165.name, by decide, Tryz.func165.trans (congrArg some (by kernel_rfl))⟩
  f22 := ⟨Tryz.f166.name, by decide, Tryz.func166.trans (congrArg some (by kernel_rfl))⟩
  f23 := ⟨Tryz.f167.name, by decide, Tryz.func167.trans (congrArg some (by kernel_rfl))⟩
  f24 := ⟨Tryz.f168.name, by decide, Tryz.func168.trans (congrArg some (by kernel_rfl))⟩
  f25 := ⟨Tryz.f169.name, by decide, Tryz.func169.trans (congrArg some (by kernel_rfl))⟩
  f26 := ⟨Tryz.f170.name, by decide, Tryz.func170.trans (congrArg some (by kernel_rfl))⟩
  f27 := ⟨Tryz.f171.name, by decide, Tryz.func171.trans (congrArg some (by kernel_rfl))⟩
  f28 := Tryz.func146.trans (congrArg some (by kernel_rfl))
  f29 := Tryz.func147.trans (congrArg some (by kernel_rfl))
  f46 := ⟨Tryz.f182.name, by decide, Tryz.func182.trans (congrArg some (by kernel_rfl))⟩
  f47 := Tryz.func160.trans (congrArg some (by kernel_rfl))
  f48 := Tryz.func161.trans (congrArg some (by kernel_rfl))
  f49 := ⟨Tryz.f183.name, by decide, Tryz.func183.trans (congrArg some (by kernel_rfl))⟩
  f50 := ⟨Tryz.f184.name, by decide, Tryz.func184.trans (congrArg some (by kernel_rfl))⟩
  f57 := ⟨Tryz.f193.name, by decide, Tryz.func193.trans (congrArg some (by kernel_rfl))⟩
  t0 := Tryz.underlying0
  a0 := Tryz.isAgg0
  z0 := Tryz.sizeOf0
  v0 := Tryz.zeroValue0
  t3 := Tryz.underlying3
  a3 := Tryz.isAgg3
  z3 := Tryz.sizeOf3
  v3 := Tryz.zeroValue3
  t4 := Tryz.underlying4
  a4 := Tryz.isAgg4
  z4 := Tryz.sizeOf4
  v4 := Tryz.zeroValue4
  t5 := Tryz.underlying5
  a5 := Tryz.isAgg5
  z5 := Tryz.sizeOf5
  v5 := Tryz.zeroValue5
  t9 := Tryz.underlying9
  a9 := Tryz.isAgg9
  z9 := Tryz.sizeOf9
  v9 := Tryz.zeroValue9
  t22 := Tryz.underlying48
  a22 := Tryz.isAgg48
  z22 := Tryz.sizeOf48
  v22 := Tryz.zeroValue48
  t25 := Tryz.underlying158
  a25 := Tryz.isAgg158
  z25 := Tryz.sizeOf158
  v25 := Tryz.zeroValue158
  t39 := Tryz.underlying156
  a39 := Tryz.isAgg156
  z39 := Tryz.sizeOf156
  v39 := Tryz.zeroValue156
  t45 := Tryz.underlying172
  a45 := Tryz.isAgg172
  z45 := Tryz.sizeOf172
  v45 := Tryz.zeroValue172
  t46 := Tryz.underlying173
  a46 := Tryz.isAgg173
  z46 := Tryz.sizeOf173
  v46 := Tryz.zeroValue173
  t50 := Tryz.underlying162
  a50 := Tryz.isAgg162
  z50 := Tryz.sizeOf162
  v50 := Tryz.zeroValue162
  t53 := Tryz.underlying180
  a53 := Tryz.isAgg180
  z53 := Tryz.sizeOf180
  v53 := Tryz.zeroValue180
  t55 := Tryz.underlying136
  a55 := Tryz.isAgg136
  z55 := Tryz.sizeOf136
  v55 := Tryz.zeroValue136
  t66 := Tryz.underlying189
  a66 := Tryz.isAgg189
  z66 := Tryz.sizeOf189
  v66 := Tryz.zeroValue189
  t70 := Tryz.underlying193
  a70 := Tryz.isAgg193
  z70 := Tryz.sizeOf193
  v70 := Tryz.zeroValue193
  t76 := Tryz.underlying201
  a76 := Tryz.isAgg201
  z76 := Tryz.sizeOf201
  v76 := Tryz.zeroValue201
  t77 := Tryz.underlying202
  a77 := Tryz.isAgg202
  z77 := Tryz.sizeOf202
  v77 := Tryz.zeroValue202 }
def Tryz.lenSp_ren : Go.Shelf.Ren := ⟨fun | 15 => 117 | 28 => 146 | 29 => 147 | n => n, fun | 39 => 156 | 3 => 3 | 53 => 180 | 55 => 136 | 4 => 4 | 5 => 5 | 9 => 9 | n => n, fun | n => n⟩
theorem Tryz.lenSp : Go.Proofs.SlLaysF0.n15 Tryz.prog Tryz.lenSp_ren := {
  mixed := by kernel_rfl
  f15 := Tryz.func117.trans (congrArg some (by kernel_rfl))
  f28 := Tryz.func146.trans (congrArg some (by kernel_rfl))
  f29 := Tryz.func147.trans (congrArg some (by kernel_rfl))
  t3 := Tryz.underlying3
  a3 := Tryz.isAgg3
  z3 := Tryz.sizeOf3
  v3 := Tryz.zeroValue3
  t4 := Tryz.underlying4
  a4 := Tryz.isAgg4
  z4 := Tryz.sizeOf4
  v4 := Tryz.zeroValue4
  t5 := Tryz.underlying5
  a5 := Tryz.isAgg5
  z5 := Tryz.sizeOf5
  v5 := Tryz.zeroValue5
  t9 := Tryz.underlying9
  a9 := Tryz.isAgg9
  z9 := Tryz.sizeOf9
  v9 := Tryz.zeroValue9
  t39 := Tryz.underlying156
  a39 := Tryz.isAgg156
  z39 := Tryz.sizeOf156
  v39 := Tryz.zeroValue156
  t53 := Tryz.underlying180
  a53 := Tryz.isAgg180
  z53 := Tryz.sizeOf180
  v53 := Tryz.zeroValue180
  t55 := Tryz.underlying136
  a55 := Tryz.isAgg136
  z55 := Tryz.sizeOf136
  v55 := Tryz.zeroValue136 }
end Go.Proofs

namespace Go.Proofs
open Go.Shelf Go.RowKit Go.Lib Go.Sort
/-- A span whose beginning is small. -/
structure SpB where
  lo : Int
  hi : Int
  h0 : 0 ≤ lo
  h1 : lo ≤ 1000000
instance : Inhabited SpB := ⟨⟨0, 0, by decide, by decide⟩⟩
def SpB.enc (x : SpB) : List Value := [.int .i64 x.lo, .int .i64 x.hi]
def SpB.cf (x y : SpB) : Int := x.lo - y.lo
theorem SpB.lt (x y : SpB) : ltOf SpB.cf x y = decide (x.lo < y.lo) := by
  unfold ltOf SpB.cf
  apply Bool.eq_iff_iff.2
  simp only [decide_eq_true_eq]; omega
theorem SpB.swo : SWO (ltOf SpB.cf) where
  irrefl x := by rw [SpB.lt]; simp
  trans x y z h1 h2 := by rw [SpB.lt] at *; simp at *; omega
  ntrans x y z h1 h2 := by rw [SpB.lt] at *; simp at *; omega

set_option maxHeartbeats 1000000 in
theorem Tryz.closure119 (x y : SpB) (W : World) : Calls Tryz.prog 119 #[.agg #[.int .i64 x.lo, .int .i64 x.hi], .agg #[.int .i64 y.lo, .int .i64 y.hi]] W fun e w' => e = .returned (.int .i64 (x.lo - y.lo)) ∧ ∃ q os', w' = grow (W.drewN q) os' := by
  have hw : IntKind.i64.wrap (x.lo - y.lo) = x.lo - y.lo := by
    have := x.h0; have := x.h1; have := y.h0; have := y.h1
    exact Go.Pm.wrap64 (by omega) (by omega)
  go_enter Tryz.func119, Tryz.ntmps119
  go_wp2
  go_ret
  exact ⟨rfl, 0, _, by rw [alloc_eq_grow, alloc_eq_grow, grow_grow]; rfl⟩

theorem SpB.lays (blk off size : Nat) (w : World) : CmpLays Tryz.prog 119 #[] SpB.enc 2 SpB.cf blk off size w := fun _ _ _ _ x y => Tryz.closure119 x y _

/-- How the program sorts. -/
def pdB (l : List SpB) : List SpB := (pdq (ltOf SpB.cf) l.toArray 0 l.length (Lib.bitLen l.length) true true).toList
theorem pdB_all (l : List SpB) : PermIn 0 l.toArray.size l.toArray (pdq (ltOf SpB.cf) l.toArray 0 l.length (Lib.bitLen l.length) true true) ∧ SortedIn (ltOf SpB.cf) 0 l.toArray.size (pdq (ltOf SpB.cf) l.toArray 0 l.length (Lib.bitLen l.length) true true) := by
  have h := pdq_sorts (ltOf SpB.cf) SpB.swo l.toArray 0 l.length (Lib.bitLen l.length) true true (Nat.zero_le _) (by simp) (Or.inl rfl)
  simpa using h
theorem pdB_len (l : List SpB) : (pdB l).length = l.length := by
  have := (pdB_all l).1.1
  simpa [pdB] using this
theorem pdB_perm (l : List SpB) : (pdB l).Perm l := by
  have h := (pdB_all l).1.2.2
  have hs : (pdq (ltOf SpB.cf) l.toArray 0 l.length (Lib.bitLen l.length) true true).size = l.toArray.size := (pdB_all l).1.1
  have e : (pdq (ltOf SpB.cf) l.toArray 0 l.length (Lib.bitLen l.length) true true).extract 0 l.toArray.size = pdq (ltOf SpB.cf) l.toArray 0 l.length (Lib.bitLen l.length) true true := by rw [← hs]; simp
  rw [e] at h
  simpa [pdB] using h
theorem pdB_sorted (l : List SpB) (i j : Nat) (x y : SpB) (hij : i < j) (hx : (pdB l)[i]? = some x) (hy : (pdB l)[j]? = some y) : x.lo ≤ y.lo := by
  have hs : (pdq (ltOf SpB.cf) l.toArray 0 l.length (Lib.bitLen l.length) true true).size = l.toArray.size := (pdB_all l).1.1
  have hjl := (List.getElem?_eq_some_iff.1 hy).1
  rw [pdB_len] at hjl
  have h := (pdB_all l).2 i j (Nat.zero_le _) hij (by simpa using hjl)
  have e : ∀ (k : Nat) (z : SpB), (pdB l)[k]? = some z → (pdq (ltOf SpB.cf) l.toArray 0 l.length (Lib.bitLen l.length) true true)[k]! = z := by
    intro k z hk
    unfold pdB at hk
    rw [Array.getElem?_toList] at hk
    simp [getElem!_def, hk]
  rw [e i x hx, e j y hy, SpB.lt] at h
  simp at h; omega

theorem c117 (n : Nat) (h : n < 18446744073709551616) : Go.Pm.Fn Go.Pm.PR 117 [.d (.int .u64 n)] [] [.d (.int .i64 (Lib.bitLen n : Nat))] [] := by
  refine Go.Pm.fn_keep fun E g cargs hr => ?_
  obtain ⟨v, h1, h2⟩ := hr.slots 0 (.d (.int .u64 n)) rfl
  obtain rfl := Go.Pm.vrel_int h2
  have hs : cargs.size = 1 := hr.size
  obtain rfl : cargs = #[.int .u64 n] := by
    match cargs, hs, h1 with
    | ⟨[a]⟩, _, h1 => simp at h1; rw [h1]
  refine ⟨[.int .i64 (Lib.bitLen n : Nat)], rfl, fun i p hi => ?_, ?_⟩
  · match i, hi with
    | 0, hi => injection hi with hi; subst hi; exact ⟨_, rfl, .d (.int _ _)⟩
    | i + 1, hi => cases hi
  · have hc := Any.bits_Len (SlLaysF0.n15.bits Tryz.lenSp) (n : Int) E.w0 (by omega) (by omega)
    rw [Int.toNat_natCast] at hc
    exact hc

def SpB.d (x : SpB) : Go.Pm.D := .agg [.int .i64 x.lo, .int .i64 x.hi]
theorem flat_get (d : Array SpB) (i : Nat) (x : SpB) (h : d[i]? = some x) (j : Nat) (hj : j < 2) : (flatK SpB.enc 2 d)[i * 2 + j]? = some ((SpB.enc x)[j]!) := by
  have hi := (Array.getElem?_eq_some_iff.1 h).1
  have hlt : i * 2 + j < d.size * 2 := by omega
  have hg := get_flatK SpB.enc 2 d (i * 2 + j) hlt
  rw [show (i * 2 + j) / 2 = i from by omega, show (i * 2 + j) % 2 = j from by omega, getElem!_pos d i hi, (Array.getElem?_eq_some_iff.1 h).2] at hg
  rw [Array.getElem?_eq_getElem (by simpa using hlt), ← getElem!_pos _ _ (by simpa using hlt), hg]

theorem enc_get (x : SpB) (j : Nat) (y : Go.Pm.D) (h : x.d.cells[j]? = some y) : j < 2 ∧ ∀ M w, Go.Pm.Den M w y ((SpB.enc x)[j]!) := by
  match j, h with
  | 0, h => injection h with h; subst h; exact ⟨by decide, fun M w => .int _ _⟩
  | 1, h => injection h with h; subst h; exact ⟨by decide, fun M w => .int _ _⟩
  | j + 2, h => cases h

theorem rel_noargs {E : Go.Pm.Env} {g : Go.Pm.Gh} {args : List Go.Pm.PV} {cargs : Array Value} {O : List (Nat × Go.Pm.Ob)} {w : World} (hr : Go.Pm.Rel E g (Go.Pm.St.of args O) ⟨cargs, []⟩ w) : Go.Pm.Rel E g (Go.Pm.St.of [] O) ⟨#[], []⟩ w :=
  ⟨rfl, rfl, fun i p hi => by rw [Go.Pm.of_sl] at hi; simp at hi, fun x ob hx => hr.objs x ob hx, fun x y ob ob' b hx hy => hr.inj x y ob ob' b hx hy, fun x ob b hx => hr.own x ob b hx, hr.fr, hr.av, hr.keep⟩

theorem c148 (l : List SpB) (h : l.length < 4611686018427387904) : Go.Pm.Fn Go.Pm.PR 148 [.arr 1000000 2 0 (l.map SpB.d).length, .d (.int .i64 0), .d (.int .i64 (l.length : Nat)), .d (.int .i64 (Lib.bitLen l.length : Nat)), .fn (.func 119) [] []] [(1000000, .arr 2 (l.map SpB.d))] [] [(1000000, .arr 2 ((pdB l).map SpB.d))] := by
  rw [List.length_map]
  intro E g cargs hr
  obtain ⟨v0, a0, b0⟩ := hr.slots 0 _ rfl
  obtain ⟨v1, a1, b1⟩ := hr.slots 1 _ rfl
  obtain ⟨v2, a2, b2⟩ := hr.slots 2 _ rfl
  obtain ⟨v3, a3, b3⟩ := hr.slots 3 _ rfl
  obtain ⟨v4, a4, b4⟩ := hr.slots 4 _ rfl
  obtain rfl := Go.Pm.vrel_int b1
  obtain rfl := Go.Pm.vrel_int b2
  obtain rfl := Go.Pm.vrel_int b3
  have hs : cargs.size = 5 := hr.size
  obtain rfl : v4 = .func (.func 119) #[] #[] := by
    cases b4 with
    | fn h1 h2 h3 h4 =>
      rw [List.eq_nil_of_length_eq_zero h1, List.eq_nil_of_length_eq_zero h2]
  have hcv : cargs = #[v0, .int .i64 0, .int .i64 (l.length : Nat), .int .i64 (Lib.bitLen l.length : Nat), .func (.func 119) #[] #[]] := by
    match cargs, hs, a0, a1, a2, a3, a4 with
    | ⟨[p0, p1, p2, p3, p4]⟩, _, a0, a1, a2, a3, a4 =>
      simp at a0 a1 a2 a3 a4
      rw [a0, a1, a2, a3, a4]
  subst hcv
  have ho := hr.objs 1000000 _ (show (Go.Pm.St.of _ [(1000000, Go.Pm.Ob.arr 2 (l.map SpB.d))]).ob 1000000 = some _ from rfl)
  by_cases hl : l.length = 0
  · have hnil : l = [] := List.eq_nil_of_length_eq_zero hl
    subst hnil
    obtain ⟨av, cap, rfl⟩ := Go.Pm.vrel_arrl b0
    have hc := AnyF.pdqsortCmpFunc_none Tryz.pdqSp av cap ((Lib.bitLen 0 : Nat) : Int) (.func (.func 119) #[] #[]) E.w0
    refine hc.mono ?_
    rintro e w' ⟨rfl, rfl⟩
    have hp : pdB [] = [] := List.eq_nil_of_length_eq_zero (by rw [pdB_len]; rfl)
    rw [hp]
    exact ⟨g, #[], rfl, rel_noargs hr⟩
  · obtain ⟨b, cap, rfl, hφ, hcp⟩ := Go.Pm.vrel_arr b0 (by omega)
    obtain ⟨b', vs, elem, hφ', hb, hsz, hds, hone, hcell, hτ⟩ := Go.Pm.orel_arr ho (by simp; omega)
    rw [hφ] at hφ'; injection hφ' with hφ'; subst hφ'
    have hbs : b < E.w0.heap.size := (hr.own 1000000 _ b (show (Go.Pm.St.of _ [(1000000, Go.Pm.Ob.arr 2 (l.map SpB.d))]).ob 1000000 = some _ from rfl) hφ).2
    have hH : HoldsK SpB.enc 2 E.w0 b 0 l.toArray := by
      intro t ht
      rw [size_flatK] at ht
      have hti : t / 2 < l.length := by simp at ht; omega
      have hx := List.getElem?_eq_getElem hti
      obtain ⟨u, e1, e2⟩ := hcell (t / 2) (l[t / 2].d) (by rw [List.getElem?_map, hx]; rfl) (t % 2) ((l[t / 2].d).cells[t % 2]!) (by
        have : t % 2 = 0 ∨ t % 2 = 1 := by omega
        rcases this with h | h <;> rw [h] <;> rfl)
      have hfg := flat_get l.toArray (t / 2) l[t / 2] (by rw [List.getElem?_toArray]; exact hx) (t % 2) (by omega)
      rw [show t / 2 * 2 + t % 2 = t from by omega] at hfg e1
      have hu : u = (SpB.enc l[t / 2])[t % 2]! := by
        have : t % 2 = 0 ∨ t % 2 = 1 := by omega
        rcases this with h | h <;> rw [h] at e2 ⊢ <;> (cases e2; rfl)
      have hflt : (flatK SpB.enc 2 l.toArray)[t]! = u := by simp [getElem!_def, hfg, hu]
      refine ⟨?_, ?_⟩
      · simp only [World.cell?, hb, Nat.zero_add]
        rw [hflt]; exact e1
      · simp [World.frozen?, hb]
    have hc := AnyQ.pdqsortCmpFunc_all Tryz.pdqSp 2 (Go.Pm.run_isAgg' Go.Pm.ty78) (Go.Pm.run_sizeOf' Go.Pm.ty78) SpB.enc SpB.cf 119 #[] SpB.swo b 0 cap l.toArray E.w0 (enters_of Tryz.func119 (by kernel_rfl) rfl) (SpB.lays _ _ _ _) ⟨fun _ => rfl, fun x v hv => by simp [SpB.enc] at hv; rcases hv with rfl | rfl <;> rfl, hH, hbs⟩ (l.length + 1) 0 l.length (Lib.bitLen l.length) l.toArray E.w0 (by omega) rfl (SWK.start hH) (Nat.zero_le _) (by simp) (by simpa using h) (Nat.lt_of_le_of_lt (Lib.bitLen_le l.length 62 (by omega) (by omega)) (by omega)) (Or.inl rfl)
    rw [Nat.zero_mul] at *
    refine Calls.mono hc ?_
    rintro e w' ⟨rfl, n, os, rfl⟩
    have hsz' : (pdq (ltOf SpB.cf) l.toArray 0 l.length (Lib.bitLen l.length) true true).size = l.length := by have := (pdB_all l).1.1; simpa using this
    have hpd : ∀ k, (pdB l)[k]? = (pdq (ltOf SpB.cf) l.toArray 0 l.length (Lib.bitLen l.length) true true)[k]? := fun k => by unfold pdB; rw [Array.getElem?_toList]
    have hpl := pdB_len l
    generalize pdq (ltOf SpB.cf) l.toArray 0 l.length (Lib.bitLen l.length) true true = d' at hsz' hpd ⊢
    have hfs : (flatK SpB.enc 2 d').size = l.length * 2 := by rw [size_flatK, hsz']
    have hvs : l.length * 2 ≤ vs.size := by simpa using hsz
    have hheap : (sortWorldK SpB.enc 2 E.w0 b 0 n d' os).heap = E.w0.heap.modify b (onCells (putCells id 0 (flatK SpB.enc 2 d'))) ++ os := rfl
    refine ⟨g, #[], rfl, Go.Pm.rel_row (sz := 2) (vs := vs) (vs' := putCells id 0 (flatK SpB.enc 2 d') vs) (elem := elem) hr hφ hb ?_ ?_ ?_ ?_ rfl rfl rfl (fun k hk hkb => ?_) (fun d hd => ?_) (fun d hd x hx => ?_) (fun i d hi j y hj => ?_)⟩
    · rw [hheap, Array.getElem?_append_left (by simpa using hbs), Array.getElem?_modify, if_pos rfl, hb]; rfl
    · simp [putCells]
    · simp [putCells, hpl]; exact hvs
    · rw [hheap]; simp
    · rw [hheap, Array.getElem?_append_left (by simpa using hk), Array.getElem?_modify, if_neg (Ne.symm hkb)]
    · obtain ⟨x, _, rfl⟩ := List.mem_map.1 hd; rfl
    · obtain ⟨z, _, rfl⟩ := List.mem_map.1 hd
      simp [SpB.d, Go.Pm.D.cells] at hx
      rcases hx with rfl | rfl <;> rfl
    · rw [List.getElem?_map] at hi
      obtain ⟨z, hz, rfl⟩ := Option.map_eq_some_iff.1 hi
      obtain ⟨hj2, hden⟩ := enc_get z j y hj
      rw [hpd] at hz
      have hfg := flat_get d' i z hz j hj2
      have hil := (Array.getElem?_eq_some_iff.1 hz).1
      refine ⟨(SpB.enc z)[j]!, ?_, fun M => hden M _⟩
      have hlt : i * 2 + j < vs.size := by omega
      simp only [putCells, Array.getElem?_mapIdx, Array.getElem?_eq_getElem hlt, Option.map_some, Nat.zero_le, true_and, Nat.zero_add, Nat.sub_zero, id]
      rw [if_pos (by rw [hfs]; omega), getElem!_def, hfg]
end Go.Proofs

namespace Go.Pm
open Go.Proofs

set_option maxRecDepth 10000 in
theorem c47 (r : Rls) : Fn PR 47 [.d r.d] [] [.d r.sel.d] [] := by
 refine fn_of_awp Tryz.func47 rfl (N := 8) rfl ?_
 refine xsr ?_
 refine xlz (op_box rfl rfl (by decide) rfl rfl) ?_
 refine xlz (op_alloc rfl rfl (by decide) ty54 zk54 rfl) ?_
 refine lendF ?_
 refine xsr ?_
 refine xlz (op_fieldP rfl rfl rfl fl40_0) ?_
 refine xlz (op_load1 rfl rfl rfl rfl ty9 rfl rfl) ?_
 refine xlz (op_fieldP rfl rfl rfl fl40_1) ?_
 refine xlz (o_ldA rfl rfl rfl rfl ty38 rfl (xlb rfl) rfl) ?_
 refine xlz (o_bld rfl rfl rfl bl54 ty54 zk54 rfl rfl rfl) ?_
 refine xlz (op_store rfl rfl rfl rfl rfl rfl ty54 rfl (xlb rfl)) ?_
 refine lendF ?_
 refine awp_ret ?_
 refine ⟨[_], ⟨⟨_, _, _, _, _, _, _, rfl, rfl, ty54, (xlb rfl), rfl⟩, trivial⟩, ?_⟩
 exact ent_d1 rfl (by first | rfl | simp_all)

set_option maxRecDepth 10000 in
theorem c114 (v : Ver) : Fn PR 114 [.d v.d] [] [.d v.d] [] := by
 refine fn_of_awp Tryz.func114 rfl (N := 10) rfl ?_
 refine xsr ?_
 refine xlz (op_box rfl rfl (by decide) rfl rfl) ?_
 refine xlz (op_alloc rfl rfl (by decide) ty151 zk151 rfl) ?_
 refine lendF ?_
 refine xsr ?_
 refine xlz (op_fieldP rfl rfl rfl fl38_0) ?_
 refine xlz (op_load1 rfl rfl rfl rfl ty3 rfl rfl) ?_
 refine xlz (op_fieldP rfl rfl rfl fl38_1) ?_
 refine xlz (op_load1 rfl rfl rfl rfl ty3 rfl rfl) ?_
 refine xlz (op_fieldP rfl rfl rfl fl38_2) ?_
 refine xlz (op_load1 rfl rfl rfl rfl ty3 rfl rfl) ?_
 refine xlz (o_bld rfl rfl rfl bl151 ty151 zk151 rfl rfl rfl) ?_
 refine xlz (op_store rfl rfl rfl rfl rfl rfl ty151 rfl (xlb rfl)) ?_
 refine lendF ?_
 refine awp_ret ?_
 refine ⟨[_], ⟨⟨_, _, _, _, _, _, _, rfl, rfl, ty151, (xlb rfl), rfl⟩, trivial⟩, ?_⟩
 exact ent_d1 rfl (by first | rfl | simp_all)

set_option maxRecDepth 10000 in
theorem c81 (x : Span) (p : Int) : Fn PR 81 [.d x.d, .ptr 1000000 0] [(1000000, .cells [.d (I p)])] [.d (.bool (x.has p))] [(1000000, .cells [.d (I p)])] := by
 refine fn_of_awp Tryz.func81 rfl (N := 14) rfl ?_
 refine xsr ?_
 refine xlz (op_box rfl rfl (by decide) rfl rfl) ?_
 refine xlz (o_as rfl rfl rfl) ?_
 refine lendF ?_
 refine xsr ?_
 refine xlz (op_fieldP rfl rfl rfl fl78_0) ?_
 refine xlz (op_load1 rfl rfl rfl rfl ty3 rfl rfl) ?_
 refine xlz (op_load1 rfl rfl rfl rfl ty3 rfl rfl) ?_
 refine xlz (op_binI rfl rfl rfl rfl rfl (.inl rfl) rfl) ?_
 refine xlz (o_mv rfl rfl rfl) ?_
 refine lsplit rfl (fun hg1 => ?_) (fun hg1 => ?_)
 ·
  refine lg (op_load1 rfl rfl rfl rfl ty3 rfl rfl) rfl hg1 rfl rfl ?_
  refine lg (op_fieldP rfl rfl rfl fl78_1) rfl hg1 rfl rfl ?_
  refine lg (op_load1 rfl rfl rfl rfl ty3 rfl rfl) rfl hg1 rfl rfl ?_
  refine lg (op_binI rfl rfl rfl rfl rfl (.inl rfl) rfl) rfl hg1 rfl rfl ?_
  refine xlz (o_pT rfl rfl (g11 hg1) rfl rfl) ?_
  refine xlz (o_as rfl rfl rfl) ?_
  refine lendF ?_
  refine awp_ret ?_
  refine ⟨[_], ⟨rfl, trivial⟩, ?_⟩
  exact ent_s1 rfl (sub_cons rfl sub_nil) (by simp_all [Span.has] <;> omega)
 ·
  refine lskip rfl hg1 rfl ?_
  refine lskip rfl hg1 rfl ?_
  refine lskip rfl hg1 rfl ?_
  refine lskip rfl hg1 rfl ?_
  refine xlz (o_pF rfl rfl (g10 hg1) rfl rfl) ?_
  refine xlz (o_as rfl rfl rfl) ?_
  refine lendF ?_
  refine awp_ret ?_
  refine ⟨[_], ⟨rfl, trivial⟩, ?_⟩
  exact ent_s1 rfl (sub_cons rfl sub_nil) (by simp_all [Span.has] <;> omega)

set_option maxRecDepth 10000 in
theorem c115 (l : List Span) (p : Int) (hl : l.length < 4611686018427387904) : Fn PR 115 [.d (setD l), .fn (.func 81) [] [.ptr 1000000 0]] [(1000000, .cells [.d (I p)])] [.d (I (ixF (·.has p) l 0))] [(1000000, .cells [.d (I p)])] := by
 refine fn_of_awp Tryz.func115 rfl (N := 19) rfl ?_
 refine xsr ?_
 refine xlz (o_as rfl rfl rfl) ?_
 refine lendF ?_
 refine awp_seq ?_
 refine xsr ?_
 refine xlz (o_mv rfl rfl rfl) ?_
 refine xlz (op_len rfl rfl rfl ty49) ?_
 refine xlz (o_mv rfl rfl rfl) ?_
 refine lendF ?_
 refine awp_block ?_
 refine awp_loop (fun i => ⟨19, [(0, .d (setD l)), (1, .fn (.func 81) [] [.ptr 1000000 0]), (7, .d (I l.length)), (8, .d (I (i : Nat)))], [(1000000, .cells [.d (I p)])]⟩) (fun i => l.length - i) (fun i => i ≤ l.length ∧ ixF (·.has p) (l.drop i) i = ixF (·.has p) l 0) 0 ?_ ?_ ?_
 ·
  exact ent_k [] rfl rfl (.cons rfl (by first | exact k_eq rfl | exact k_i (by simp) | exact .data rfl | exact k_d (by simp) | exact k_i (by simp; omega)) <| .cons rfl (by first | exact k_eq rfl | exact k_i (by simp) | exact .data rfl | exact k_d (by simp) | exact k_i (by simp; omega)) <| .cons rfl (by first | exact k_eq rfl | exact k_i (by simp) | exact .data rfl | exact k_d (by simp) | exact k_i (by simp; omega)) <| .cons rfl (by first | exact k_eq rfl | exact k_i (by simp) | exact .data rfl | exact k_d (by simp) | exact k_i (by simp; omega)) <| .nil) (obs_cons rfl (o_eq rfl) obs_nil) rfl
 ·
  exact ⟨Nat.zero_le _, rfl⟩
 ·
  rintro i ⟨hi, hI⟩
  refine xsr ?_
  refine xlz (op_binI rfl rfl rfl rfl rfl (.inl rfl) rfl) ?_
  refine lendF ?_
  refine awp_seq ?_
  refine awp_cond rfl rfl (fun hc1 => ?_) (fun hc1 => ?_)
  ·
   obtain ⟨x, hn⟩ := rng_lt hc1
   have hlt := rng_le hn
   refine awp_skip ?_
   refine awp_seq ?_
   refine awp_block ?_
   refine xsr ?_
   refine xlz (o_mv rfl rfl rfl) ?_
   refine xlz (o_as rfl rfl rfl) ?_
   refine lendF ?_
   refine xsr ?_
   refine xlz (o_mv rfl rfl rfl) ?_
   refine xlz (o_mv rfl rfl rfl) ?_
   refine xlz (o_mv rfl rfl rfl) ?_
   refine xlz (o_ixM rfl rfl rfl hn rfl ty49 ty78) ?_
   refine xlz (op_loadCA rfl rfl rfl ty78 rfl (xlb rfl)) ?_
   refine xlz (op_callR [1000000] rfl rfl rfl ca81 rfl (by decide) (handOK_cons (by decide) (by decide) rfl rfl handOK_nil) (c81 x p) rfl) ?_
   refine lendF ?_
   refine awp_cond rfl rfl (fun hc2 => ?_) (fun hc2 => ?_)
   ·
    refine xsr ?_
    refine xlz (o_mv rfl rfl rfl) ?_
    refine xlz (o_as rfl rfl rfl) ?_
    refine lendF ?_
    refine awp_ret ?_
    refine ⟨[_], ⟨rfl, trivial⟩, ?_⟩
    exact ent_s1 rfl (sub_cons rfl sub_nil) (by rw [← hI, drop_cons hn, ixF_yes (f := fun x : Span => x.has p) hc2])
   ·
    refine awp_skip ?_
    refine awp_region mixed ?_
    refine xlz (o_add rfl rfl rfl rfl (by omega)) ?_
    refine xlz (o_mv rfl rfl rfl) ?_
    refine lendF ?_
    refine ⟨i + 1, ?_, ?_, ?_⟩
    ·
     exact ⟨rng_le hn, by rw [← hI, drop_cons hn, ixF_no (f := fun x : Span => x.has p) hc2]⟩
    ·
     exact ent_k [] rfl rfl (.cons rfl (by first | exact k_eq rfl | exact k_i (by simp) | exact .data rfl | exact k_d (by simp) | exact k_i (by simp; omega)) <| .cons rfl (by first | exact k_eq rfl | exact k_i (by simp) | exact .data rfl | exact k_d (by simp) | exact k_i (by simp; omega)) <| .cons rfl (by first | exact k_eq rfl | exact k_i (by simp) | exact .data rfl | exact k_d (by simp) | exact k_i (by simp; omega)) <| .cons rfl (by first | exact k_eq rfl | exact k_i (by simp) | exact .data rfl | exact k_d (by simp) | exact k_i (by simp; omega)) <| .nil) (obs_cons rfl (o_eq rfl) obs_nil) rfl
    ·
     have := rng_le hn; omega
  ·
   obtain rfl := rng_ge hc1 hi
   refine awp_exit ?_
   refine xsr ?_
   refine xlz (o_as rfl rfl rfl) ?_
   refine lendF ?_
   refine awp_ret ?_
   refine ⟨[_], ⟨rfl, trivial⟩, ?_⟩
   exact ent_s1 rfl (sub_cons rfl sub_nil) (by rw [← hI]; simp [ixF])

set_option maxRecDepth 10000 in
theorem c80 (l : List Span) (p : Int) (hl : l.length < 4611686018427387904) : Fn PR 80 [.d (setD l), .fn (.func 81) [] [.ptr 1000000 0]] [(1000000, .cells [.d (I p)])] [.d (.bool (l.any (·.has p)))] [(1000000, .cells [.d (I p)])] := by
 refine fn_of_awp Tryz.func80 rfl (N := 9) rfl ?_
 refine xsr ?_
 refine xlz (o_as rfl rfl rfl) ?_
 refine lendF ?_
 refine xsr ?_
 refine xlz (o_mv rfl rfl rfl) ?_
 refine xlz (o_mv rfl rfl rfl) ?_
 refine xlz (op_callR [1000000] rfl rfl rfl ca115 rfl (by decide) (handOK_cons (by decide) (by decide) rfl rfl handOK_nil) (c115 l p hl) rfl) ?_
 refine xlz (op_binI rfl rfl rfl rfl rfl (.inl rfl) rfl) ?_
 refine xlz (o_as rfl rfl rfl) ?_
 refine lendF ?_
 refine awp_ret ?_
 refine ⟨[_], ⟨rfl, trivial⟩, ?_⟩
 exact ent_s1 rfl (sub_cons rfl sub_nil) (by rw [← ixF_any])

set_option maxRecDepth 10000 in
theorem c28 (l : List Span) (p : Int) (hl : l.length < 4611686018427387904) : Fn PR 28 [.d (setD l), .d (I p)] [] [.d (.bool (setHas l p))] [] := by
 refine fn_of_awp Tryz.func28 rfl (N := 16) rfl ?_
 refine xsr ?_
 refine xlz (op_box rfl rfl (by decide) rfl rfl) ?_
 refine xlz (o_as rfl rfl rfl) ?_
 refine lendF ?_
 refine xsr ?_
 refine xlz (op_load1 rfl rfl rfl rfl ty3 rfl rfl) ?_
 refine xlz (op_binI rfl rfl rfl rfl rfl (.inl rfl) rfl) ?_
 refine xlz (o_mv rfl rfl rfl) ?_
 refine lsplit rfl (fun hg1 => ?_) (fun hg1 => ?_)
 ·
  refine lg (op_load1 rfl rfl rfl rfl ty3 rfl rfl) rfl hg1 rfl rfl ?_
  refine lg (op_binI rfl rfl rfl rfl rfl (.inl rfl) rfl) rfl hg1 rfl rfl ?_
  refine xlz (o_pT rfl rfl (g11 hg1) rfl rfl) ?_
  refine xlz (o_mv rfl rfl rfl) ?_
  refine lsplit rfl (fun hg2 => ?_) (fun hg2 => ?_)
  ·
   refine lg (o_mv rfl rfl rfl) rfl hg2 rfl rfl ?_
   refine lg (op_fn rfl rfl rfl rfl rfl) rfl hg2 rfl rfl ?_
   refine lg (op_callR [3] rfl rfl rfl ca80 rfl (by decide) (handOK_cons (by decide) (by decide) rfl rfl handOK_nil) (c80 l p hl) rfl) rfl hg2 rfl rfl ?_
   refine xlz (o_pT rfl rfl (g11 hg2) rfl rfl) ?_
   refine xlz (o_as rfl rfl rfl) ?_
   refine lendF ?_
   refine awp_ret ?_
   refine ⟨[_], ⟨rfl, trivial⟩, ?_⟩
   exact ent_d1 rfl (by simp_all [setHas] <;> (intros; omega))
  ·
   refine lskip rfl hg2 rfl ?_
   refine lskip rfl hg2 rfl ?_
   refine lskip rfl hg2 rfl ?_
   refine xlz (o_pF rfl rfl (g10 hg2) rfl rfl) ?_
   refine xlz (o_as rfl rfl rfl) ?_
   refine lendF ?_
   refine awp_ret ?_
   refine ⟨[_], ⟨rfl, trivial⟩, ?_⟩
   exact ent_d1 rfl (by simp_all [setHas] <;> (intros; omega))
 ·
  refine lskip rfl hg1 rfl ?_
  refine lskip rfl hg1 rfl ?_
  refine xlz (o_pF rfl rfl (g10 hg1) rfl rfl) ?_
  refine xlz (o_mv rfl rfl rfl) ?_
  refine lsplit rfl (fun hg3 => ?_) (fun hg3 => ?_)
  ·
   refine lg (o_mv rfl rfl rfl) rfl hg3 rfl rfl ?_
   refine lg (op_fn rfl rfl rfl rfl rfl) rfl hg3 rfl rfl ?_
   refine lg (op_callR [3] rfl rfl rfl ca80 rfl (by decide) (handOK_cons (by decide) (by decide) rfl rfl handOK_nil) (c80 l p hl) rfl) rfl hg3 rfl rfl ?_
   refine xlz (o_pT rfl rfl (g11 hg3) rfl rfl) ?_
   refine xlz (o_as rfl rfl rfl) ?_
   refine lendF ?_
   refine awp_ret ?_
   refine ⟨[_], ⟨rfl, trivial⟩, ?_⟩
   exact ent_d1 rfl (by simp_all [setHas] <;> (intros; omega))
  ·
   refine lskip rfl hg3 rfl ?_
   refine lskip rfl hg3 rfl ?_
   refine lskip rfl hg3 rfl ?_
   refine xlz (o_pF rfl rfl (g10 hg3) rfl rfl) ?_
   refine xlz (o_as rfl rfl rfl) ?_
   refine lendF ?_
   refine awp_ret ?_
   refine ⟨[_], ⟨rfl, trivial⟩, ?_⟩
   exact ent_d1 rfl (by simp_all [setHas] <;> (intros; omega))

set_option maxRecDepth 10000 in
theorem c78 (v : Ver) : Fn PR 78 [.d v.d] [] [.d (.bool v.ok)] [] := by
 refine fn_of_awp Tryz.func78 rfl (N := 17) rfl ?_
 refine xsr ?_
 refine xlz (op_box rfl rfl (by decide) rfl rfl) ?_
 refine xlz (o_as rfl rfl rfl) ?_
 refine lendF ?_
 refine awp_seq ?_
 refine xsr ?_
 refine xlz (o_ldA rfl rfl rfl rfl ty38 rfl (xlb rfl) rfl) ?_
 refine xlz (op_callP rfl rfl rfl ca114 rfl (c114 v) rfl) ?_
 refine xlz (o_mv rfl rfl rfl) ?_
 refine lendF ?_
 refine awp_block ?_
 refine awp_loop (fun i => ⟨17, [(6, .d v.d), (7, .d (I (i : Nat)))], []⟩) (fun i => 3 - i) (fun i => i ≤ 3 ∧ (v.nums.drop i).all okNum = v.ok) 0 ?_ ?_ ?_
 ·
  exact ent_k [] rfl rfl (.cons rfl (by first | exact k_eq rfl | exact k_i (by simp) | exact .data rfl | exact k_d (by simp) | exact k_i (by simp; omega)) <| .cons rfl (by first | exact k_eq rfl | exact k_i (by simp) | exact .data rfl | exact k_d (by simp) | exact k_i (by simp; omega)) <| .nil) obs_nil rfl
 ·
  exact ⟨by omega, rfl⟩
 ·
  rintro i ⟨hi, hI⟩
  refine xsr ?_
  refine xlz (op_binI rfl rfl rfl rfl rfl (.inl rfl) rfl) ?_
  refine lendF ?_
  refine awp_seq ?_
  refine awp_cond rfl rfl (fun hc1 => ?_) (fun hc1 => ?_)
  ·
   obtain ⟨x, hn⟩ := rng_lt (l := v.nums) hc1
   have hlt := rng_le hn
   have hlt3 : i < 3 := hlt
   refine awp_skip ?_
   refine awp_seq ?_
   refine awp_block ?_
   refine xsr ?_
   refine xlz (op_indexA rfl rfl rfl rfl rfl ty151 ty3 rfl hlt3 (nums_get hn)) ?_
   refine xlz (o_as rfl rfl rfl) ?_
   refine lendF ?_
   refine xsr ?_
   refine xlz (o_mv rfl rfl rfl) ?_
   refine xlz (op_binI rfl rfl rfl rfl rfl (.inl rfl) rfl) ?_
   refine xlz (o_mv rfl rfl rfl) ?_
   refine lsplit rfl (fun hg2 => ?_) (fun hg2 => ?_)
   ·
    refine lg (o_mv rfl rfl rfl) rfl hg2 rfl rfl ?_
    refine lg (op_binI rfl rfl rfl rfl rfl (.inl rfl) rfl) rfl hg2 rfl rfl ?_
    refine xlz (o_pF rfl rfl (g01 hg2) rfl rfl) ?_
    refine lendF ?_
    refine awp_cond rfl rfl (fun hc3 => ?_) (fun hc3 => ?_)
    ·
     refine xsr ?_
     refine xlz (o_as rfl rfl rfl) ?_
     refine lendF ?_
     refine awp_ret ?_
     refine ⟨[_], ⟨rfl, trivial⟩, ?_⟩
     exact ent_d1 rfl (by rw [← hI]; first | rfl | (rw [drop_cons hn]; simp_all [okNum] <;> omega))
    ·
     refine awp_skip ?_
     refine awp_region mixed ?_
     refine xlz (o_add rfl rfl rfl rfl (by omega)) ?_
     refine xlz (o_mv rfl rfl rfl) ?_
     refine lendF ?_
     refine ⟨i + 1, ?_, ?_, ?_⟩
     ·
      exact ⟨by omega, by rw [← hI, drop_cons hn]; simp_all [okNum]⟩
     ·
      exact ent_k [] rfl rfl (.cons rfl (by first | exact k_eq rfl | exact k_i (by simp) | exact .data rfl | exact k_d (by simp) | exact k_i (by simp; omega)) <| .cons rfl (by first | exact k_eq rfl | exact k_i (by simp) | exact .data rfl | exact k_d (by simp) | exact k_i (by simp; omega)) <| .nil) obs_nil rfl
     ·
      omega
   ·
    refine lskip rfl hg2 rfl ?_
    refine lskip rfl hg2 rfl ?_
    refine xlz (o_pT rfl rfl (g00 hg2) rfl rfl) ?_
    refine lendF ?_
    refine awp_cond rfl rfl (fun hc4 => ?_) (fun hc4 => ?_)
    ·
     refine xsr ?_
     refine xlz (o_as rfl rfl rfl) ?_
     refine lendF ?_
     refine awp_ret ?_
     refine ⟨[_], ⟨rfl, trivial⟩, ?_⟩
     exact ent_d1 rfl (by rw [← hI]; first | rfl | (rw [drop_cons hn]; simp_all [okNum] <;> omega))
    ·
     refine awp_skip ?_
     refine awp_region mixed ?_
     refine xlz (o_add rfl rfl rfl rfl (by omega)) ?_
     refine xlz (o_mv rfl rfl rfl) ?_
     refine lendF ?_
     refine ⟨i + 1, ?_, ?_, ?_⟩
     ·
      exact ⟨by omega, by rw [← hI, drop_cons hn]; simp_all [okNum]⟩
     ·
      exact ent_k [] rfl rfl (.cons rfl (by first | exact k_eq rfl | exact k_i (by simp) | exact .data rfl | exact k_d (by simp) | exact k_i (by simp; omega)) <| .cons rfl (by first | exact k_eq rfl | exact k_i (by simp) | exact .data rfl | exact k_d (by simp) | exact k_i (by simp; omega)) <| .nil) obs_nil rfl
     ·
      omega
  ·
   obtain rfl := rng_ge (l := v.nums) hc1 hi
   refine awp_exit ?_
   refine xsr ?_
   refine xlz (o_as rfl rfl rfl) ?_
   refine lendF ?_
   refine awp_ret ?_
   refine ⟨[_], ⟨rfl, trivial⟩, ?_⟩
   exact ent_d1 rfl (by rw [← hI]; first | rfl | (rw [drop_cons hn]; simp_all [okNum] <;> omega))

end Go.Pm

namespace Go.Pm
open Go.Proofs

set_option maxRecDepth 10000 in
theorem c25 (v : Ver) : Fn PR 25 [.d v.d] [] [.d (I (placeOf v).1), .d (I (placeOf v).2)] [] := by
 refine fn_of_awp Tryz.func25 rfl (N := 13) rfl ?_
 refine xsr ?_
 refine xlz (op_box rfl rfl (by decide) rfl rfl) ?_
 refine xlz (o_as rfl rfl rfl) ?_
 refine xlz (o_as rfl rfl rfl) ?_
 refine lendF ?_
 refine awp_seq ?_
 refine xsr ?_
 refine xlz (o_ldA rfl rfl rfl rfl ty38 rfl (xlb rfl) rfl) ?_
 refine xlz (op_callP rfl rfl rfl ca78 rfl (c78 v) rfl) ?_
 refine xlz (op_not rfl rfl rfl) ?_
 refine lendF ?_
 refine awp_cond rfl rfl (fun hc1 => ?_) (fun hc1 => ?_)
 ·
  refine xsr ?_
  refine xlz (o_as rfl rfl rfl) ?_
  refine xlz (o_as rfl rfl rfl) ?_
  refine lendF ?_
  refine awp_ret ?_
  refine ⟨[_, _], ⟨rfl, rfl, trivial⟩, ?_⟩
  exact ent_d2 rfl (by simp_all [placeOf]) rfl (by simp_all [placeOf])
 ·
  have hok : v.ok = true := by simpa using hc1
  have hb := ok_bounds hok
  refine awp_skip ?_
  refine xsr ?_
  refine xlz (op_fieldP rfl rfl rfl fl38_1) ?_
  refine xlz (op_load1 rfl rfl rfl rfl ty3 rfl rfl) ?_
  refine xlz (o_mul rfl rfl rfl rfl (by omega)) ?_
  refine xlz (op_fieldP rfl rfl rfl fl38_2) ?_
  refine xlz (op_load1 rfl rfl rfl rfl ty3 rfl rfl) ?_
  refine xlz (o_add rfl rfl rfl rfl (by omega)) ?_
  refine xlz (o_as rfl rfl rfl) ?_
  refine xlz (o_as rfl rfl rfl) ?_
  refine lendF ?_
  refine awp_ret ?_
  refine ⟨[_, _], ⟨rfl, rfl, trivial⟩, ?_⟩
  exact ent_d2 rfl (by simp_all [placeOf]) rfl (by simp_all [placeOf])

set_option maxRecDepth 10000 in
theorem c48 (r : Rls) : Fn PR 48 [.d r.d] [] [.d (I (placeOf r.ver).1)] [] := by
 refine fn_of_awp Tryz.func48 rfl (N := 12) rfl ?_
 refine xsr ?_
 refine xlz (op_box rfl rfl (by decide) rfl rfl) ?_
 refine xlz (o_as rfl rfl rfl) ?_
 refine lendF ?_
 refine xsr ?_
 refine xlz (op_fieldP rfl rfl rfl fl40_1) ?_
 refine xlz (o_ldA rfl rfl rfl rfl ty38 rfl (xlb rfl) rfl) ?_
 refine xlz (op_callP rfl rfl rfl ca25 rfl (c25 r.ver) rfl) ?_
 refine xlz (o_mv rfl rfl rfl) ?_
 refine xlz (op_extract rfl rfl rfl rfl) ?_
 refine xlz (op_extract rfl rfl rfl rfl) ?_
 refine xlz (o_as rfl rfl rfl) ?_
 refine xlz (o_as rfl rfl rfl) ?_
 refine lendF ?_
 refine xsr ?_
 refine xlz (o_mv rfl rfl rfl) ?_
 refine xlz (o_as rfl rfl rfl) ?_
 refine lendF ?_
 refine awp_ret ?_
 refine ⟨[_], ⟨rfl, trivial⟩, ?_⟩
 exact ent_d1 rfl (by first | rfl | simp_all)

set_option maxRecDepth 10000 in
theorem c158 (n : Int) : Fn PR 158 [.d (I n)] [] [.d (.bool false)] [] := by
 refine fn_of_awp Tryz.func158 rfl (N := 6) rfl ?_
 refine xsr ?_
 refine xlz (o_as rfl rfl rfl) ?_
 refine lendF ?_
 refine xsr ?_
 refine xlz (o_mv rfl rfl rfl) ?_
 refine xlz (o_mv rfl rfl rfl) ?_
 refine xlz (op_binI rfl rfl rfl rfl rfl (.inl rfl) rfl) ?_
 refine xlz (o_as rfl rfl rfl) ?_
 refine lendF ?_
 refine awp_ret ?_
 refine ⟨[_], ⟨rfl, trivial⟩, ?_⟩
 exact ent_d1 rfl (by first | rfl | simp_all)

set_option maxRecDepth 10000 in
theorem c135 (n : Bytes) : Fn PR 135 [.d (.str n)] [] [.d (.bool false)] [] := by
 refine fn_of_awp Tryz.func135 rfl (N := 6) rfl ?_
 refine xsr ?_
 refine xlz (o_as rfl rfl rfl) ?_
 refine lendF ?_
 refine xsr ?_
 refine xlz (o_mv rfl rfl rfl) ?_
 refine xlz (o_mv rfl rfl rfl) ?_
 refine xlz (op_binS rfl rfl rfl rfl rfl (fun h => by first | cases h | (simp; omega)) rfl) ?_
 refine xlz (o_as rfl rfl rfl) ?_
 refine lendF ?_
 refine awp_ret ?_
 refine ⟨[_], ⟨rfl, trivial⟩, ?_⟩
 exact ent_d1 rfl (by first | rfl | simp_all)

set_option maxRecDepth 10000 in
theorem c136 (a b : Int) : Fn PR 136 [.d (I a), .d (I b)] [] [.d (I (cmpI a b))] [] := by
 refine fn_of_awp Tryz.func136 rfl (N := 20) rfl ?_
 refine xsr ?_
 refine xlz (o_as rfl rfl rfl) ?_
 refine lendF ?_
 refine xsr ?_
 refine xlz (o_mv rfl rfl rfl) ?_
 refine xlz (op_callP rfl rfl rfl ca158 rfl (c158 a) rfl) ?_
 refine xlz (o_as rfl rfl rfl) ?_
 refine lendF ?_
 refine xsr ?_
 refine xlz (o_mv rfl rfl rfl) ?_
 refine xlz (op_callP rfl rfl rfl ca158 rfl (c158 b) rfl) ?_
 refine xlz (o_as rfl rfl rfl) ?_
 refine lendF ?_
 refine awp_seq ?_
 refine xsr ?_
 refine xlz (o_mv rfl rfl rfl) ?_
 refine lendF ?_
 refine awp_condF rfl rfl rfl ?_
 refine awp_skip ?_
 refine awp_seq ?_
 refine xsr ?_
 refine xlz (o_mv rfl rfl rfl) ?_
 refine lendF ?_
 refine awp_condF rfl rfl rfl ?_
 refine awp_skip ?_
 refine awp_seq ?_
 refine xsr ?_
 refine xlz (o_mv rfl rfl rfl) ?_
 refine xlz (o_mv rfl rfl rfl) ?_
 refine xlz (op_binI rfl rfl rfl rfl rfl (.inl rfl) rfl) ?_
 refine lendF ?_
 refine awp_cond rfl rfl (fun hc3 => ?_) (fun hc3 => ?_)
 ·
  refine xsr ?_
  refine xlz (o_as rfl rfl rfl) ?_
  refine lendF ?_
  refine awp_ret ?_
  refine ⟨[_], ⟨rfl, trivial⟩, ?_⟩
  exact ent_d1 rfl (by simp_all [cmpI] <;> omega)
 ·
  refine awp_skip ?_
  refine awp_seq ?_
  refine xsr ?_
  refine xlz (o_mv rfl rfl rfl) ?_
  refine xlz (o_mv rfl rfl rfl) ?_
  refine xlz (op_binI rfl rfl rfl rfl rfl (.inl rfl) rfl) ?_
  refine lendF ?_
  refine awp_cond rfl rfl (fun hc4 => ?_) (fun hc4 => ?_)
  ·
   refine xsr ?_
   refine xlz (o_as rfl rfl rfl) ?_
   refine lendF ?_
   refine awp_ret ?_
   refine ⟨[_], ⟨rfl, trivial⟩, ?_⟩
   exact ent_d1 rfl (by simp_all [cmpI] <;> omega)
  ·
   refine awp_skip ?_
   refine xsr ?_
   refine xlz (o_as rfl rfl rfl) ?_
   refine lendF ?_
   refine awp_ret ?_
   refine ⟨[_], ⟨rfl, trivial⟩, ?_⟩
   exact ent_d1 rfl (by simp_all [cmpI] <;> omega)

set_option maxRecDepth 10000 in
theorem c111 (a b : Bytes) : Fn PR 111 [.d (.str a), .d (.str b)] [] [.d (I (cmpS a b))] [] := by
 refine fn_of_awp Tryz.func111 rfl (N := 20) rfl ?_
 refine xsr ?_
 refine xlz (o_as rfl rfl rfl) ?_
 refine lendF ?_
 refine xsr ?_
 refine xlz (o_mv rfl rfl rfl) ?_
 refine xlz (op_callP rfl rfl rfl ca135 rfl (c135 a) rfl) ?_
 refine xlz (o_as rfl rfl rfl) ?_
 refine lendF ?_
 refine xsr ?_
 refine xlz (o_mv rfl rfl rfl) ?_
 refine xlz (op_callP rfl rfl rfl ca135 rfl (c135 b) rfl) ?_
 refine xlz (o_as rfl rfl rfl) ?_
 refine lendF ?_
 refine awp_seq ?_
 refine xsr ?_
 refine xlz (o_mv rfl rfl rfl) ?_
 refine lendF ?_
 refine awp_condF rfl rfl rfl ?_
 refine awp_skip ?_
 refine awp_seq ?_
 refine xsr ?_
 refine xlz (o_mv rfl rfl rfl) ?_
 refine lendF ?_
 refine awp_condF rfl rfl rfl ?_
 refine awp_skip ?_
 refine awp_seq ?_
 refine xsr ?_
 refine xlz (o_mv rfl rfl rfl) ?_
 refine xlz (o_mv rfl rfl rfl) ?_
 refine xlz (op_binS rfl rfl rfl rfl rfl (fun h => by first | cases h | (simp; omega)) rfl) ?_
 refine lendF ?_
 refine awp_cond rfl rfl (fun hc3 => ?_) (fun hc3 => ?_)
 ·
  refine xsr ?_
  refine xlz (o_as rfl rfl rfl) ?_
  refine lendF ?_
  refine awp_ret ?_
  refine ⟨[_], ⟨rfl, trivial⟩, ?_⟩
  exact ent_d1 rfl (by simp_all [cmpS])
 ·
  refine awp_skip ?_
  refine awp_seq ?_
  refine xsr ?_
  refine xlz (o_mv rfl rfl rfl) ?_
  refine xlz (o_mv rfl rfl rfl) ?_
  refine xlz (op_binS rfl rfl rfl rfl rfl (fun h => by first | cases h | (simp; omega)) rfl) ?_
  refine lendF ?_
  refine awp_cond rfl rfl (fun hc4 => ?_) (fun hc4 => ?_)
  ·
   refine xsr ?_
   refine xlz (o_as rfl rfl rfl) ?_
   refine lendF ?_
   refine awp_ret ?_
   refine ⟨[_], ⟨rfl, trivial⟩, ?_⟩
   exact ent_d1 rfl (by simp_all [cmpS])
  ·
   refine awp_skip ?_
   refine xsr ?_
   refine xlz (o_as rfl rfl rfl) ?_
   refine lendF ?_
   refine awp_ret ?_
   refine ⟨[_], ⟨rfl, trivial⟩, ?_⟩
   exact ent_d1 rfl (by simp_all [cmpS])

set_option maxRecDepth 10000 in
theorem c112 (v u : Ver) : Fn PR 112 [.d v.d, .d u.d] [] [.d (I (cmpV v u))] [] := by
 refine fn_of_awp Tryz.func112 rfl (N := 27) rfl ?_
 refine xsr ?_
 refine xlz (op_box rfl rfl (by decide) rfl rfl) ?_
 refine xlz (op_box rfl rfl (by decide) rfl rfl) ?_
 refine xlz (o_as rfl rfl rfl) ?_
 refine lendF ?_
 refine xsr ?_
 refine xlz (o_ldA rfl rfl rfl rfl ty38 rfl (xlb rfl) rfl) ?_
 refine xlz (op_callP rfl rfl rfl ca114 rfl (c114 v) rfl) ?_
 refine xlz (o_ldA rfl rfl rfl rfl ty38 rfl (xlb rfl) rfl) ?_
 refine xlz (op_callP rfl rfl rfl ca114 rfl (c114 u) rfl) ?_
 refine xlz (op_alloc rfl rfl (by decide) ty151 zk151 rfl) ?_
 refine xlz (op_alloc rfl rfl (by decide) ty151 zk151 rfl) ?_
 refine xlz (op_store rfl rfl rfl rfl rfl rfl ty151 rfl (xlb rfl)) ?_
 refine xlz (op_store rfl rfl rfl rfl rfl rfl ty151 rfl (xlb rfl)) ?_
 refine lend (fun _ => by kernel_rfl) ?_
 refine awp_seq ?_
 refine xsr ?_
 refine xlz (o_mv rfl rfl rfl) ?_
 refine lendF ?_
 refine awp_block ?_
 refine awp_loop (fun i => ⟨27, [(5, .ptr 5 0), (6, .ptr 6 0), (13, .d (I (i : Nat)))], [(5, .cells [.d (I v.maj), .d (I v.min), .d (I v.pat)]), (6, .cells [.d (I u.maj), .d (I u.min), .d (I u.pat)])]⟩) (fun i => 3 - i) (fun i => i ≤ 3 ∧ cmpL (v.nums.drop i) (u.nums.drop i) = cmpV v u) 0 ?_ ?_ ?_
 ·
  exact ent_k [] rfl rfl (.cons rfl (by first | exact k_eq rfl | exact k_i (by simp) | exact .data rfl | exact k_d (by simp) | exact k_i (by simp; omega)) <| .cons rfl (by first | exact k_eq rfl | exact k_i (by simp) | exact .data rfl | exact k_d (by simp) | exact k_i (by simp; omega)) <| .cons rfl (by first | exact k_eq rfl | exact k_i (by simp) | exact .data rfl | exact k_d (by simp) | exact k_i (by simp; omega)) <| .nil) (obs_cons rfl (o_eq rfl) (obs_cons rfl (o_eq rfl) obs_nil)) rfl
 ·
  exact ⟨by omega, rfl⟩
 ·
  rintro i ⟨hi, hI⟩
  refine xsr ?_
  refine xlz (op_binI rfl rfl rfl rfl rfl (.inl rfl) rfl) ?_
  refine lendF ?_
  refine awp_seq ?_
  refine awp_cond rfl rfl (fun hc1 => ?_) (fun hc1 => ?_)
  ·
   obtain ⟨x, hn⟩ := rng_lt (l := v.nums) hc1
   have hlt : i < 3 := rng_le hn
   obtain ⟨y, hm⟩ : ∃ y, u.nums[i]? = some y := ⟨_, List.getElem?_eq_getElem (l := u.nums) hlt⟩
   refine awp_skip ?_
   refine awp_seq ?_
   refine awp_block ?_
   refine xsr ?_
   refine xlz (o_mv rfl rfl rfl) ?_
   refine xlz (o_as rfl rfl rfl) ?_
   refine lendF ?_
   refine xsr ?_
   refine xlz (o_mv rfl rfl rfl) ?_
   refine xlz (op_ixV rfl rfl rfl rfl rfl ty151 ty3 hlt) ?_
   refine xlz (op_load1 rfl rfl rfl rfl ty3 rfl (nums_cell hn)) ?_
   refine xlz (o_mv rfl rfl rfl) ?_
   refine xlz (op_ixV rfl rfl rfl rfl rfl ty151 ty3 hlt) ?_
   refine xlz (op_load1 rfl rfl rfl rfl ty3 rfl (nums_cell hm)) ?_
   refine xlz (op_callP rfl rfl rfl ca136 rfl (c136 x y) rfl) ?_
   refine xlz (o_as rfl rfl rfl) ?_
   refine lend (fun _ => by kernel_rfl) ?_
   refine xsr ?_
   refine xlz (o_mv rfl rfl rfl) ?_
   refine xlz (op_binI rfl rfl rfl rfl rfl (.inl rfl) rfl) ?_
   refine lendF ?_
   refine awp_cond rfl rfl (fun hc2 => ?_) (fun hc2 => ?_)
   ·
    refine xsr ?_
    refine xlz (o_mv rfl rfl rfl) ?_
    refine xlz (o_as rfl rfl rfl) ?_
    refine lendF ?_
    refine awp_ret ?_
    refine ⟨[_], ⟨rfl, trivial⟩, ?_⟩
    exact ent_d1 rfl (by rw [← hI]; first | rfl | (rw [drop_cons hn, drop_cons hm]; simp_all [cmpL]))
   ·
    refine awp_skip ?_
    refine awp_region mixed ?_
    refine xlz (o_add rfl rfl rfl rfl (by omega)) ?_
    refine xlz (o_mv rfl rfl rfl) ?_
    refine lendF ?_
    refine ⟨i + 1, ?_, ?_, ?_⟩
    ·
     exact ⟨by omega, by rw [← hI, drop_cons hn, drop_cons hm]; simp_all [cmpL]⟩
    ·
     exact ent_k [] rfl rfl (.cons rfl (by first | exact k_eq rfl | exact k_i (by simp) | exact .data rfl | exact k_d (by simp) | exact k_i (by simp; omega)) <| .cons rfl (by first | exact k_eq rfl | exact k_i (by simp) | exact .data rfl | exact k_d (by simp) | exact k_i (by simp; omega)) <| .cons rfl (by first | exact k_eq rfl | exact k_i (by simp) | exact .data rfl | exact k_d (by simp) | exact k_i (by simp; omega)) <| .nil) (obs_cons rfl (o_eq rfl) (obs_cons rfl (o_eq rfl) obs_nil)) rfl
    ·
     omega
  ·
   obtain rfl := rng_ge (l := v.nums) hc1 hi
   refine awp_exit ?_
   refine xsr ?_
   refine xlz (o_as rfl rfl rfl) ?_
   refine lendF ?_
   refine awp_ret ?_
   refine ⟨[_], ⟨rfl, trivial⟩, ?_⟩
   exact ent_d1 rfl (by rw [← hI]; first | rfl | (rw [drop_cons hn, drop_cons hm]; simp_all [cmpL]))

set_option maxRecDepth 10000 in
theorem c110 (l : List Int) (hl : l.length < 4611686018427387904) : Fn PR 110 [.d (.list (l.map I))] [] [.d (I (orI l))] [] := by
 refine fn_of_awp Tryz.func110 rfl (N := 18) rfl ?_
 refine xsr ?_
 refine xlz (o_as rfl rfl rfl) ?_
 refine lendF ?_
 refine xsr ?_
 refine xlz (o_as rfl rfl rfl) ?_
 refine lendF ?_
 refine awp_seq ?_
 refine xsr ?_
 refine xlz (o_mv rfl rfl rfl) ?_
 refine xlz (op_len rfl rfl rfl ty96) ?_
 refine xlz (o_mv rfl rfl rfl) ?_
 refine lendF ?_
 refine awp_block ?_
 refine awp_loop (fun i => ⟨18, [(3, .d (I 0)), (6, .d (.list (l.map I))), (7, .d (I l.length)), (8, .d (I (i : Nat)))], []⟩) (fun i => l.length - i) (fun i => i ≤ l.length ∧ orI (l.drop i) = orI l) 0 ?_ ?_ ?_
 ·
  exact ent_k [] rfl rfl (.cons rfl (by first | exact k_eq rfl | exact k_i (by simp) | exact .data rfl | exact k_d (by simp) | exact k_i (by simp; omega)) <| .cons rfl (by first | exact k_eq rfl | exact k_i (by simp) | exact .data rfl | exact k_d (by simp) | exact k_i (by simp; omega)) <| .cons rfl (by first | exact k_eq rfl | exact k_i (by simp) | exact .data rfl | exact k_d (by simp) | exact k_i (by simp; omega)) <| .cons rfl (by first | exact k_eq rfl | exact k_i (by simp) | exact .data rfl | exact k_d (by simp) | exact k_i (by simp; omega)) <| .nil) obs_nil rfl
 ·
  exact ⟨by omega, rfl⟩
 ·
  rintro i ⟨hi, hI⟩
  refine xsr ?_
  refine xlz (op_binI rfl rfl rfl rfl rfl (.inl rfl) rfl) ?_
  refine lendF ?_
  refine awp_seq ?_
  refine awp_cond rfl rfl (fun hc1 => ?_) (fun hc1 => ?_)
  ·
   obtain ⟨x, hn⟩ := rng_lt hc1
   have hlt := rng_le hn
   refine awp_skip ?_
   refine awp_seq ?_
   refine awp_block ?_
   refine xsr ?_
   refine xlz (o_ixM rfl rfl rfl hn rfl ty96 ty3) ?_
   refine xlz (op_loadC1 rfl rfl rfl ty3 rfl rfl) ?_
   refine xlz (o_as rfl rfl rfl) ?_
   refine lendF ?_
   refine xsr ?_
   refine xlz (o_mv rfl rfl rfl) ?_
   refine xlz (o_mv rfl rfl rfl) ?_
   refine xlz (op_binI rfl rfl rfl rfl rfl (.inl rfl) rfl) ?_
   refine lendF ?_
   refine awp_cond rfl rfl (fun hc2 => ?_) (fun hc2 => ?_)
   ·
    refine xsr ?_
    refine xlz (o_mv rfl rfl rfl) ?_
    refine xlz (o_as rfl rfl rfl) ?_
    refine lendF ?_
    refine awp_ret ?_
    refine ⟨[_], ⟨rfl, trivial⟩, ?_⟩
    exact ent_d1 rfl (by rw [← hI, drop_cons hn]; simp_all [orI])
   ·
    refine awp_skip ?_
    refine awp_region mixed ?_
    refine xlz (o_add rfl rfl rfl rfl (by omega)) ?_
    refine xlz (o_mv rfl rfl rfl) ?_
    refine lendF ?_
    refine ⟨i + 1, ?_, ?_, ?_⟩
    ·
     exact ⟨by omega, by rw [← hI, drop_cons hn]; simp_all [orI]⟩
    ·
     exact ent_k [] rfl rfl (.cons rfl (by first | exact k_eq rfl | exact k_i (by simp) | exact .data rfl | exact k_d (by simp) | exact k_i (by simp; omega)) <| .cons rfl (by first | exact k_eq rfl | exact k_i (by simp) | exact .data rfl | exact k_d (by simp) | exact k_i (by simp; omega)) <| .cons rfl (by first | exact k_eq rfl | exact k_i (by simp) | exact .data rfl | exact k_d (by simp) | exact k_i (by simp; omega)) <| .cons rfl (by first | exact k_eq rfl | exact k_i (by simp) | exact .data rfl | exact k_d (by simp) | exact k_i (by simp; omega)) <| .nil) obs_nil rfl
    ·
     omega
  ·
   obtain rfl := rng_ge hc1 hi
   refine awp_exit ?_
   refine xsr ?_
   refine xlz (o_mv rfl rfl rfl) ?_
   refine xlz (o_as rfl rfl rfl) ?_
   refine lendF ?_
   refine awp_ret ?_
   refine ⟨[_], ⟨rfl, trivial⟩, ?_⟩
   exact ent_d1 rfl (by rw [← hI]; simp [orI])

set_option maxRecDepth 10000 in
theorem c76 (a b : Rls) : Fn PR 76 [.d a.d, .d b.d] [] [.d (I (cmpR a b))] [] := by
 refine fn_of_awp Tryz.func76 rfl (N := 17) rfl ?_
 refine xsr ?_
 refine xlz (op_box rfl rfl (by decide) rfl rfl) ?_
 refine xlz (op_box rfl rfl (by decide) rfl rfl) ?_
 refine xlz (o_as rfl rfl rfl) ?_
 refine lendF ?_
 refine xsr ?_
 refine xlz (op_fieldP rfl rfl rfl fl40_0) ?_
 refine xlz (op_load1 rfl rfl rfl rfl ty9 rfl rfl) ?_
 refine xlz (op_fieldP rfl rfl rfl fl40_0) ?_
 refine xlz (op_load1 rfl rfl rfl rfl ty9 rfl rfl) ?_
 refine xlz (op_callP rfl rfl rfl ca111 rfl (c111 a.path b.path) rfl) ?_
 refine xlz (op_fieldP rfl rfl rfl fl40_1) ?_
 refine xlz (o_ldA rfl rfl rfl rfl ty38 rfl (xlb rfl) rfl) ?_
 refine xlz (op_fieldP rfl rfl rfl fl40_1) ?_
 refine xlz (o_ldA rfl rfl rfl rfl ty38 rfl (xlb rfl) rfl) ?_
 refine xlz (op_callP rfl rfl rfl ca112 rfl (c112 a.ver b.ver) rfl) ?_
 refine xlz (o_bsD rfl rfl rfl rfl rfl ty96 ty3 rfl rfl) ?_
 refine xlz (op_callP rfl rfl rfl ca110 rfl (c110 [cmpS a.path b.path, cmpV a.ver b.ver] (by simp)) rfl) ?_
 refine xlz (o_as rfl rfl rfl) ?_
 refine lend (fun _ => by kernel_rfl) ?_
 refine awp_ret ?_
 refine ⟨[_], ⟨rfl, trivial⟩, ?_⟩
 exact ent_d1 rfl (by first | rfl | simp_all)

end Go.Pm

namespace Go.Pm
open Go.Proofs

set_option maxRecDepth 10000 in
theorem c127 (c : UInt8) : Fn PR 127 [.d (.int .u8 c.toNat)] [] [.d (.bool (smallB c))] [] := by
 refine fn_of_awp Tryz.func127 rfl (N := 9) rfl ?_
 refine xsr ?_
 refine xlz (o_as rfl rfl rfl) ?_
 refine lendF ?_
 refine xsr ?_
 refine xlz (o_mv rfl rfl rfl) ?_
 refine xlz (op_binI rfl rfl rfl rfl rfl (.inl rfl) rfl) ?_
 refine xlz (o_mv rfl rfl rfl) ?_
 refine lsplit rfl (fun hg1 => ?_) (fun hg1 => ?_)
 ·
  refine lg (o_mv rfl rfl rfl) rfl hg1 rfl rfl ?_
  refine lg (op_binI rfl rfl rfl rfl rfl (.inl rfl) rfl) rfl hg1 rfl rfl ?_
  refine xlz (o_pT rfl rfl (g11 hg1) rfl rfl) ?_
  refine xlz (o_as rfl rfl rfl) ?_
  refine lendF ?_
  refine awp_ret ?_
  refine ⟨[_], ⟨rfl, trivial⟩, ?_⟩
  exact ent_d1 rfl (by simp_all [smallB] <;> first | done | omega | (intros; omega))
 ·
  refine lskip rfl hg1 rfl ?_
  refine lskip rfl hg1 rfl ?_
  refine xlz (o_pF rfl rfl (g10 hg1) rfl rfl) ?_
  refine xlz (o_as rfl rfl rfl) ?_
  refine lendF ?_
  refine awp_ret ?_
  refine ⟨[_], ⟨rfl, trivial⟩, ?_⟩
  exact ent_d1 rfl (by simp_all [smallB] <;> first | done | omega | (intros; omega))

set_option maxRecDepth 10000 in
theorem c128 (c : UInt8) : Fn PR 128 [.d (.int .u8 c.toNat)] [] [.d (.bool (digitB c))] [] := by
 refine fn_of_awp Tryz.func128 rfl (N := 9) rfl ?_
 refine xsr ?_
 refine xlz (o_as rfl rfl rfl) ?_
 refine lendF ?_
 refine xsr ?_
 refine xlz (o_mv rfl rfl rfl) ?_
 refine xlz (op_binI rfl rfl rfl rfl rfl (.inl rfl) rfl) ?_
 refine xlz (o_mv rfl rfl rfl) ?_
 refine lsplit rfl (fun hg1 => ?_) (fun hg1 => ?_)
 ·
  refine lg (o_mv rfl rfl rfl) rfl hg1 rfl rfl ?_
  refine lg (op_binI rfl rfl rfl rfl rfl (.inl rfl) rfl) rfl hg1 rfl rfl ?_
  refine xlz (o_pT rfl rfl (g11 hg1) rfl rfl) ?_
  refine xlz (o_as rfl rfl rfl) ?_
  refine lendF ?_
  refine awp_ret ?_
  refine ⟨[_], ⟨rfl, trivial⟩, ?_⟩
  exact ent_d1 rfl (by simp_all [digitB] <;> first | done | omega | (intros; omega))
 ·
  refine lskip rfl hg1 rfl ?_
  refine lskip rfl hg1 rfl ?_
  refine xlz (o_pF rfl rfl (g10 hg1) rfl rfl) ?_
  refine xlz (o_as rfl rfl rfl) ?_
  refine lendF ?_
  refine awp_ret ?_
  refine ⟨[_], ⟨rfl, trivial⟩, ?_⟩
  exact ent_d1 rfl (by simp_all [digitB] <;> first | done | omega | (intros; omega))

set_option maxRecDepth 10000 in
theorem c176 (c : UInt8) : Fn PR 176 [.d (.int .u8 c.toNat)] [] [.d (.bool (capB c))] [] := by
 refine fn_of_awp Tryz.func176 rfl (N := 9) rfl ?_
 refine xsr ?_
 refine xlz (o_as rfl rfl rfl) ?_
 refine lendF ?_
 refine xsr ?_
 refine xlz (o_mv rfl rfl rfl) ?_
 refine xlz (op_binI rfl rfl rfl rfl rfl (.inl rfl) rfl) ?_
 refine xlz (o_mv rfl rfl rfl) ?_
 refine lsplit rfl (fun hg1 => ?_) (fun hg1 => ?_)
 ·
  refine lg (o_mv rfl rfl rfl) rfl hg1 rfl rfl ?_
  refine lg (op_binI rfl rfl rfl rfl rfl (.inl rfl) rfl) rfl hg1 rfl rfl ?_
  refine xlz (o_pT rfl rfl (g11 hg1) rfl rfl) ?_
  refine xlz (o_as rfl rfl rfl) ?_
  refine lendF ?_
  refine awp_ret ?_
  refine ⟨[_], ⟨rfl, trivial⟩, ?_⟩
  exact ent_d1 rfl (by simp_all [capB] <;> first | done | omega | (intros; omega))
 ·
  refine lskip rfl hg1 rfl ?_
  refine lskip rfl hg1 rfl ?_
  refine xlz (o_pF rfl rfl (g10 hg1) rfl rfl) ?_
  refine xlz (o_as rfl rfl rfl) ?_
  refine lendF ?_
  refine awp_ret ?_
  refine ⟨[_], ⟨rfl, trivial⟩, ?_⟩
  exact ent_d1 rfl (by simp_all [capB] <;> first | done | omega | (intros; omega))

set_option maxRecDepth 10000 in
theorem c151 (c : UInt8) : Fn PR 151 [.d (.int .u8 c.toNat)] [] [.d (.bool (wordB c))] [] := by
 refine fn_of_awp Tryz.func151 rfl (N := 17) rfl ?_
 refine xsr ?_
 refine xlz (o_as rfl rfl rfl) ?_
 refine lendF ?_
 refine xsr ?_
 refine xlz (o_mv rfl rfl rfl) ?_
 refine xlz (op_callP rfl rfl rfl ca127 rfl (c127 c) rfl) ?_
 refine xlz (o_mv rfl rfl rfl) ?_
 refine lsplit rfl (fun hg1 => ?_) (fun hg1 => ?_)
 ·
  refine lg (o_mv rfl rfl rfl) rfl hg1 rfl rfl ?_
  refine lg (op_callP rfl rfl rfl ca176 rfl (c176 c) rfl) rfl hg1 rfl rfl ?_
  refine xlz (o_pF rfl rfl (g01 hg1) rfl rfl) ?_
  refine xlz (o_mv rfl rfl rfl) ?_
  refine lsplit rfl (fun hg2 => ?_) (fun hg2 => ?_)
  ·
   refine lg (o_mv rfl rfl rfl) rfl hg2 rfl rfl ?_
   refine lg (op_callP rfl rfl rfl ca128 rfl (c128 c) rfl) rfl hg2 rfl rfl ?_
   refine xlz (o_pF rfl rfl (g01 hg2) rfl rfl) ?_
   refine xlz (o_mv rfl rfl rfl) ?_
   refine lsplit rfl (fun hg3 => ?_) (fun hg3 => ?_)
   ·
    refine lg (o_mv rfl rfl rfl) rfl hg3 rfl rfl ?_
    refine lg (op_binI rfl rfl rfl rfl rfl (.inl rfl) rfl) rfl hg3 rfl rfl ?_
    refine xlz (o_pF rfl rfl (g01 hg3) rfl rfl) ?_
    refine xlz (o_as rfl rfl rfl) ?_
    refine lendF ?_
    refine awp_ret ?_
    refine ⟨[_], ⟨rfl, trivial⟩, ?_⟩
    exact ent_d1 rfl (by simp_all [wordB] <;> first | done | omega | (intros; omega))
   ·
    refine lskip rfl hg3 rfl ?_
    refine lskip rfl hg3 rfl ?_
    refine xlz (o_pT rfl rfl (g00 hg3) rfl rfl) ?_
    refine xlz (o_as rfl rfl rfl) ?_
    refine lendF ?_
    refine awp_ret ?_
    refine ⟨[_], ⟨rfl, trivial⟩, ?_⟩
    exact ent_d1 rfl (by simp_all [wordB] <;> first | done | omega | (intros; omega))
  ·
   refine lskip rfl hg2 rfl ?_
   refine lskip rfl hg2 rfl ?_
   refine xlz (o_pT rfl rfl (g00 hg2) rfl rfl) ?_
   refine xlz (o_mv rfl rfl rfl) ?_
   refine lskip rfl rfl rfl ?_
   refine lskip rfl rfl rfl ?_
   refine xlz (o_pT rfl rfl rfl rfl rfl) ?_
   refine xlz (o_as rfl rfl rfl) ?_
   refine lendF ?_
   refine awp_ret ?_
   refine ⟨[_], ⟨rfl, trivial⟩, ?_⟩
   exact ent_d1 rfl (by simp_all [wordB] <;> first | done | omega | (intros; omega))
 ·
  refine lskip rfl hg1 rfl ?_
  refine lskip rfl hg1 rfl ?_
  refine xlz (o_pT rfl rfl (g00 hg1) rfl rfl) ?_
  refine xlz (o_mv rfl rfl rfl) ?_
  refine lskip rfl rfl rfl ?_
  refine lskip rfl rfl rfl ?_
  refine xlz (o_pT rfl rfl rfl rfl rfl) ?_
  refine xlz (o_mv rfl rfl rfl) ?_
  refine lskip rfl rfl rfl ?_
  refine lskip rfl rfl rfl ?_
  refine xlz (o_pT rfl rfl rfl rfl rfl) ?_
  refine xlz (o_as rfl rfl rfl) ?_
  refine lendF ?_
  refine awp_ret ?_
  refine ⟨[_], ⟨rfl, trivial⟩, ?_⟩
  exact ent_d1 rfl (by simp_all [wordB] <;> first | done | omega | (intros; omega))

set_option maxRecDepth 10000 in
theorem c178 (c : UInt8) : Fn PR 178 [.d (.int .u8 c.toNat)] [] [.d (.bool (smallB c))] [] := by
 refine fn_of_awp Tryz.func178 rfl (N := 9) rfl ?_
 refine xsr ?_
 refine xlz (o_as rfl rfl rfl) ?_
 refine lendF ?_
 refine xsr ?_
 refine xlz (o_mv rfl rfl rfl) ?_
 refine xlz (op_binI rfl rfl rfl rfl rfl (.inl rfl) rfl) ?_
 refine xlz (o_mv rfl rfl rfl) ?_
 refine lsplit rfl (fun hg1 => ?_) (fun hg1 => ?_)
 ·
  refine lg (o_mv rfl rfl rfl) rfl hg1 rfl rfl ?_
  refine lg (op_binI rfl rfl rfl rfl rfl (.inl rfl) rfl) rfl hg1 rfl rfl ?_
  refine xlz (o_pT rfl rfl (g11 hg1) rfl rfl) ?_
  refine xlz (o_as rfl rfl rfl) ?_
  refine lendF ?_
  refine awp_ret ?_
  refine ⟨[_], ⟨rfl, trivial⟩, ?_⟩
  exact ent_d1 rfl (by simp_all [smallB] <;> first | done | omega | (intros; omega))
 ·
  refine lskip rfl hg1 rfl ?_
  refine lskip rfl hg1 rfl ?_
  refine xlz (o_pF rfl rfl (g10 hg1) rfl rfl) ?_
  refine xlz (o_as rfl rfl rfl) ?_
  refine lendF ?_
  refine awp_ret ?_
  refine ⟨[_], ⟨rfl, trivial⟩, ?_⟩
  exact ent_d1 rfl (by simp_all [smallB] <;> first | done | omega | (intros; omega))

set_option maxRecDepth 10000 in
theorem c179 (c : UInt8) : Fn PR 179 [.d (.int .u8 c.toNat)] [] [.d (.bool (digitB c))] [] := by
 refine fn_of_awp Tryz.func179 rfl (N := 9) rfl ?_
 refine xsr ?_
 refine xlz (o_as rfl rfl rfl) ?_
 refine lendF ?_
 refine xsr ?_
 refine xlz (o_mv rfl rfl rfl) ?_
 refine xlz (op_binI rfl rfl rfl rfl rfl (.inl rfl) rfl) ?_
 refine xlz (o_mv rfl rfl rfl) ?_
 refine lsplit rfl (fun hg1 => ?_) (fun hg1 => ?_)
 ·
  refine lg (o_mv rfl rfl rfl) rfl hg1 rfl rfl ?_
  refine lg (op_binI rfl rfl rfl rfl rfl (.inl rfl) rfl) rfl hg1 rfl rfl ?_
  refine xlz (o_pT rfl rfl (g11 hg1) rfl rfl) ?_
  refine xlz (o_as rfl rfl rfl) ?_
  refine lendF ?_
  refine awp_ret ?_
  refine ⟨[_], ⟨rfl, trivial⟩, ?_⟩
  exact ent_d1 rfl (by simp_all [digitB] <;> first | done | omega | (intros; omega))
 ·
  refine lskip rfl hg1 rfl ?_
  refine lskip rfl hg1 rfl ?_
  refine xlz (o_pF rfl rfl (g10 hg1) rfl rfl) ?_
  refine xlz (o_as rfl rfl rfl) ?_
  refine lendF ?_
  refine awp_ret ?_
  refine ⟨[_], ⟨rfl, trivial⟩, ?_⟩
  exact ent_d1 rfl (by simp_all [digitB] <;> first | done | omega | (intros; omega))

set_option maxRecDepth 10000 in
theorem c202 (c : UInt8) : Fn PR 202 [.d (.int .u8 c.toNat)] [] [.d (.bool (capB c))] [] := by
 refine fn_of_awp Tryz.func202 rfl (N := 9) rfl ?_
 refine xsr ?_
 refine xlz (o_as rfl rfl rfl) ?_
 refine lendF ?_
 refine xsr ?_
 refine xlz (o_mv rfl rfl rfl) ?_
 refine xlz (op_binI rfl rfl rfl rfl rfl (.inl rfl) rfl) ?_
 refine xlz (o_mv rfl rfl rfl) ?_
 refine lsplit rfl (fun hg1 => ?_) (fun hg1 => ?_)
 ·
  refine lg (o_mv rfl rfl rfl) rfl hg1 rfl rfl ?_
  refine lg (op_binI rfl rfl rfl rfl rfl (.inl rfl) rfl) rfl hg1 rfl rfl ?_
  refine xlz (o_pT rfl rfl (g11 hg1) rfl rfl) ?_
  refine xlz (o_as rfl rfl rfl) ?_
  refine lendF ?_
  refine awp_ret ?_
  refine ⟨[_], ⟨rfl, trivial⟩, ?_⟩
  exact ent_d1 rfl (by simp_all [capB] <;> first | done | omega | (intros; omega))
 ·
  refine lskip rfl hg1 rfl ?_
  refine lskip rfl hg1 rfl ?_
  refine xlz (o_pF rfl rfl (g10 hg1) rfl rfl) ?_
  refine xlz (o_as rfl rfl rfl) ?_
  refine lendF ?_
  refine awp_ret ?_
  refine ⟨[_], ⟨rfl, trivial⟩, ?_⟩
  exact ent_d1 rfl (by simp_all [capB] <;> first | done | omega | (intros; omega))

set_option maxRecDepth 10000 in
theorem c121 (n : Int) : Fn PR 121 [.d (I n)] [] [.d (.bool (okNum n))] [] := by
 refine fn_of_awp Tryz.func121 rfl (N := 9) rfl ?_
 refine xsr ?_
 refine xlz (o_as rfl rfl rfl) ?_
 refine lendF ?_
 refine xsr ?_
 refine xlz (o_mv rfl rfl rfl) ?_
 refine xlz (op_binI rfl rfl rfl rfl rfl (.inl rfl) rfl) ?_
 refine xlz (o_mv rfl rfl rfl) ?_
 refine lsplit rfl (fun hg1 => ?_) (fun hg1 => ?_)
 ·
  refine lg (o_mv rfl rfl rfl) rfl hg1 rfl rfl ?_
  refine lg (op_binI rfl rfl rfl rfl rfl (.inl rfl) rfl) rfl hg1 rfl rfl ?_
  refine xlz (o_pT rfl rfl (g11 hg1) rfl rfl) ?_
  refine xlz (o_as rfl rfl rfl) ?_
  refine lendF ?_
  refine awp_ret ?_
  refine ⟨[_], ⟨rfl, trivial⟩, ?_⟩
  exact ent_d1 rfl (by simp_all [okNum] <;> first | done | omega | (intros; omega))
 ·
  refine lskip rfl hg1 rfl ?_
  refine lskip rfl hg1 rfl ?_
  refine xlz (o_pF rfl rfl (g10 hg1) rfl rfl) ?_
  refine xlz (o_as rfl rfl rfl) ?_
  refine lendF ?_
  refine awp_ret ?_
  refine ⟨[_], ⟨rfl, trivial⟩, ?_⟩
  exact ent_d1 rfl (by simp_all [okNum] <;> first | done | omega | (intros; omega))

set_option maxRecDepth 10000 in
theorem c94 (v : Ver) : Fn PR 94 [.d v.d] [] [.d (.bool v.ok)] [] := by
 refine fn_of_awp Tryz.func94 rfl (N := 16) rfl ?_
 refine xsr ?_
 refine xlz (op_box rfl rfl (by decide) rfl rfl) ?_
 refine xlz (o_as rfl rfl rfl) ?_
 refine lendF ?_
 refine xsr ?_
 refine xlz (op_fieldP rfl rfl rfl fl38_0) ?_
 refine xlz (op_load1 rfl rfl rfl rfl ty3 rfl rfl) ?_
 refine xlz (op_callP rfl rfl rfl ca121 rfl (c121 v.maj) rfl) ?_
 refine xlz (o_mv rfl rfl rfl) ?_
 refine lsplit rfl (fun hg1 => ?_) (fun hg1 => ?_)
 ·
  refine lg (op_fieldP rfl rfl rfl fl38_1) rfl hg1 rfl rfl ?_
  refine lg (op_load1 rfl rfl rfl rfl ty3 rfl rfl) rfl hg1 rfl rfl ?_
  refine lg (op_callP rfl rfl rfl ca121 rfl (c121 v.min) rfl) rfl hg1 rfl rfl ?_
  refine xlz (o_pT rfl rfl (g11 hg1) rfl rfl) ?_
  refine xlz (o_mv rfl rfl rfl) ?_
  refine lsplit rfl (fun hg2 => ?_) (fun hg2 => ?_)
  ·
   refine lg (op_fieldP rfl rfl rfl fl38_2) rfl hg2 rfl rfl ?_
   refine lg (op_load1 rfl rfl rfl rfl ty3 rfl rfl) rfl hg2 rfl rfl ?_
   refine lg (op_callP rfl rfl rfl ca121 rfl (c121 v.pat) rfl) rfl hg2 rfl rfl ?_
   refine xlz (o_pT rfl rfl (g11 hg2) rfl rfl) ?_
   refine xlz (o_as rfl rfl rfl) ?_
   refine lendF ?_
   refine awp_ret ?_
   refine ⟨[_], ⟨rfl, trivial⟩, ?_⟩
   exact ent_d1 rfl (by simp_all [Ver.ok, Ver.nums])
  ·
   refine lskip rfl hg2 rfl ?_
   refine lskip rfl hg2 rfl ?_
   refine lskip rfl hg2 rfl ?_
   refine xlz (o_pF rfl rfl (g10 hg2) rfl rfl) ?_
   refine xlz (o_as rfl rfl rfl) ?_
   refine lendF ?_
   refine awp_ret ?_
   refine ⟨[_], ⟨rfl, trivial⟩, ?_⟩
   exact ent_d1 rfl (by simp_all [Ver.ok, Ver.nums])
 ·
  refine lskip rfl hg1 rfl ?_
  refine lskip rfl hg1 rfl ?_
  refine lskip rfl hg1 rfl ?_
  refine xlz (o_pF rfl rfl (g10 hg1) rfl rfl) ?_
  refine xlz (o_mv rfl rfl rfl) ?_
  refine lskip rfl rfl rfl ?_
  refine lskip rfl rfl rfl ?_
  refine lskip rfl rfl rfl ?_
  refine xlz (o_pF rfl rfl rfl rfl rfl) ?_
  refine xlz (o_as rfl rfl rfl) ?_
  refine lendF ?_
  refine awp_ret ?_
  refine ⟨[_], ⟨rfl, trivial⟩, ?_⟩
  exact ent_d1 rfl (by simp_all [Ver.ok, Ver.nums])

end Go.Pm

namespace Go.Pm
open Go.Proofs

set_option maxRecDepth 10000 in
theorem c199 (c : UInt8) : Fn PR 199 [.d (.int .u8 c.toNat)] [] [.d (.bool (wordB c))] [] := by
 refine fn_of_awp Tryz.func199 rfl (N := 17) rfl ?_
 refine xsr ?_
 refine xlz (o_as rfl rfl rfl) ?_
 refine lendF ?_
 refine xsr ?_
 refine xlz (o_mv rfl rfl rfl) ?_
 refine xlz (op_callP rfl rfl rfl ca178 rfl (c178 c) rfl) ?_
 refine xlz (o_mv rfl rfl rfl) ?_
 refine lsplit rfl (fun hg1 => ?_) (fun hg1 => ?_)
 ·
  refine lg (o_mv rfl rfl rfl) rfl hg1 rfl rfl ?_
  refine lg (op_callP rfl rfl rfl ca202 rfl (c202 c) rfl) rfl hg1 rfl rfl ?_
  refine xlz (o_pF rfl rfl (g01 hg1) rfl rfl) ?_
  refine xlz (o_mv rfl rfl rfl) ?_
  refine lsplit rfl (fun hg2 => ?_) (fun hg2 => ?_)
  ·
   refine lg (o_mv rfl rfl rfl) rfl hg2 rfl rfl ?_
   refine lg (op_callP rfl rfl rfl ca179 rfl (c179 c) rfl) rfl hg2 rfl rfl ?_
   refine xlz (o_pF rfl rfl (g01 hg2) rfl rfl) ?_
   refine xlz (o_mv rfl rfl rfl) ?_
   refine lsplit rfl (fun hg3 => ?_) (fun hg3 => ?_)
   ·
    refine lg (o_mv rfl rfl rfl) rfl hg3 rfl rfl ?_
    refine lg (op_binI rfl rfl rfl rfl rfl (.inl rfl) rfl) rfl hg3 rfl rfl ?_
    refine xlz (o_pF rfl rfl (g01 hg3) rfl rfl) ?_
    refine xlz (o_as rfl rfl rfl) ?_
    refine lendF ?_
    refine awp_ret ?_
    refine ⟨[_], ⟨rfl, trivial⟩, ?_⟩
    exact ent_d1 rfl (by simp_all [wordB] <;> first | done | omega | (intros; omega))
   ·
    refine lskip rfl hg3 rfl ?_
    refine lskip rfl hg3 rfl ?_
    refine xlz (o_pT rfl rfl (g00 hg3) rfl rfl) ?_
    refine xlz (o_as rfl rfl rfl) ?_
    refine lendF ?_
    refine awp_ret ?_
    refine ⟨[_], ⟨rfl, trivial⟩, ?_⟩
    exact ent_d1 rfl (by simp_all [wordB] <;> first | done | omega | (intros; omega))
  ·
   refine lskip rfl hg2 rfl ?_
   refine lskip rfl hg2 rfl ?_
   refine xlz (o_pT rfl rfl (g00 hg2) rfl rfl) ?_
   refine xlz (o_mv rfl rfl rfl) ?_
   refine lskip rfl rfl rfl ?_
   refine lskip rfl rfl rfl ?_
   refine xlz (o_pT rfl rfl rfl rfl rfl) ?_
   refine xlz (o_as rfl rfl rfl) ?_
   refine lendF ?_
   refine awp_ret ?_
   refine ⟨[_], ⟨rfl, trivial⟩, ?_⟩
   exact ent_d1 rfl (by simp_all [wordB] <;> first | done | omega | (intros; omega))
 ·
  refine lskip rfl hg1 rfl ?_
  refine lskip rfl hg1 rfl ?_
  refine xlz (o_pT rfl rfl (g00 hg1) rfl rfl) ?_
  refine xlz (o_mv rfl rfl rfl) ?_
  refine lskip rfl rfl rfl ?_
  refine lskip rfl rfl rfl ?_
  refine xlz (o_pT rfl rfl rfl rfl rfl) ?_
  refine xlz (o_mv rfl rfl rfl) ?_
  refine lskip rfl rfl rfl ?_
  refine lskip rfl rfl rfl ?_
  refine xlz (o_pT rfl rfl rfl rfl rfl) ?_
  refine xlz (o_as rfl rfl rfl) ?_
  refine lendF ?_
  refine awp_ret ?_
  refine ⟨[_], ⟨rfl, trivial⟩, ?_⟩
  exact ent_d1 rfl (by simp_all [wordB] <;> first | done | omega | (intros; omega))

set_option maxRecDepth 10000 in
theorem c120 (v u : Ver) : Fn PR 120 [.d v.d, .d u.d] [] [.d (I (cmpV v u))] [] := by
 refine fn_of_awp Tryz.func120 rfl (N := 44) rfl ?_
 refine xsr ?_
 refine xlz (op_box rfl rfl (by decide) rfl rfl) ?_
 refine xlz (op_box rfl rfl (by decide) rfl rfl) ?_
 refine xlz (o_as rfl rfl rfl) ?_
 refine lendF ?_
 refine xsr ?_
 refine xlz (op_fieldP rfl rfl rfl fl38_0) ?_
 refine xlz (op_load1 rfl rfl rfl rfl ty3 rfl rfl) ?_
 refine xlz (op_fieldP rfl rfl rfl fl38_1) ?_
 refine xlz (op_load1 rfl rfl rfl rfl ty3 rfl rfl) ?_
 refine xlz (op_fieldP rfl rfl rfl fl38_2) ?_
 refine xlz (op_load1 rfl rfl rfl rfl ty3 rfl rfl) ?_
 refine xlz (o_bs rfl rfl rfl rfl rfl ty96 ty3 rfl rfl) ?_
 refine xlz (o_as rfl rfl rfl) ?_
 refine lendF ?_
 refine xsr ?_
 refine xlz (op_fieldP rfl rfl rfl fl38_0) ?_
 refine xlz (op_load1 rfl rfl rfl rfl ty3 rfl rfl) ?_
 refine xlz (op_fieldP rfl rfl rfl fl38_1) ?_
 refine xlz (op_load1 rfl rfl rfl rfl ty3 rfl rfl) ?_
 refine xlz (op_fieldP rfl rfl rfl fl38_2) ?_
 refine xlz (op_load1 rfl rfl rfl rfl ty3 rfl rfl) ?_
 refine xlz (o_bs rfl rfl rfl rfl rfl ty96 ty3 rfl rfl) ?_
 refine xlz (o_as rfl rfl rfl) ?_
 refine lendF ?_
 refine awp_seq ?_
 refine xsr ?_
 refine xlz (o_as rfl rfl rfl) ?_
 refine lendF ?_
 refine awp_block ?_
 refine awp_loop (fun i => ⟨44, [(5, .d (.list (v.nums.map I))), (6, .d (.list (u.nums.map I))), (7, .d (I (i : Nat)))], []⟩) (fun i => 3 - i) (fun i => i ≤ 3 ∧ cmpL (v.nums.drop i) (u.nums.drop i) = cmpV v u) 0 ?_ ?_ ?_
 ·
  exact ent_k [] rfl rfl (.cons rfl (by first | exact k_eq rfl | exact k_i (by simp) | exact .data rfl | exact k_d (by simp) | exact k_i (by simp; omega)) <| .cons rfl (by first | exact k_eq rfl | exact k_i (by simp) | exact .data rfl | exact k_d (by simp) | exact k_i (by simp; omega)) <| .cons rfl (by first | exact k_eq rfl | exact k_i (by simp) | exact .data rfl | exact k_d (by simp) | exact k_i (by simp; omega)) <| .nil) obs_nil rfl
 ·
  exact ⟨by omega, rfl⟩
 ·
  rintro i ⟨hi, hI⟩
  refine awp_seq ?_
  refine xsr ?_
  refine xlz (o_mv rfl rfl rfl) ?_
  refine xlz (op_binI rfl rfl rfl rfl rfl (.inl rfl) rfl) ?_
  refine lendF ?_
  refine awp_cond rfl rfl (fun hc1 => ?_) (fun hc1 => ?_)
  ·
   obtain ⟨x, hn⟩ := rng_lt (l := v.nums) hc1
   have hlt : i < 3 := rng_le hn
   obtain ⟨y, hm⟩ : ∃ y, u.nums[i]? = some y := ⟨_, List.getElem?_eq_getElem (l := u.nums) hlt⟩
   refine awp_skip ?_
   refine awp_seq ?_
   refine awp_block ?_
   refine awp_seq ?_
   refine xsr ?_
   refine xlz (o_mv rfl rfl rfl) ?_
   refine xlz (o_mv rfl rfl rfl) ?_
   refine xlz (o_ixM rfl rfl rfl hn rfl ty96 ty3) ?_
   refine xlz (op_loadC1 rfl rfl rfl ty3 rfl rfl) ?_
   refine xlz (o_mv rfl rfl rfl) ?_
   refine xlz (o_mv rfl rfl rfl) ?_
   refine xlz (o_ixM rfl rfl rfl hm rfl ty96 ty3) ?_
   refine xlz (op_loadC1 rfl rfl rfl ty3 rfl rfl) ?_
   refine xlz (op_binI rfl rfl rfl rfl rfl (.inl rfl) rfl) ?_
   refine lend (fun _ => by kernel_rfl) ?_
   refine awp_cond rfl rfl (fun hc2 => ?_) (fun hc2 => ?_)
   ·
    refine xsr ?_
    refine xlz (o_as rfl rfl rfl) ?_
    refine lendF ?_
    refine awp_ret ?_
    refine ⟨[_], ⟨rfl, trivial⟩, ?_⟩
    exact ent_d1 rfl (by rw [← hI]; first | rfl | (rw [drop_cons hn, drop_cons hm]; simp_all [cmpL, cmpI] <;> omega))
   ·
    refine awp_skip ?_
    refine xsr ?_
    refine xlz (o_mv rfl rfl rfl) ?_
    refine xlz (o_mv rfl rfl rfl) ?_
    refine xlz (o_ixM rfl rfl rfl hn rfl ty96 ty3) ?_
    refine xlz (op_loadC1 rfl rfl rfl ty3 rfl rfl) ?_
    refine xlz (o_mv rfl rfl rfl) ?_
    refine xlz (o_mv rfl rfl rfl) ?_
    refine xlz (o_ixM rfl rfl rfl hm rfl ty96 ty3) ?_
    refine xlz (op_loadC1 rfl rfl rfl ty3 rfl rfl) ?_
    refine xlz (op_binI rfl rfl rfl rfl rfl (.inl rfl) rfl) ?_
    refine lend (fun _ => by kernel_rfl) ?_
    refine awp_cond rfl rfl (fun hc3 => ?_) (fun hc3 => ?_)
    ·
     refine xsr ?_
     refine xlz (o_as rfl rfl rfl) ?_
     refine lendF ?_
     refine awp_ret ?_
     refine ⟨[_], ⟨rfl, trivial⟩, ?_⟩
     exact ent_d1 rfl (by rw [← hI]; first | rfl | (rw [drop_cons hn, drop_cons hm]; simp_all [cmpL, cmpI] <;> omega))
    ·
     refine awp_skip ?_
     refine awp_region mixed ?_
     refine xlz (o_mv rfl rfl rfl) ?_
     refine xlz (o_add rfl rfl rfl rfl (by omega)) ?_
     refine xlz (o_as rfl rfl rfl) ?_
     refine lendF ?_
     refine ⟨i + 1, ?_, ?_, ?_⟩
     ·
      exact ⟨by omega, by rw [← hI, drop_cons hn, drop_cons hm]; simp_all [cmpL, cmpI] <;> omega⟩
     ·
      exact ent_k [] rfl rfl (.cons rfl (by first | exact k_eq rfl | exact k_i (by simp) | exact .data rfl | exact k_d (by simp) | exact k_i (by simp; omega)) <| .cons rfl (by first | exact k_eq rfl | exact k_i (by simp) | exact .data rfl | exact k_d (by simp) | exact k_i (by simp; omega)) <| .cons rfl (by first | exact k_eq rfl | exact k_i (by simp) | exact .data rfl | exact k_d (by simp) | exact k_i (by simp; omega)) <| .nil) obs_nil rfl
     ·
      omega
  ·
   obtain rfl := rng_ge (l := v.nums) hc1 hi
   refine awp_exit ?_
   refine xsr ?_
   refine xlz (o_as rfl rfl rfl) ?_
   refine lendF ?_
   refine awp_ret ?_
   refine ⟨[_], ⟨rfl, trivial⟩, ?_⟩
   exact ent_d1 rfl (by rw [← hI]; first | rfl | (rw [drop_cons hn, drop_cons hm]; simp_all [cmpL, cmpI] <;> omega))

set_option maxRecDepth 10000 in
theorem c90 (a b : Rls) : Fn PR 90 [.d a.d, .d b.d] [] [.d (I (cmpR a b))] [] := by
 refine fn_of_awp Tryz.func90 rfl (N := 20) rfl ?_
 refine xsr ?_
 refine xlz (op_box rfl rfl (by decide) rfl rfl) ?_
 refine xlz (op_box rfl rfl (by decide) rfl rfl) ?_
 refine xlz (o_as rfl rfl rfl) ?_
 refine lendF ?_
 refine awp_seq ?_
 refine xsr ?_
 refine xlz (op_fieldP rfl rfl rfl fl40_0) ?_
 refine xlz (op_load1 rfl rfl rfl rfl ty9 rfl rfl) ?_
 refine xlz (op_fieldP rfl rfl rfl fl40_0) ?_
 refine xlz (op_load1 rfl rfl rfl rfl ty9 rfl rfl) ?_
 refine xlz (op_binS rfl rfl rfl rfl rfl (fun h => by first | cases h | (simp; omega)) rfl) ?_
 refine lendF ?_
 refine awp_cond rfl rfl (fun hc1 => ?_) (fun hc1 => ?_)
 ·
  refine xsr ?_
  refine xlz (o_as rfl rfl rfl) ?_
  refine lendF ?_
  refine awp_ret ?_
  refine ⟨[_], ⟨rfl, trivial⟩, ?_⟩
  exact ent_d1 rfl (by simp_all [cmpR, orI, cmpS])
 ·
  refine awp_skip ?_
  refine awp_seq ?_
  refine xsr ?_
  refine xlz (op_fieldP rfl rfl rfl fl40_0) ?_
  refine xlz (op_load1 rfl rfl rfl rfl ty9 rfl rfl) ?_
  refine xlz (op_fieldP rfl rfl rfl fl40_0) ?_
  refine xlz (op_load1 rfl rfl rfl rfl ty9 rfl rfl) ?_
  refine xlz (op_binS rfl rfl rfl rfl rfl (fun h => by first | cases h | (simp; omega)) rfl) ?_
  refine lendF ?_
  refine awp_cond rfl rfl (fun hc2 => ?_) (fun hc2 => ?_)
  ·
   refine xsr ?_
   refine xlz (o_as rfl rfl rfl) ?_
   refine lendF ?_
   refine awp_ret ?_
   refine ⟨[_], ⟨rfl, trivial⟩, ?_⟩
   exact ent_d1 rfl (by simp_all [cmpR, orI, cmpS])
  ·
   refine awp_skip ?_
   refine xsr ?_
   refine xlz (op_fieldP rfl rfl rfl fl40_1) ?_
   refine xlz (o_ldA rfl rfl rfl rfl ty38 rfl (xlb rfl) rfl) ?_
   refine xlz (op_fieldP rfl rfl rfl fl40_1) ?_
   refine xlz (o_ldA rfl rfl rfl rfl ty38 rfl (xlb rfl) rfl) ?_
   refine xlz (op_callP rfl rfl rfl ca120 rfl (c120 a.ver b.ver) rfl) ?_
   refine xlz (o_as rfl rfl rfl) ?_
   refine lendF ?_
   refine awp_ret ?_
   refine ⟨[_], ⟨rfl, trivial⟩, ?_⟩
   exact ent_d1 rfl (by simp_all [cmpR, orI, cmpS])

end Go.Pm
