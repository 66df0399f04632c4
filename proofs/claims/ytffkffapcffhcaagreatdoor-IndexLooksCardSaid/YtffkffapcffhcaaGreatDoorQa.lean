/- Part 1 of a proof about the index of a registry: plain functions, and walks through the program that show that it computes them (Pg .. Pm15). Own work. -/
import Derived.WalkKit
import Derived.Deep.LoopGhost
set_option autoImplicit false
set_option linter.unusedVariables false
set_option linter.unusedSimpArgs false
namespace Go.Pm
/-- internal/bytealg.MaxLen: some integer. -/
def gTab : List (Nat × (Obj → Prop)) := [(0, fun ob => ∃ (vs : Array Value) (elem : TypeId) (fz : Nat × Nat) (n : Int), ob = .cells vs elem fz ∧ vs[0]? = some (.int .i64 n))]
end Go.Pm

namespace Go.Pm

abbrev Bytes := List UInt8

/-- Plain data: no reference into memory that may be written. -/
inductive D where
  | bool (b : Bool)
  | int (k : IntKind) (n : Int)
  | str (s : Bytes)
  | list (ds : List D)
  | agg (cs : List D)
  | nilp | nilm | nilf | nili
  deriving Inhabited

def D.cells : D → List D
  | .agg cs => cs
  | d => [d]
def D.one : D → Bool
  | .agg _ => false
  | _ => true

/-- The value v reads, in w, as the datum d, and no cell that is met is one of M. -/
inductive Den (M : Nat → Nat → Prop) (w : World) : D → Value → Prop
  | bool (b) : Den M w (.bool b) (.bool b)
  | int (k n) : Den M w (.int k n) (.int k n)
  | str (s) : Den M w (.str s) (.string ⟨s.toArray⟩)
  | nilp : Den M w .nilp (.pointer none)
  | nilm : Den M w .nilm (.map none)
  | nilf : Den M w .nilf .nilFunc
  | nili : Den M w .nili .nilIface
  | nil : Den M w (.list []) (.slice none 0 0)
  | empty (a c) : Den M w (.list []) (.slice (some a) 0 c)
  | list (ds : List D) (b o c sz : Nat) (cell : Nat → Nat → Value) (hc : ds.length ≤ c) (hsz : ∀ d ∈ ds, d.cells.length = sz) (hone : ∀ d ∈ ds, ∀ x ∈ d.cells, x.one = true)
      (h : ∀ (i : Nat) (d : D), ds[i]? = some d → ∀ (j : Nat) (x : D), d.cells[j]? = some x → Den M w x (cell i j))
      (hw : ∀ i j, i < ds.length → j < sz → w.cell? ⟨b, o + i * sz + j, none⟩ = some (cell i j) ∧ ¬ M b (o + i * sz + j)) :
      Den M w (.list ds) (.slice (some ⟨b, o, none⟩) ds.length c)
  | agg (cs : List D) (vs : List Value) (hl : vs.length = cs.length) (hone : ∀ x ∈ cs, x.one = true)
      (h : ∀ (j : Nat) (x : D), cs[j]? = some x → ∀ (v : Value), vs[j]? = some v → Den M w x v) : Den M w (.agg cs) (.agg vs.toArray)

/-- Abstract values of slots and of cells. Names stand for objects. -/
inductive PV where
  | undef
  | d (x : D)
  | nils
  | tl (ds : List D) (x : Option Nat)
  | arr (x : Nat) (sz off len : Nat)
  | ptr (x : Nat) (off : Nat)
  | eptr (x : Nat) (sz i fo : Nat)
  | cptr (cs : List D)
  | nn (ds : List D)
  | map (x : Nat)
  | fn (f : Fn) (first cap : List PV)
  | agg (cs : List PV)
  | tup (vs : List PV)
  | iter (x : Nat)
  deriving Inhabited

/-- Abstract objects. -/
inductive Ob where
  | cells (cs : List PV)
  | arr (sz : Nat) (ds : List D)
  | tail (sz : Nat)
  | map (dm : List (D × D)) (es : List (D × PV))
  | siter (s : Bytes) (pos : Nat)
  | miter (m : Nat) (left : List D)
  | glob (n : Int)
  deriving Inhabited

/-- A map's entries: first those that are plain data. -/
def ments (dm : List (D × D)) (es : List (D × PV)) : List (D × PV) := dm.map (fun e => (e.1, PV.d e.2)) ++ es

structure Gh where
  φ : Nat → Option Nat
  τ : Nat → Option Value

inductive VRel (g : Gh) (M : Nat → Nat → Prop) (w : World) : PV → Value → Prop
  | undef (v) : VRel g M w .undef v
  | d {x v} (h : Den M w x v) : VRel g M w (.d x) v
  | nils : VRel g M w .nils (.slice none 0 0)
  | full {ds a n} (h : Den M w (.list ds) (.slice a n n)) : VRel g M w (.tl ds none) (.slice a n n)
  | tail {ds x v} (h : Den M w (.list ds) v) (ht : g.τ x = some v) : VRel g M w (.tl ds (some x)) v
  | arr {x b sz off len cap N} (h : g.φ x = some b) (hτ : g.τ x = some (.int .i64 ((N : Nat) : Int))) (hc : len ≤ cap) (hN : (off + cap) * sz ≤ N) : VRel g M w (.arr x sz off len) (.slice (some ⟨b, off * sz, none⟩) len cap)
  | arr0 {x sz} (h : g.φ x = none) : VRel g M w (.arr x sz 0 0) (.slice none 0 0)
  | nn {ds a n c} (h : Den M w (.list ds) (.slice (some a) n c)) : VRel g M w (.nn ds) (.slice (some a) n c)
  | ptr {x b off} (h : g.φ x = some b) : VRel g M w (.ptr x off) (.pointer (some ⟨b, off, none⟩))
  | eptr {x b sz i fo} (h : g.φ x = some b) : VRel g M w (.eptr x sz i fo) (.pointer (some ⟨b, i * sz + fo, none⟩))
  | cptr {cs : List D} {b o : Nat} (h : ∀ (j : Nat) (c : D), cs[j]? = some c → ∃ u, w.cell? ⟨b, o + j, none⟩ = some u ∧ ¬ M b (o + j) ∧ Den M w c u) (hone : ∀ x ∈ cs, x.one = true) :
      VRel g M w (.cptr cs) (.pointer (some ⟨b, o, none⟩))
  | map {x b} (h : g.φ x = some b) : VRel g M w (.map x) (.map (some b))
  | fn {f} {fs cs : List PV} {vs us : List Value} (h1 : vs.length = fs.length) (h2 : us.length = cs.length) (h3 : ∀ (j : Nat) (p : PV), fs[j]? = some p → ∀ (v : Value), vs[j]? = some v → VRel g M w p v)
      (h4 : ∀ (j : Nat) (p : PV), cs[j]? = some p → ∀ (v : Value), us[j]? = some v → VRel g M w p v) : VRel g M w (.fn f fs cs) (.func f vs.toArray us.toArray)
  | agg {cs : List PV} {vs : List Value} (hl : vs.length = cs.length) (hone : ∀ v ∈ vs, v.oneCell' = true) (h : ∀ (j : Nat) (p : PV), cs[j]? = some p → ∀ (v : Value), vs[j]? = some v → VRel g M w p v) : VRel g M w (.agg cs) (.agg vs.toArray)
  | tup {cs : List PV} {vs : List Value} (hl : vs.length = cs.length) (h : ∀ (j : Nat) (p : PV), cs[j]? = some p → ∀ (v : Value), vs[j]? = some v → VRel g M w p v) : VRel g M w (.tup cs) (.tuple vs.toArray)
  | iter {x b} (h : g.φ x = some b) : VRel g M w (.iter x) (.pointer (some ⟨b, 0, none⟩))

/-- What is told of an activation: how many temporaries it has, what is known of some, the objects. -/
structure St where
  n : Nat
  slots : List (Nat × PV)
  objs : List (Nat × Ob)

structure Env where
  w0 : World
  imp : Nat → Prop
  av : Nat → Nat → Prop
  g0 : Gh
abbrev Env.B (E : Env) : Nat := E.w0.heap.size

def lookS (l : List (Nat × PV)) (x : Nat) : Option PV :=
  match l with
  | [] => none
  | (y, p) :: r => if y = x then some p else lookS r x
def St.sl (s : St) (x : Nat) : Option PV := lookS s.slots x
def look (l : List (Nat × Ob)) (x : Nat) : Option Ob :=
  match l with
  | [] => none
  | (y, ob) :: r => if y = x then some ob else look r x
def St.ob (s : St) (x : Nat) : Option Ob := look s.objs x

def mutAt (g : Gh) (x : Nat) : Ob → Nat → Nat → Prop
  | .tail sz, b, o => ∃ n c o0, g.τ x = some (.slice (some ⟨b, o0, none⟩) n c) ∧ n < c ∧ o0 + n * sz ≤ o
  | _, b, _ => g.φ x = some b
def MM (E : Env) (g : Gh) (s : St) : Nat → Nat → Prop := fun b o => E.av b o ∨ ∃ x ob, s.ob x = some ob ∧ mutAt g x ob b o

/-- A map's entries bear stamps that differ, all of the past. -/
def Stmp (ents : Array MapEntry) (clock : Nat) : Prop := (ents.toList.map (·.born)).Nodup ∧ ∀ e ∈ ents.toList, e.born < clock

inductive ORel (g : Gh) (M : Nat → Nat → Prop) (w : World) (x : Nat) : Ob → Prop
  | cells {cs : List PV} {b : Nat} {vs : Array Value} {elem : TypeId} (hφ : g.φ x = some b) (hb : w.heap[b]? = some (.cells vs elem (0, 0))) (hl : vs.size = cs.length)
      (h : ∀ (j : Nat) (p : PV), cs[j]? = some p → ∃ v, vs[j]? = some v ∧ v.oneCell' = true ∧ VRel g M w p v) : ORel g M w x (.cells cs)
  | arr {sz : Nat} {ds : List D} {b : Nat} {vs : Array Value} {elem : TypeId} (hφ : g.φ x = some b) (hτ : g.τ x = some (.int .i64 ((vs.size : Nat) : Int))) (hb : w.heap[b]? = some (.cells vs elem (0, 0))) (hl : ds.length * sz ≤ vs.size)
      (hsz : ∀ d ∈ ds, d.cells.length = sz) (hone : ∀ d ∈ ds, ∀ x ∈ d.cells, x.one = true)
      (h : ∀ (i : Nat) (d : D), ds[i]? = some d → ∀ (j : Nat) (y : D), d.cells[j]? = some y → ∃ u, vs[i * sz + j]? = some u ∧ Den M w y u) : ORel g M w x (.arr sz ds)
  | arr0 {sz : Nat} (hφ : g.φ x = none) : ORel g M w x (.arr sz [])
  | full {sz a n} (hτ : g.τ x = some (.slice a n n)) (hφ : g.φ x = none) : ORel g M w x (.tail sz)
  | tail {sz b o n c : Nat} {vs : Array Value} {elem : TypeId} (hτ : g.τ x = some (.slice (some ⟨b, o, none⟩) n c)) (hn : n ≤ c) (hφ : g.φ x = some b) (hb : w.heap[b]? = some (.cells vs elem (0, 0))) (hl : o + c * sz ≤ vs.size) :
      ORel g M w x (.tail sz)
  | map {dm : List (D × D)} {es : List (D × PV)} {b : Nat} {ents : Array MapEntry} {clock : Nat} (hφ : g.φ x = some b) (hb : w.heap[b]? = some (.map ents clock)) (hl : ents.size = (ments dm es).length) (hst : Stmp ents clock)
      (h : ∀ (j : Nat) (k : D) (p : PV), (ments dm es)[j]? = some (k, p) → ∃ e, ents[j]? = some e ∧ Den M w k e.key ∧ VRel g M w p e.val) : ORel g M w x (.map dm es)
  | siter {s : Bytes} {pos b : Nat} (hφ : g.φ x = some b) (hb : w.heap[b]? = some (.stringIter ⟨s.toArray⟩ pos)) : ORel g M w x (.siter s pos)
  | glob {n : Int} (hφ : g.φ x = none) (hc : w.cell? ⟨0, 0, none⟩ = some (.int .i64 n)) (hM : ¬ M 0 0) : ORel g M w x (.glob n)

/-- What is known of the package variables that are read. -/
def GokE (E : Env) : Prop := ∀ e ∈ gTab, e.1 < E.B ∧ ¬ E.imp e.1 ∧ (∀ o, ¬ E.av e.1 o) ∧ ∃ ob, E.w0.heap[e.1]? = some ob ∧ e.2 ob
structure Frm (E : Env) (w : World) : Prop where
  size : E.B ≤ w.heap.size
  os : w.os = E.w0.os
  tape : w.tape = E.w0.tape
  output : w.output = E.w0.output
  block : ∀ k, k < E.B → ¬ E.imp k → w.heap[k]? = E.w0.heap[k]?
  gok : GokE E

structure Rel (E : Env) (g : Gh) (s : St) (a : Act) (w : World) : Prop where
  size : a.tmps.size = s.n
  defers : a.defers = []
  slots : ∀ (i : Nat) (p : PV), s.sl i = some p → ∃ v, a.tmps[i]? = some v ∧ VRel g (MM E g s) w p v
  objs : ∀ x ob, s.ob x = some ob → ORel g (MM E g s) w x ob
  inj : ∀ x y ob ob' b, s.ob x = some ob → s.ob y = some ob' → g.φ x = some b → g.φ y = some b → x = y
  own : ∀ x ob b, s.ob x = some ob → g.φ x = some b → (E.B ≤ b ∨ E.imp b) ∧ b < w.heap.size
  fr : Frm E w
  av : ∀ b o, E.av b o → b < E.B ∧ ¬ E.imp b
  keep : ∀ x, 1000000 ≤ x → g.φ x = E.g0.φ x ∧ g.τ x = E.g0.τ x

/-! ### Worlds that agree outside of what may be written -/

/-- What stays: every cell outside of M. -/
def Same (M : Nat → Nat → Prop) (w w1 : World) : Prop := ∀ b o u, w.cell? ⟨b, o, none⟩ = some u → ¬ M b o → w1.cell? ⟨b, o, none⟩ = some u

theorem Same.refl (M : Nat → Nat → Prop) (w : World) : Same M w w := fun _ _ _ h _ => h
theorem Same.trans {M : Nat → Nat → Prop} {w w1 w2 : World} (h : Same M w w1) (k : Same M w1 w2) : Same M w w2 := fun b o u hu hm => k b o u (h b o u hu hm) hm

/-- Den goes over to a world that agrees outside of M, and to a set M1 that, where cells stood, lies in M. -/
theorem Den.mono {M M1 : Nat → Nat → Prop} {w w1 : World} (hs : Same M w w1) (hm : ∀ b o, (w.cell? ⟨b, o, none⟩).isSome = true → M1 b o → M b o) {d : D} {v : Value} (h : Den M w d v) : Den M1 w1 d v := by
  induction h with
  | bool b => exact .bool b
  | int k n => exact .int k n
  | str s => exact .str s
  | nilp => exact .nilp
  | nilm => exact .nilm
  | nilf => exact .nilf
  | nili => exact .nili
  | nil => exact .nil
  | empty a c => exact .empty a c
  | list ds b o c sz cell hc hsz hone h hw ih =>
    refine .list ds b o c sz cell hc hsz hone ih fun i j hi hj => ?_
    obtain ⟨h1, h2⟩ := hw i j hi hj
    exact ⟨hs _ _ _ h1 h2, fun hM => h2 (hm _ _ (by simp [h1]) hM)⟩
  | agg cs vs hl hone h ih => exact .agg cs vs hl hone ih

theorem VRel.mono {g g1 : Gh} {M M1 : Nat → Nat → Prop} {w w1 : World} (hs : Same M w w1) (hm : ∀ b o, (w.cell? ⟨b, o, none⟩).isSome = true → M1 b o → M b o)
    (hφ : g1.φ = g.φ) (hτ : g1.τ = g.τ) {p : PV} {v : Value} (h : VRel g M w p v) : VRel g1 M1 w1 p v := by
  induction h with
  | undef v => exact .undef v
  | d h => exact .d (h.mono hs hm)
  | nils => exact .nils
  | full h => exact .full (h.mono hs hm)
  | tail h ht => exact .tail (h.mono hs hm) (by rw [hτ]; exact ht)
  | arr h ht hc hN => exact .arr (by rw [hφ]; exact h) (by rw [hτ]; exact ht) hc hN
  | arr0 h => exact .arr0 (by rw [hφ]; exact h)
  | nn h => exact .nn (h.mono hs hm)
  | ptr h => exact .ptr (by rw [hφ]; exact h)
  | eptr h => exact .eptr (by rw [hφ]; exact h)
  | cptr h hone =>
    refine .cptr (fun j c hj => ?_) hone
    obtain ⟨u, h1, h2, h3⟩ := h j c hj
    exact ⟨u, hs _ _ _ h1 h2, fun hM => h2 (hm _ _ (by simp [h1]) hM), h3.mono hs hm⟩
  | map h => exact .map (by rw [hφ]; exact h)
  | fn h1 h2 _ _ i1 i2 => exact .fn h1 h2 i1 i2
  | agg hl ho _ ih => exact .agg hl ho ih
  | tup hl _ ih => exact .tup hl ih
  | iter h => exact .iter (by rw [hφ]; exact h)

/-- A value that an element of data denotes is one cell. -/
theorem Den.one {M : Nat → Nat → Prop} {w : World} {d : D} {v : Value} (h : Den M w d v) (ho : d.one = true) : v.oneCell' = true := by
  cases h <;> first | rfl | simp [D.one] at ho

/-- What names a value bears. -/
def PV.has (x : Nat) : PV → Bool
  | .tl _ (some y) => y == x
  | .arr y _ _ _ => y == x
  | .ptr y _ => y == x
  | .eptr y _ _ _ => y == x
  | .map y => y == x
  | .iter y => y == x
  | .fn _ fs cs => anyP fs || anyP cs
  | .agg cs => anyP cs
  | .tup cs => anyP cs
  | _ => false
where
  anyP : List PV → Bool
    | [] => false
    | p :: r => PV.has x p || anyP r

theorem PV.anyP_false {x : Nat} : ∀ {l : List PV}, PV.has.anyP x l = false → ∀ (j : Nat) (p : PV), l[j]? = some p → PV.has x p = false
  | [], _, _, _, h => by simp at h
  | q :: r, hh, j, p, h => by
    simp only [PV.has.anyP, Bool.or_eq_false_iff] at hh
    cases j with
    | zero => simp at h; rw [← h]; exact hh.1
    | succ j => exact PV.anyP_false hh.2 j p (by simpa using h)

def Ob.has (x : Nat) : Ob → Bool
  | .cells cs => PV.has.anyP x cs
  | .map _ es => es.any fun e => PV.has x e.2
  | .miter m _ => m == x
  | _ => false

theorem ments_has {x : Nat} {dm : List (D × D)} {es : List (D × PV)} {e : D × PV} (h : e ∈ ments dm es) (hx : e.2.has x = true) : Ob.has x (.map dm es) = true := by
  simp only [ments, List.mem_append, List.mem_map] at h
  simp only [Ob.has, List.any_eq_true]
  rcases h with ⟨d, _, rfl⟩ | h
  · cases hx
  · exact ⟨e, h, hx⟩

def St.fresh (s : St) (x : Nat) : Bool := s.slots.all (fun e => !(e.2.has x)) && s.objs.all fun e => e.1 != x && !(Ob.has x e.2)

/-- A new name: what is told of it. -/
def Gh.put (g : Gh) (x : Nat) (b : Option Nat) (v : Option Value) : Gh := ⟨fun y => if y = x then b else g.φ y, fun y => if y = x then v else g.τ y⟩

theorem VRel.put {g : Gh} {M : Nat → Nat → Prop} {w : World} {p : PV} {v : Value} (h : VRel g M w p v) {x : Nat} (hx : p.has x = false) (b : Option Nat) (u : Option Value) : VRel (g.put x b u) M w p v := by
  induction h with
  | undef v => exact .undef v
  | d h => exact .d h
  | nils => exact .nils
  | full h => exact .full h
  | tail h ht =>
    simp only [PV.has, beq_eq_false_iff_ne, ne_eq] at hx
    exact .tail h (by simp only [Gh.put, if_neg hx]; exact ht)
  | arr h ht hc hN => simp only [PV.has, beq_eq_false_iff_ne, ne_eq] at hx; exact .arr (by simp only [Gh.put, if_neg hx]; exact h) (by simp only [Gh.put, if_neg hx]; exact ht) hc hN
  | arr0 h => simp only [PV.has, beq_eq_false_iff_ne, ne_eq] at hx; exact .arr0 (by simp only [Gh.put, if_neg hx]; exact h)
  | nn h => exact .nn h
  | ptr h => simp only [PV.has, beq_eq_false_iff_ne, ne_eq] at hx; exact .ptr (by simp only [Gh.put, if_neg hx]; exact h)
  | eptr h => simp only [PV.has, beq_eq_false_iff_ne, ne_eq] at hx; exact .eptr (by simp only [Gh.put, if_neg hx]; exact h)
  | cptr h hone => exact .cptr h hone
  | map h => simp only [PV.has, beq_eq_false_iff_ne, ne_eq] at hx; exact .map (by simp only [Gh.put, if_neg hx]; exact h)
  | fn h1 h2 _ _ i1 i2 =>
    simp only [PV.has, Bool.or_eq_false_iff] at hx
    exact .fn h1 h2 (fun j p hj v hv => i1 j p hj v hv (PV.anyP_false hx.1 j p hj)) (fun j p hj v hv => i2 j p hj v hv (PV.anyP_false hx.2 j p hj))
  | agg hl ho _ ih => simp only [PV.has] at hx; exact .agg hl ho fun j p hj v hv => ih j p hj v hv (PV.anyP_false hx j p hj)
  | tup hl _ ih => simp only [PV.has] at hx; exact .tup hl fun j p hj v hv => ih j p hj v hv (PV.anyP_false hx j p hj)
  | iter h => simp only [PV.has, beq_eq_false_iff_ne, ne_eq] at hx; exact .iter (by simp only [Gh.put, if_neg hx]; exact h)

end Go.Pm

namespace Go.Pm

/-! ### Operands -/
def constCell : Value → PV
  | .bool b => .d (.bool b)
  | .int k n => .d (.int k n)
  | .string s => .d (.str s.data.toList)
  | .pointer none => .d .nilp
  | .map none => .d .nilm
  | .nilFunc => .d .nilf
  | .nilIface => .d .nili
  | .slice none 0 0 => .nils
  | _ => .undef
def toD : PV → Option D
  | .d x => some x
  | .nils => some (.list [])
  | .nn ds => some (.list ds)
  | .tl ds _ => some (.list ds)
  | _ => none
def toDs : List PV → Option (List D)
  | [] => some []
  | p :: r => match toD p, toDs r with
    | some x, some xs => if x.one then some (x :: xs) else none
    | _, _ => none
/-- The cells of a value, put together. -/
def joinP (ps : List PV) : PV := match toDs ps with
  | some xs => .d (.agg xs)
  | none => .agg ps
def constPV : Value → PV
  | .agg cs => joinP (cs.toList.map constCell)
  | v => constCell v
def St.val (s : St) : Operand → PV
  | .tmp t => (s.sl t).getD .undef
  | .const v => constPV v
  | .func f => .fn (.func f) [] []
  | .global _ => .undef

def setOb (l : List (Nat × Ob)) (x : Nat) (r : Option Ob) : List (Nat × Ob) :=
  match r with
  | some ob => match l with
    | [] => [(x, ob)]
    | (y, o) :: t => if y = x then (x, ob) :: t else (y, o) :: setOb t x (some ob)
  | none => l.filter fun e => e.1 != x

theorem look_filter (x y : Nat) : ∀ l : List (Nat × Ob), look (l.filter fun e => e.1 != x) y = if y = x then none else look l y
  | [] => by simp [look]
  | (z, o) :: t => by
    by_cases hz : z = x
    · subst hz
      simp only [List.filter_cons, bne_self_eq_false, Bool.false_eq_true, if_false, look_filter z y t, look]
      by_cases hy : y = z
      · simp [hy]
      · simp [hy, Ne.symm hy]
    · have h1 : (z != x) = true := by simpa using hz
      simp only [List.filter_cons, h1, if_true, look, look_filter x y t]
      by_cases hy : z = y
      · subst hy; simp [hz]
      · simp [hy]
theorem look_setOb (x y : Nat) (r : Option Ob) : ∀ l : List (Nat × Ob), look (setOb l x r) y = if y = x then r else look l y := by
  cases r with
  | none => intro l; simp only [setOb]; exact look_filter x y l
  | some ob =>
    intro l
    induction l with
    | nil => simp only [setOb, look]; by_cases h : x = y <;> simp [h, eq_comm]
    | cons e t ih =>
      obtain ⟨z, o⟩ := e
      simp only [setOb]
      by_cases hz : z = x
      · subst hz
        simp only [if_true, look]
        by_cases hy : z = y
        · simp [hy]
        · simp [hy, Ne.symm hy]
      · simp only [if_neg hz, look, ih]
        by_cases hy : z = y
        · subst hy; simp [hz]
        · simp [hy]

/-- What an operation turns. -/
structure Eff where
  dst : Option Tmp
  val : PV
  foot : List Nat := []
  news : List Nat := []
  upd : List (Nat × Option Ob) := []

def updOb : List (Nat × Ob) → List (Nat × Option Ob) → List (Nat × Ob)
  | l, [] => l
  | l, (x, r) :: t => updOb (setOb l x r) t
def St.put (s : St) (dst : Option Tmp) (p : PV) : St := match dst with
  | some d => ⟨s.n, (d, p) :: s.slots, s.objs⟩
  | none => s
def St.app (s : St) (e : Eff) : St := ⟨s.n, (s.put e.dst e.val).slots, updOb s.objs e.upd⟩
def updLook : List (Nat × Option Ob) → Nat → Option (Option Ob)
  | [], _ => none
  | (x, r) :: t, y => match updLook t y with
    | some q => some q
    | none => if y = x then some r else none
theorem look_updOb (y : Nat) : ∀ (u : List (Nat × Option Ob)) (l : List (Nat × Ob)), look (updOb l u) y = (updLook u y).getD (look l y)
  | [], l => rfl
  | (x, r) :: t, l => by
    simp only [updOb, updLook, look_updOb y t, look_setOb]
    cases h : updLook t y with
    | some q => simp
    | none => by_cases hy : y = x <;> simp [hy]
theorem ob_app (s : St) (e : Eff) (y : Nat) : (s.app e).ob y = (updLook e.upd y).getD (s.ob y) := look_updOb y e.upd s.objs
theorem updLook_none {y : Nat} : ∀ {u : List (Nat × Option Ob)}, (∀ e ∈ u, e.1 ≠ y) → updLook u y = none
  | [], _ => rfl
  | (x, r) :: t, h => by
    simp only [updLook, updLook_none (fun e he => h e (List.mem_cons_of_mem _ he))]
    have := h (x, r) List.mem_cons_self
    simp only at this
    rw [if_neg (fun e => this e.symm)]
theorem ob_app_none {s : St} {e : Eff} {y : Nat} (h : ∀ u ∈ e.upd, u.1 ≠ y) : (s.app e).ob y = s.ob y := by rw [ob_app, updLook_none h]; rfl

theorem sl_app_ne {s : St} {e : Eff} {t : Nat} (h : e.dst ≠ some t) : (s.app e).sl t = s.sl t := by
  show lookS (s.put e.dst e.val).slots t = lookS s.slots t
  unfold St.put
  cases hd : e.dst with
  | none => rfl
  | some d =>
    have : d ≠ t := fun he => h (by rw [hd, he])
    simp only [lookS, if_neg this]
theorem sl_app_eq {s : St} {e : Eff} {t : Nat} (h : e.dst = some t) : (s.app e).sl t = some e.val := by
  show lookS (s.put e.dst e.val).slots t = _
  unfold St.put
  rw [h]
  simp only [lookS, if_true]
theorem n_app (s : St) (e : Eff) : (s.app e).n = s.n := rfl

/-- A name that is borne nowhere. -/
structure Fresh (s : St) (x : Nat) : Prop where
  slots : ∀ (i : Nat) (p : PV), s.sl i = some p → p.has x = false
  ob : s.ob x = none
  objs : ∀ y ob, s.ob y = some ob → ob.has x = false
theorem look_mem {x : Nat} {ob : Ob} : ∀ {l : List (Nat × Ob)}, look l x = some ob → (x, ob) ∈ l
  | (y, o) :: t, h => by
    simp only [look] at h
    by_cases hy : y = x
    · rw [if_pos hy] at h; subst hy; injection h with h; subst h; exact List.mem_cons_self
    · rw [if_neg hy] at h; exact List.mem_cons_of_mem _ (look_mem h)
theorem lookS_mem {x : Nat} {p : PV} : ∀ {l : List (Nat × PV)}, lookS l x = some p → (x, p) ∈ l
  | (y, o) :: t, h => by
    simp only [lookS] at h
    by_cases hy : y = x
    · rw [if_pos hy] at h; subst hy; injection h with h; subst h; exact List.mem_cons_self
    · rw [if_neg hy] at h; exact List.mem_cons_of_mem _ (lookS_mem h)
theorem fresh_of {s : St} {x : Nat} (h : s.fresh x = true) : Fresh s x := by
  simp only [St.fresh, Bool.and_eq_true, Bool.not_eq_true', List.all_eq_true, bne_iff_ne] at h
  refine ⟨fun i p hi => h.1 _ (lookS_mem hi), ?_, fun y ob hy => (h.2 _ (look_mem hy)).2⟩
  cases ho : s.ob x with
  | none => rfl
  | some ob => exact absurd rfl (h.2 _ (look_mem ho)).1

def mentE (e : Eff) (x : Nat) : Bool := e.val.has x || e.upd.any fun u => u.1 == x || (match u.2 with | some ob => ob.has x | none => false)

theorem updLook_mem {y : Nat} {r : Option Ob} : ∀ {u : List (Nat × Option Ob)}, updLook u y = some r → (y, r) ∈ u
  | (x, q) :: t, h => by
    simp only [updLook] at h
    cases ht : updLook t y with
    | some q' => rw [ht] at h; simp only at h; injection h with h; subst h; exact List.mem_cons_of_mem _ (updLook_mem ht)
    | none =>
      rw [ht] at h
      by_cases hy : y = x
      · simp only [if_pos hy] at h; injection h with h; subst h; subst hy; exact List.mem_cons_self
      · simp [hy] at h
theorem Fresh.app {s : St} {x : Nat} (h : Fresh s x) {e : Eff} (he : mentE e x = false) : Fresh (s.app e) x := by
  simp only [mentE, Bool.or_eq_false_iff, List.any_eq_false] at he
  have hu : ∀ y r, updLook e.upd y = some r → (y == x) = false ∧ ∀ ob, r = some ob → ob.has x = false := by
    intro y r hy
    have := he.2 _ (updLook_mem hy)
    simp only [Bool.not_eq_true, Bool.or_eq_false_iff] at this
    exact ⟨this.1, fun ob ho => by subst ho; exact this.2⟩
  refine ⟨fun i p hi => ?_, ?_, fun y ob hy => ?_⟩
  · by_cases hd : e.dst = some i
    · rw [sl_app_eq hd] at hi
      injection hi with hi; rw [← hi]; exact he.1
    · rw [sl_app_ne hd] at hi; exact h.slots i p hi
  · rw [ob_app]
    cases hx : updLook e.upd x with
    | none => exact h.ob
    | some r => have := (hu x r hx).1; simp at this
  · rw [ob_app] at hy
    cases hx : updLook e.upd y with
    | none => rw [hx] at hy; exact h.objs y ob hy
    | some r => rw [hx] at hy; exact (hu y r hx).2 ob hy

/-! ### One operation -/
section
variable (P : Program) (ops : Array Oper)

def Agree (o : Oper) (s s1 : St) : Prop := s1.n = s.n ∧ ∀ t ∈ o.looksAt ops, s1.sl t = s.sl t

/-- From every machine that stands as s1 tells, the operation (or its being passed over) comes to one that stands as s2 tells. -/
def Pres (o : Oper) (s1 s2 : St) : Prop := ∀ E g a w, Rel E g s1 a w → ∀ (K : Act → World → Prop) (Qx : Exit → Act → World → Prop), (∀ a' w' g', Rel E g' s2 a' w' → K a' w') →
  if Region.wanted o (yielded ops a.tmps) then o.wp P a w K Qx else K (a.put o.dst undef) w

def dB (o : Oper) (n : Nat) : Bool := match o.dst with
  | some d => decide (d < n)
  | none => true
def Step (o : Oper) (s : St) (e : Eff) : Prop := dB o s.n = true ∧ ∀ s1, Agree ops o s s1 → (∀ x ∈ e.foot, s1.ob x = s.ob x) → (∀ x ∈ e.news, Fresh s1 x) → Pres P ops o s1 (s1.app e)

def ordered (i j : Nat) : Bool := ((ops[i]?).map fun o => o.after.any fun e => Region.binds .any e && e.on == j).getD false

def disjT (d : Option Tmp) (l : List Tmp) : Bool := match d with
  | some t => !l.contains t
  | none => true
def names (e : Eff) : List Nat := e.foot ++ e.news ++ e.upd.map (·.1)
def apartE (oi oj : Oper) (ei ej : Eff) : Bool :=
  disjT ej.dst (oi.looksAt ops) && disjT ei.dst (oj.looksAt ops) && (match ei.dst with | some t => ej.dst != some t | none => true) &&
  (ej.upd.all fun u => !(names ei).contains u.1) && (ei.upd.all fun u => !(names ej).contains u.1) &&
  (ei.news.all fun x => !mentE ej x) && (ej.news.all fun x => !mentE ei x)

/-- Of each two operations the later waits for the earlier, or they are apart; whom an operation waits for stands ahead of it. -/
def ordOK (s0 : St) (es : List Eff) : Bool :=
  es.length == ops.size &&
  (ops.toList.zipIdx.all fun (o, i) => (o.dst == (es[i]?).bind (·.dst)) && o.after.all fun e => !Region.binds .any e || decide (e.on < i)) &&
  (es.all fun e => e.news.all fun x => s0.fresh x) &&
  (List.range ops.size).all fun i => (List.range i).all fun j => match ops[i]?, ops[j]?, es[i]?, es[j]? with
    | some oi, some oj, some ei, some ej => (ei.news.all fun x => !mentE ej x) && (ordered ops i j || apartE ops oi oj ei ej)
    | _, _, _, _ => false
end

/-! ### All orders -/
def runS (S : Nat → Bool) : List Eff → Nat → St → St
  | [], _, s => s
  | e :: es, k, s => runS S es (k + 1) (if S k then s.app e else s)

theorem runS_n (S : Nat → Bool) : ∀ (es : List Eff) (k : Nat) (s : St), (runS S es k s).n = s.n
  | [], _, _ => rfl
  | e :: es, k, s => by
    simp only [runS]; rw [runS_n S es]; split
    · rfl
    · rfl

theorem slot_runS {S T : Nat → Bool} {t : Nat} : ∀ (es : List Eff) (k : Nat) (s s' : St), (∀ (i : Nat) (e : Eff), es[i]? = some e → S (k + i) ≠ T (k + i) → e.dst ≠ some t) →
    s.sl t = s'.sl t → (runS S es k s).sl t = (runS T es k s').sl t
  | [], _, _, _, _, h => h
  | e :: es, k, s, s', hd, h => by
    simp only [runS]
    refine slot_runS es (k + 1) _ _ (fun i e' he hne => hd (i + 1) e' (by simpa using he) (by rw [show k + (i + 1) = k + 1 + i from by omega]; exact hne)) ?_
    have h0 := hd 0 e (by simp)
    simp only [Nat.add_zero] at h0
    by_cases hS : S k = true <;> by_cases hT : T k = true
    · rw [if_pos hS, if_pos hT]
      by_cases hdt : e.dst = some t
      · rw [sl_app_eq hdt, sl_app_eq hdt]
      · rw [sl_app_ne hdt, sl_app_ne hdt, h]
    · rw [if_pos hS, if_neg hT, sl_app_ne (h0 (by simp [hS, hT])), h]
    · rw [if_neg hS, if_pos hT, sl_app_ne (h0 (by simp [hS, hT])), h]
    · rw [if_neg hS, if_neg hT, h]

theorem ob_runS {S T : Nat → Bool} {x : Nat} : ∀ (es : List Eff) (k : Nat) (s s' : St), (∀ (i : Nat) (e : Eff), es[i]? = some e → S (k + i) ≠ T (k + i) → ∀ u ∈ e.upd, u.1 ≠ x) →
    s.ob x = s'.ob x → (runS S es k s).ob x = (runS T es k s').ob x
  | [], _, _, _, _, h => h
  | e :: es, k, s, s', hd, h => by
    simp only [runS]
    refine ob_runS es (k + 1) _ _ (fun i e' he hne => hd (i + 1) e' (by simpa using he) (by rw [show k + (i + 1) = k + 1 + i from by omega]; exact hne)) ?_
    have h0 := hd 0 e (by simp)
    simp only [Nat.add_zero] at h0
    by_cases hS : S k = true <;> by_cases hT : T k = true
    · rw [if_pos hS, if_pos hT, ob_app, ob_app, h]
    · rw [if_pos hS, if_neg hT, ob_app_none (h0 (by simp [hS, hT])), h]
    · rw [if_neg hS, if_pos hT, ob_app_none (h0 (by simp [hS, hT])), h]
    · rw [if_neg hS, if_neg hT, h]

theorem fresh_runS {S : Nat → Bool} {x : Nat} : ∀ (es : List Eff) (k : Nat) (s : St), (∀ (i : Nat) (e : Eff), es[i]? = some e → S (k + i) = true → mentE e x = false) → Fresh s x → Fresh (runS S es k s) x
  | [], _, _, _, h => h
  | e :: es, k, s, hd, h => by
    simp only [runS]
    refine fresh_runS es (k + 1) _ (fun i e' he hs => hd (i + 1) e' (by simpa using he) (by rw [show k + (i + 1) = k + 1 + i from by omega]; exact hs)) ?_
    split
    · rename_i hS; exact h.app (hd 0 e (by simp) hS)
    · exact h

theorem runS_append (S : Nat → Bool) : ∀ (es fs : List Eff) (k : Nat) (s : St), runS S (es ++ fs) k s = runS S fs (k + es.length) (runS S es k s)
  | [], _, _, _ => rfl
  | e :: es, fs, k, s => by
    simp only [List.cons_append, runS, List.length_cons]
    rw [runS_append S es fs, show k + 1 + es.length = k + (es.length + 1) from by omega]

/-- Two states that tell the same. -/
structure Eqv (s s' : St) : Prop where
  n : s.n = s'.n
  slots : ∀ t, s.sl t = s'.sl t
  obs : ∀ x, s.ob x = s'.ob x

theorem MM_eqv {E : Env} {g : Gh} {s s' : St} (h : ∀ x, s.ob x = s'.ob x) : MM E g s = MM E g s' := by
  unfold MM
  funext b o
  simp only [h]

theorem Rel.eqv {E : Env} {g : Gh} {s s' : St} {a : Act} {w : World} (h : Rel E g s a w) (e : Eqv s s') : Rel E g s' a w := by
  have hM := MM_eqv (E := E) (g := g) e.obs
  refine ⟨by rw [← e.n]; exact h.size, h.defers, ?_, ?_, ?_, ?_, h.fr, h.av, h.keep⟩
  · intro i p hi; rw [← hM]; exact h.slots i p (by rw [e.slots]; exact hi)
  · intro x ob hx; rw [← hM]; exact h.objs x ob (by rw [e.obs]; exact hx)
  · intro x y ob ob' b h1 h2; exact h.inj x y ob ob' b (by rw [e.obs]; exact h1) (by rw [e.obs]; exact h2)
  · intro x ob b h1; exact h.own x ob b (by rw [e.obs]; exact h1)

section
variable {P : Program} {ops : Array Oper} {s0 : St} {es : List Eff}

theorem ord_pair (h : ordOK ops s0 es = true) {i j : Nat} {oi oj : Oper} {ei ej : Eff} (hi : ops[i]? = some oi) (hj : ops[j]? = some oj) (he : es[i]? = some ei) (hf : es[j]? = some ej) (hij : j < i)
    : (∀ x ∈ ei.news, mentE ej x = false) ∧ (ordered ops i j = false → apartE ops oi oj ei ej = true) := by
  simp only [ordOK, Bool.and_eq_true, List.all_eq_true, List.mem_range] at h
  have := h.2 i (Array.getElem?_eq_some_iff.1 hi).1 j hij
  simp only [hi, hj, he, hf, Bool.and_eq_true, List.all_eq_true, Bool.not_eq_true', Bool.or_eq_true] at this
  exact ⟨this.1, fun hn => this.2.resolve_left (by simp [hn])⟩

theorem disjT_spec {d : Option Tmp} {l : List Tmp} (h : disjT d l = true) : ∀ t ∈ l, d ≠ some t := by
  intro t ht hd
  subst hd
  simp [disjT] at h
  exact h ht

structure ApartE (ops : Array Oper) (oi oj : Oper) (ei ej : Eff) : Prop where
  t1 : ∀ t ∈ oi.looksAt ops, ej.dst ≠ some t
  t2 : ∀ t ∈ oj.looksAt ops, ei.dst ≠ some t
  t3 : ∀ t, ei.dst = some t → ej.dst ≠ some t
  n1 : ∀ u ∈ ej.upd, ∀ x ∈ names ei, u.1 ≠ x
  n2 : ∀ u ∈ ei.upd, ∀ x ∈ names ej, u.1 ≠ x
  f1 : ∀ x ∈ ei.news, mentE ej x = false
  f2 : ∀ x ∈ ej.news, mentE ei x = false
theorem apartE_spec {oi oj : Oper} {ei ej : Eff} (h : apartE ops oi oj ei ej = true) : ApartE ops oi oj ei ej := by
  simp only [apartE, Bool.and_eq_true, List.all_eq_true, Bool.not_eq_true'] at h
  obtain ⟨⟨⟨⟨⟨⟨h1, h2⟩, h3⟩, h4⟩, h5⟩, h6⟩, h7⟩ := h
  refine ⟨disjT_spec h1, disjT_spec h2, fun t ht he => ?_, fun u hu x hx e => ?_, fun u hu x hx e => ?_, fun x hx => h6 x hx, fun x hx => h7 x hx⟩
  · rw [ht] at h3; simp only [bne_iff_ne] at h3; exact h3 he
  · have := h4 u hu; subst e; simp at this; exact this hx
  · have := h5 u hu; subst e; simp at this; exact this hx
theorem ApartE.symm {oi oj : Oper} {ei ej : Eff} (h : ApartE ops oi oj ei ej) : ApartE ops oj oi ej ei :=
  ⟨h.t2, h.t1, fun t ht he => h.t3 t he ht, h.n2, h.n1, h.f2, h.f1⟩

/-- A set of operations that have come up: whom they wait for has come up too. -/
def Closed (ops : Array Oper) (S : Nat → Bool) : Prop := ∀ i j, S i = true → ordered ops i j = true → S j = true

theorem apart_of (h : ordOK ops s0 es = true) {S : Nat → Bool} (hc : Closed ops S) {i j : Nat} {oi oj : Oper} {ei ej : Eff} (hi : ops[i]? = some oi) (hj : ops[j]? = some oj) (he : es[i]? = some ei) (hf : es[j]? = some ej)
    (hSi : S i = false) (hpre : ∀ k, ordered ops i k = true → S k = true) (hne : j ≠ i) (hcase : (S j = true ∧ i < j) ∨ (S j = false ∧ j < i)) : ApartE ops oi oj ei ej := by
  rcases hcase with ⟨hSj, hij⟩ | ⟨hSj, hij⟩
  · have hn : ordered ops j i = false := by
      cases h' : ordered ops j i with
      | false => rfl
      | true => rw [hc j i hSj h'] at hSi; cases hSi
    exact (apartE_spec ((ord_pair h hj hi hf he hij).2 hn)).symm
  · have hn : ordered ops i j = false := by
      cases h' : ordered ops i j with
      | false => rfl
      | true => rw [hpre j h'] at hSj; cases hSj
    exact apartE_spec ((ord_pair h hi hj he hf hij).2 hn)

/-- In whatever order: an operation that comes up goes on as it does in the text's order. -/
theorem step_any (h : ordOK ops s0 es = true) (hst : ∀ (i : Nat) (o : Oper) (e : Eff), ops[i]? = some o → es[i]? = some e → Step P ops o (runS (fun k => decide (k < i)) es 0 s0) e)
    {S : Nat → Bool} (hc : Closed ops S) {i : Nat} {o : Oper} {e : Eff} (hi : ops[i]? = some o) (he : es[i]? = some e) (hSi : S i = false) (hpre : ∀ k, ordered ops i k = true → S k = true) :
    Pres P ops o (runS S es 0 s0) ((runS S es 0 s0).app e) := by
  have hlen : es.length = ops.size := by simp only [ordOK, Bool.and_eq_true, beq_iff_eq] at h; exact h.1.1.1
  have hop : ∀ {j : Nat} {ej : Eff}, es[j]? = some ej → ∃ oj, ops[j]? = some oj := by
    intro j ej hj
    have := (List.getElem?_eq_some_iff.1 hj).1
    exact ⟨ops[j]'(by omega), Array.getElem?_eq_getElem _⟩
  have key : ∀ {j : Nat} {ej : Eff}, es[j]? = some ej → S j ≠ decide (j < i) → ∃ oj, ApartE ops o oj e ej := by
    intro j ej hj hne
    obtain ⟨oj, hoj⟩ := hop hj
    have hji : j ≠ i := by rintro rfl; simp [hSi] at hne
    refine ⟨oj, apart_of h hc hi hoj he hj hSi hpre hji ?_⟩
    by_cases hlt : j < i
    · right; refine ⟨?_, hlt⟩; simpa [hlt] using hne
    · left; refine ⟨?_, by omega⟩; simpa [hlt] using hne
  refine (hst i o e hi he).2 _ ⟨by rw [runS_n, runS_n], fun t ht => ?_⟩ (fun x hx => ?_) (fun x hx => ?_)
  · refine slot_runS es 0 _ _ (fun j ej hj hne => ?_) rfl
    rw [Nat.zero_add] at hne
    obtain ⟨oj, ha⟩ := key hj hne
    exact ha.t1 t ht
  · refine ob_runS es 0 _ _ (fun j ej hj hne u hu => ?_) rfl
    rw [Nat.zero_add] at hne
    obtain ⟨oj, ha⟩ := key hj hne
    exact ha.n1 u hu x (by simp [names, hx])
  · have h0 : Fresh s0 x := by
      simp only [ordOK, Bool.and_eq_true, List.all_eq_true] at h
      exact fresh_of (h.1.2 e (List.mem_of_getElem? he) x hx)
    refine fresh_runS es 0 _ (fun j ej hj hS => ?_) h0
    rw [Nat.zero_add] at hS
    have hji : j ≠ i := by rintro rfl; rw [hSi] at hS; cases hS
    obtain ⟨oj, hoj⟩ := hop hj
    rcases Nat.lt_or_gt_of_ne hji with hlt | hlt
    · exact (ord_pair h hi hoj he hj hlt).1 x hx
    · exact (apart_of h hc hi hoj he hj hSi hpre hji (.inl ⟨hS, hlt⟩)).f1 x hx
end
end Go.Pm

namespace Go.Pm

theorem runS_none : ∀ (es : List Eff) (k : Nat) (s : St), runS (fun _ => false) es k s = s
  | [], _, _ => rfl
  | e :: es, k, s => by simp only [runS, Bool.false_eq_true, if_false]; exact runS_none es (k + 1) s
theorem runS_all : ∀ (es : List Eff) (k : Nat) (s : St), runS (fun _ => true) es k s = es.foldl St.app s
  | [], _, _ => rfl
  | e :: es, k, s => by simp only [runS, if_true, List.foldl_cons]; exact runS_all es (k + 1) _
theorem runS_congr {S T : Nat → Bool} : ∀ (es : List Eff) (k : Nat) (s : St), (∀ i, i < es.length → S (k + i) = T (k + i)) → runS S es k s = runS T es k s
  | [], _, _, _ => rfl
  | e :: es, k, s, h => by
    have h0 := h 0 (by simp)
    simp only [Nat.add_zero] at h0
    simp only [runS, h0]
    exact runS_congr es (k + 1) _ fun i hi => by have := h (i + 1) (by simpa using hi); rw [show k + 1 + i = k + (i + 1) from by omega]; exact this

section
variable {P : Program} {ops : Array Oper} {s0 : St} {es : List Eff}

theorem runS_step (h : ordOK ops s0 es = true) {S : Nat → Bool} (hc : Closed ops S) {i : Nat} {o : Oper} {e : Eff} (hi : ops[i]? = some o) (he : es[i]? = some e) (hSi : S i = false) (hpre : ∀ k, ordered ops i k = true → S k = true) :
    Eqv ((runS S es 0 s0).app e) (runS (fun k => S k || k == i) es 0 s0) := by
  have hlen : es.length = ops.size := by simp only [ordOK, Bool.and_eq_true, beq_iff_eq] at h; exact h.1.1.1
  have hil : i < es.length := (List.getElem?_eq_some_iff.1 he).1
  have later : ∀ {j : Nat} {ej : Eff}, es[j]? = some ej → S j = true → i < j → ∃ oj, ApartE ops o oj e ej := by
    intro j ej hj hS hlt
    have hjl := (List.getElem?_eq_some_iff.1 hj).1
    exact ⟨ops[j]'(by omega), apart_of h hc hi (Array.getElem?_eq_getElem _) he hj hSi hpre (by omega) (.inl ⟨hS, hlt⟩)⟩
  have hcut : es = es.take i ++ (e :: es.drop (i + 1)) := by
    have h1 : es.drop i = e :: es.drop (i + 1) := by
      rw [List.drop_eq_getElem_cons hil]
      congr 1
      rw [List.getElem?_eq_getElem hil] at he
      exact Option.some.inj he
    rw [← h1, List.take_append_drop]
  have hR : runS (fun k => S k || k == i) es 0 s0 = runS (fun k => S k || k == i) (es.drop (i + 1)) (i + 1) ((runS (fun k => S k || k == i) (es.take i) 0 s0).app e) := by
    conv => lhs; rw [hcut]
    rw [runS_append]
    have ht : (es.take i).length = i := by rw [List.length_take]; omega
    simp only [ht, Nat.zero_add, runS, beq_self_eq_true, Bool.or_true, if_true]
  have drop_at : ∀ (j : Nat) (ej : Eff), (es.drop (i + 1))[j]? = some ej → es[i + 1 + j]? = some ej := fun j ej hj => by simpa [List.getElem?_drop] using hj
  refine ⟨by rw [n_app, runS_n, runS_n], fun t => ?_, fun x => ?_⟩
  · by_cases hd : e.dst = some t
    · rw [hR, sl_app_eq hd]
      have := slot_runS (S := fun k => S k || k == i) (T := fun _ => false) (t := t) (es.drop (i + 1)) (i + 1) ((runS (fun k => S k || k == i) (es.take i) 0 s0).app e) ((runS (fun k => S k || k == i) (es.take i) 0 s0).app e)
        (fun j ej hj hne => ?_) rfl
      · rw [runS_none] at this
        rw [this, sl_app_eq hd]
      · have hS : S (i + 1 + j) = true := by
          have hji : (i + 1 + j == i) = false := by simp; omega
          simpa [hji] using hne
        obtain ⟨oj, ha⟩ := later (drop_at j ej hj) hS (by omega)
        exact ha.t3 t hd
    · rw [sl_app_ne hd]
      refine slot_runS es 0 s0 s0 (fun j ej hj hne => ?_) rfl
      have hji : j = i := by
        rw [Nat.zero_add] at hne
        by_cases hji : j = i
        · exact hji
        · have : (j == i) = false := by simpa using hji
          simp [this] at hne
      subst hji
      rw [he] at hj
      injection hj with hj
      rw [← hj]; exact hd
  · rw [ob_app]
    cases hx : updLook e.upd x with
    | some r =>
      have hxm : x ∈ names e := by
        have := updLook_mem hx
        simp only [names, List.mem_append, List.mem_map]
        exact .inr ⟨_, this, rfl⟩
      rw [hR]
      have := ob_runS (S := fun k => S k || k == i) (T := fun _ => false) (x := x) (es.drop (i + 1)) (i + 1) ((runS (fun k => S k || k == i) (es.take i) 0 s0).app e) ((runS (fun k => S k || k == i) (es.take i) 0 s0).app e)
        (fun j ej hj hne u hu => ?_) rfl
      · rw [runS_none] at this
        rw [this, ob_app, hx]; rfl
      · have hS : S (i + 1 + j) = true := by
          have hji : (i + 1 + j == i) = false := by simp; omega
          simpa [hji] using hne
        obtain ⟨oj, ha⟩ := later (drop_at j ej hj) hS (by omega)
        exact ha.n1 u hu x hxm
    | none =>
      show (runS S es 0 s0).ob x = _
      refine ob_runS es 0 s0 s0 (fun j ej hj hne u hu => ?_) rfl
      have hji : j = i := by
        rw [Nat.zero_add] at hne
        by_cases hji : j = i
        · exact hji
        · have : (j == i) = false := by simpa using hji
          simp [this] at hne
      subst hji
      rw [he] at hj
      injection hj with hj
      subst hj
      intro hux
      subst hux
      have : updLook e.upd u.1 ≠ none := by
        clear hx he hcut hR
        generalize e.upd = l at hu
        induction l with
        | nil => cases hu
        | cons v l ih =>
          simp only [updLook]
          rcases List.mem_cons.1 hu with rfl | hu
          · cases updLook l u.1 <;> simp
          · have := ih hu
            cases hq : updLook l u.1 with
            | none => exact absurd hq this
            | some q => simp
      exact this hx

/-- Every order that the edges allow comes to what the text's order comes to. -/
theorem any_order (h : ordOK ops s0 es = true) (hst : ∀ (i : Nat) (o : Oper) (e : Eff), ops[i]? = some o → es[i]? = some e → Step P ops o (runS (fun k => decide (k < i)) es 0 s0) e)
    (E : Env) (Q : Exit → Act → World → Prop) (hQ : ∀ a w g, Rel E g (es.foldl St.app s0) a w → Q .normal a w) :
    ∀ (fuel : Nat) (listed : Array Bool) (a : Act) (w : World) (g : Gh), listed.size = ops.size → (((List.range ops.size).filter fun k => !listed.getD k false).length = fuel) →
      Closed ops (fun k => listed.getD k false) → Rel E g (runS (fun k => listed.getD k false) es 0 s0) a w → wpAny P .any ops Q fuel listed a w := by
  have hlen : es.length = ops.size := by simp only [ordOK, Bool.and_eq_true, beq_iff_eq] at h; exact h.1.1.1
  have hback : ∀ (i : Nat) (o : Oper), ops[i]? = some o → ∀ e ∈ o.after, Region.binds .any e = true → e.on < i := by
    intro i o hi e he hb
    simp only [ordOK, Bool.and_eq_true, List.all_eq_true] at h
    have := (h.1.1.2 (o, i) (by rw [List.mem_zipIdx_iff_getElem?]; simpa using hi)).2
    rw [Array.all_eq_true_iff_forall_mem] at this
    have := this e he
    simp only [hb, Bool.or_eq_true, Bool.not_eq_true', Bool.true_eq_false, false_or, decide_eq_true_eq] at this
    simpa using this
  have fin : ∀ (listed : Array Bool) (a : Act) (w : World) (g : Gh), (∀ k, k < ops.size → listed.getD k false = true) → Rel E g (runS (fun k => listed.getD k false) es 0 s0) a w → Q .normal a w := by
    intro listed a w g hall hr
    refine hQ a w g ?_
    rw [← runS_all es 0 s0, ← runS_congr (S := fun k => listed.getD k false) (T := fun _ => true) es 0 s0 (fun i hi => by rw [Nat.zero_add]; exact hall i (by omega))]
    exact hr
  have stuckless : ∀ (listed : Array Bool), listed.size = ops.size → Region.ready .any ops listed = [] → ∀ k, k < ops.size → listed.getD k false = true := by
    intro listed hsz hnil k
    induction k using Nat.strongRecOn with
    | _ k ih =>
      intro hk
      cases hl : listed.getD k false with
      | true => rfl
      | false =>
        have : k ∈ Region.ready .any ops listed := by
          rw [mem_ready]
          refine ⟨?_, ops[k], Array.getElem?_eq_getElem hk, fun e he hb => ?_⟩
          · have hk' : k < listed.size := by omega
            simp only [Array.getD, hk', dif_pos] at hl ⊢
            exact hl
          · have hlt := hback k _ (Array.getElem?_eq_getElem hk) e he hb
            exact ih e.on hlt (by omega)
        rw [hnil] at this
        cases this
  intro fuel
  induction fuel with
  | zero =>
    intro listed a w g hsz hcnt hc hr
    have hall : ∀ k, k < ops.size → listed.getD k false = true := by
      intro k hk
      have h0 := List.eq_nil_of_length_eq_zero hcnt
      cases hl : listed.getD k false with
      | true => rfl
      | false =>
        have : k ∈ (List.range ops.size).filter fun k => !listed.getD k false := List.mem_filter.2 ⟨List.mem_range.2 hk, by rw [hl]; rfl⟩
        rw [h0] at this; cases this
    refine ⟨?_, fin listed a w g hall hr⟩
    cases hrd : Region.ready .any ops listed with
    | nil => rfl
    | cons k r =>
      have : k ∈ Region.ready .any ops listed := by rw [hrd]; exact List.mem_cons_self
      obtain ⟨h1, o, h2, _⟩ := mem_ready.1 this
      have hk := (Array.getElem?_eq_some_iff.1 h2).1
      have := hall k hk
      have hk' : k < listed.size := by omega
      simp only [Array.getD, hk', dif_pos] at h1 this
      rw [h1] at this; cases this
  | succ fuel ih =>
    intro listed a w g hsz hcnt hc hr
    refine ⟨fun hnil => fin listed a w g (stuckless listed hsz hnil) hr, fun i hi => ?_⟩
    obtain ⟨h1, o, h2, h3⟩ := mem_ready.1 hi
    have hio := (Array.getElem?_eq_some_iff.1 h2).1
    have hil : i < listed.size := by omega
    have hSi : listed.getD i false = false := by simp only [Array.getD, hil, dif_pos] at h1 ⊢; exact h1
    have he : es[i]? = some (es[i]'(by omega)) := List.getElem?_eq_getElem _
    have hpre : ∀ k, ordered ops i k = true → listed.getD k false = true := by
      intro k hk
      simp only [ordered, h2, Option.map_some, Option.getD_some, Array.any_eq_true', Bool.and_eq_true, beq_iff_eq] at hk
      obtain ⟨e, hem, hb, rfl⟩ := hk
      exact h3 e hem hb
    have hp := step_any h hst hc h2 he hSi hpre E g a w hr
    have hset : ∀ k, (listed.setIfInBounds i true).getD k false = (listed.getD k false || k == i) := by
      intro k
      by_cases hk : k = i
      · subst hk; simp [hil]
      · rw [getD_set_ne false (fun e => hk e.symm)]
        have : (k == i) = false := by simpa using hk
        simp [this]
    unfold wpOp
    simp only [h2]
    have hnext : ∀ a' w' g', Rel E g' ((runS (fun k => listed.getD k false) es 0 s0).app (es[i]'(by omega))) a' w' → wpAny P .any ops Q fuel (listed.setIfInBounds i true) a' w' := by
      intro a' w' g' hr'
      refine ih _ a' w' g' (by simpa using hsz) ?_ ?_ ?_
      · have hlt : ((List.range ops.size).filter fun k => !(listed.setIfInBounds i true).getD k false) = ((List.range ops.size).filter fun k => !listed.getD k false).erase i := by
          rw [List.Nodup.erase_eq_filter (List.nodup_range.sublist List.filter_sublist)]
          rw [List.filter_filter]
          apply List.filter_congr
          intro k _
          rw [hset]
          by_cases hk : k = i
          · subst hk; simp
          · have h' : (k == i) = false := by simpa using hk
            simp [h', bne]
        rw [hlt, List.length_erase_of_mem (List.mem_filter.2 ⟨List.mem_range.2 hio, by rw [hSi]; rfl⟩), hcnt]
        rfl
      · intro j k hj hjk
        have hj' : (listed.getD j false || j == i) = true := by rw [← hset]; exact hj
        show (listed.setIfInBounds i true).getD k false = true
        rw [hset]
        simp only [Bool.or_eq_true, beq_iff_eq] at hj'
        rcases hj' with hj | hj
        · rw [show listed.getD k false = true from hc j k hj hjk]; rfl
        · subst hj
          rw [hpre k hjk]; rfl
      · refine Rel.eqv hr' ?_
        have := runS_step h hc h2 he hSi hpre
        rw [show (fun k => (listed.setIfInBounds i true).getD k false) = (fun k => listed.getD k false || k == i) from funext hset]
        exact this
    have := hp (wpAny P .any ops Q fuel (listed.setIfInBounds i true)) Q hnext
    split
    · rename_i hw; rw [if_pos hw] at this; exact .inl this
    · rename_i hw; rw [if_neg hw] at this; exact this
end

/-! ### The walk of the text's order -/
def Lex (P : Program) (ops : Array Oper) (draw : Bool) (s0 : St) : List Oper → St → List Eff → (St → Prop) → Prop
  | [], s, es, K => (draw = true → ordOK ops s0 es.reverse = true) ∧ K s
  | o :: rest, s, es, K => ∃ e, Step P ops o s e ∧ (e.news.all fun x => s.fresh x) = true ∧ Lex P ops draw s0 rest (s.app e) (e :: es) K

theorem Rel.drew {E : Env} {g : Gh} {s : St} {a : Act} {w : World} (h : Rel E g s a w) : Rel E g s a w.drew := by
  have hs : Same (MM E g s) w w.drew := fun b o u hu _ => hu
  refine ⟨h.size, h.defers, fun i p hi => ?_, fun x ob hx => ?_, h.inj, h.own, ⟨h.fr.size, h.fr.os, h.fr.tape, h.fr.output, h.fr.block, h.fr.gok⟩, h.av, h.keep⟩
  · obtain ⟨v, h1, h2⟩ := h.slots i p hi
    exact ⟨v, h1, h2.mono hs (fun _ _ _ h => h) rfl rfl⟩
  · have := h.objs x ob hx
    cases this with
    | cells hφ hb hl h => exact .cells hφ hb hl fun j p hj => let ⟨v, h1, h2, h3⟩ := h j p hj; ⟨v, h1, h2, h3.mono hs (fun _ _ _ h => h) rfl rfl⟩
    | arr hφ hτ hb hl hsz hone h => exact .arr hφ hτ hb hl hsz hone fun i d hi j y hj => let ⟨u, h1, h2⟩ := h i d hi j y hj; ⟨u, h1, h2.mono hs (fun _ _ _ h => h)⟩
    | arr0 hφ => exact .arr0 hφ
    | full hτ hφ => exact .full hτ hφ
    | tail hτ hn hφ hb hl => exact .tail hτ hn hφ hb hl
    | map hφ hb hl hst h => exact .map hφ hb hl hst fun j k p hj => let ⟨e, h1, h2, h3⟩ := h j k p hj; ⟨e, h1, h2.mono hs (fun _ _ _ h => h), h3.mono hs (fun _ _ _ h => h) rfl rfl⟩
    | siter hφ hb => exact .siter hφ hb
    | glob hφ hc hM => exact .glob hφ hc hM

theorem lex_list {P : Program} {ops : Array Oper} {draw : Bool} {s0 : St} {E : Env} {Q : Exit → Act → World → Prop} {K : St → Prop} (hK : ∀ s a w g, K s → Rel E g s a w → Q .normal a w) :
    ∀ (l : List Oper) (s : St) (es : List Eff) (a : Act) (w : World) (g : Gh), Lex P ops draw s0 l s es K → Rel E g s a w → wpList P ops Q l a w
  | [], s, es, a, w, g, h, hr => wpList_nil (hK s a w g h.2 hr)
  | o :: l, s, es, a, w, g, h, hr => by
    obtain ⟨e, hst, hf, hl⟩ := h
    refine wpList_step fun K' hK' => ?_
    exact hst.2 s ⟨rfl, fun _ _ => rfl⟩ (fun _ _ => rfl) (fun x hx => fresh_of (List.all_eq_true.1 hf x hx)) E g a w hr K' Q (fun a' w' g' hr' => hK' _ _ (lex_list hK l _ _ a' w' g' hl hr'))

theorem lex_out {P : Program} {ops : Array Oper} {s0 : St} {K : St → Prop} : ∀ (l : List Oper) (s : St) (es : List Eff), Lex P ops true s0 l s es K →
    ∃ fs : List Eff, fs.length = l.length ∧ ordOK ops s0 (es.reverse ++ fs) = true ∧ K (fs.foldl St.app s) ∧ ∀ (i : Nat) (o : Oper) (e : Eff), l[i]? = some o → fs[i]? = some e → Step P ops o ((fs.take i).foldl St.app s) e
  | [], s, es, h => ⟨[], rfl, by simpa using h.1 rfl, h.2, fun i o e hi => by simp at hi⟩
  | o :: l, s, es, h => by
    obtain ⟨e, hst, hf, hl⟩ := h
    obtain ⟨fs, h1, h2, h3, h4⟩ := lex_out l _ _ hl
    refine ⟨e :: fs, by simp [h1], by simpa using h2, h3, fun i o' e' hi he => ?_⟩
    cases i with
    | zero => simp at hi he; subst hi; subst he; exact hst
    | succ i => simpa using h4 i o' e' (by simpa using hi) (by simpa using he)

theorem runS_lt (es : List Eff) (i : Nat) (s : St) : runS (fun k => decide (k < i)) es 0 s = (es.take i).foldl St.app s := by
  have h1 : es = es.take i ++ es.drop i := (List.take_append_drop i es).symm
  conv => lhs; rw [h1]
  rw [runS_append, runS_congr (T := fun _ => true) (es.take i) 0 s (fun j hj => by rw [List.length_take] at hj; simp; omega), runS_all]
  rw [runS_congr (T := fun _ => false) (es.drop i) _ _ (fun j hj => by
    rw [List.length_drop] at hj
    have : ¬ (0 + (es.take i).length + j < i) := by rw [List.length_take]; omega
    simp only [decide_eq_false_iff_not]; exact this), runS_none]

/-! ### Code -/
def awp (P : Program) (c : Code) (Q : Exit → St → Prop) (s : St) : Prop :=
  ∀ E g a w, Rel E g s a w → c.wp P (fun x a' w' => ∃ s' g', Q x s' ∧ Rel E g' s' a' w') a w

section
variable {P : Program} {Q : Exit → St → Prop} {s : St}

theorem awp_region {id : Nat} {ops : Array Oper} {draw : Bool} (hm : P.follows .mixedOrders = true) (h : Lex P ops draw s ops.toList s [] (Q .normal)) : awp P (.region id ops draw) Q s := by
  intro E g a w hr
  cases draw with
  | false => exact wp_region_list (lex_list (fun s' a' w' g' hq hr' => ⟨s', g', hq, hr'⟩) _ _ _ _ _ _ h hr)
  | true =>
    obtain ⟨fs, h1, h2, h3, h4⟩ := lex_out _ _ _ h
    simp only [List.reverse_nil, List.nil_append] at h2
    refine wp_region_any hm ?_
    have hfl : (fun k => (Array.replicate ops.size false).getD k false) = fun _ => false := by
      funext k
      simp only [Array.getD]
      split
      · simp
      · rfl
    refine any_order h2 (fun i o e hi he => ?_) E _ (fun a' w' g' hr' => ⟨_, g', h3, hr'⟩) ops.size (Array.replicate ops.size false) a _ g (by simp) ?_ ?_ ?_
    · rw [runS_lt]
      exact h4 i o e (by simpa using hi) he
    · have : ∀ k, (Array.replicate ops.size false).getD k false = false := fun k => congrFun hfl k
      simp only [this, Bool.not_false]
      rw [List.filter_eq_self.2 (fun _ _ => rfl), List.length_range]
    · intro i j hi; rw [hfl] at hi; cases hi
    · rw [hfl, runS_none]; exact hr.drew

theorem awp_mono {c : Code} {Q' : Exit → St → Prop} (h : awp P c Q s) (hq : ∀ x s, Q x s → Q' x s) : awp P c Q' s := fun E g a w hr =>
  wp_mono (h E g a w hr) fun x a' w' ⟨s', g', h1, h2⟩ => ⟨s', g', hq _ _ h1, h2⟩
theorem awp_skip (h : Q .normal s) : awp P .skip Q s := fun E g a w hr => wp_skip ⟨s, g, h, hr⟩
theorem awp_exit {id : Nat} (h : Q (.exit id) s) : awp P (.exit id) Q s := fun E g a w hr => wp_exit ⟨s, g, h, hr⟩
theorem awp_ret (h : Q .ret s) : awp P .ret Q s := fun E g a w hr => wp_ret ⟨s, g, h, hr⟩
def thenA (next : St → Prop) (Q : Exit → St → Prop) : Exit → St → Prop
  | .normal, s => next s
  | e, s => Q e s
theorem awp_seq {x y : Code} (h : awp P x (thenA (awp P y Q) Q) s) : awp P (.seq x y) Q s := fun E g a w hr => by
  refine wp_seq (wp_mono (h E g a w hr) fun e a' w' ⟨s', g', h1, h2⟩ => ?_)
  cases e with
  | normal => exact h1 E g' a' w' h2
  | exit id => exact ⟨s', g', h1, h2⟩
  | goto l => exact ⟨s', g', h1, h2⟩
  | ret => exact ⟨s', g', h1, h2⟩
  | panic ch => exact ⟨s', g', h1, h2⟩
  | outgrown => exact ⟨s', g', h1, h2⟩
def inBlockA (id : Nat) (Q : Exit → St → Prop) : Exit → St → Prop
  | .exit id', s => if id' = id then Q .normal s else Q (.exit id') s
  | e, s => Q e s
theorem awp_block {id : Nat} {c : Code} (h : awp P c (inBlockA id Q) s) : awp P (.block id c) Q s := fun E g a w hr => by
  refine wp_block (wp_mono (h E g a w hr) fun e a' w' ⟨s', g', h1, h2⟩ => ?_)
  cases e with
  | exit id' =>
    simp only [inBlockA] at h1
    simp only [Exit.inBlock]
    split <;> rename_i hid
    · rw [if_pos hid] at h1; exact ⟨s', g', h1, h2⟩
    · rw [if_neg hid] at h1; exact ⟨s', g', h1, h2⟩
  | normal => exact ⟨s', g', h1, h2⟩
  | goto l => exact ⟨s', g', h1, h2⟩
  | ret => exact ⟨s', g', h1, h2⟩
  | panic ch => exact ⟨s', g', h1, h2⟩
  | outgrown => exact ⟨s', g', h1, h2⟩

/-- What a state tells another one tells too (fewer things, or the same by other names). -/
def Ent (s s' : St) : Prop := ∀ E g a w, Rel E g s a w → ∃ g', Rel E g' s' a w
theorem Ent.refl (s : St) : Ent s s := fun E g a w h => ⟨g, h⟩
theorem Ent.trans {s s' s'' : St} (h : Ent s s') (k : Ent s' s'') : Ent s s'' := fun E g a w hr => let ⟨g', h'⟩ := h E g a w hr; k E g' a w h'
theorem awp_ent {c : Code} {s' : St} (h : Ent s s') (k : awp P c Q s') : awp P c Q s := fun E g a w hr => let ⟨g', h'⟩ := h E g a w hr; k E g' a w h'

/-- A loop: a family of states at its head, a number that each round lowers. -/
theorem awp_loop {α : Type} {c : Code} (st : α → St) (μ : α → Nat) (Inv : α → Prop) (x0 : α) (h0 : Ent s (st x0)) (hi : Inv x0)
    (round : ∀ x, Inv x → awp P c (thenA (fun s' => ∃ y, Inv y ∧ Ent s' (st y) ∧ μ y < μ x) Q) (st x)) : awp P (.loop c) Q s := by
  intro E g a w hr
  obtain ⟨g', hr'⟩ := h0 E g a w hr
  refine wp_loop_ghost (fun n a w => ∃ x g, μ x = n ∧ Inv x ∧ Rel E g (st x) a w) (μ x0) ⟨x0, g', rfl, hi, hr'⟩ ?_
  rintro n a w ⟨x, g, rfl, hinv, hr⟩
  refine wp_mono (round x hinv E g a w hr) fun e a' w' ⟨s1, g1, hq, hr1⟩ => ?_
  cases e with
  | normal =>
    obtain ⟨y, hy, hent, hlt⟩ := hq
    obtain ⟨g2, hr2⟩ := hent E g1 a' w' hr1
    exact ⟨μ y, hlt, y, g2, rfl, hy, hr2⟩
  | exit id => exact ⟨s1, g1, hq, hr1⟩
  | goto l => exact ⟨s1, g1, hq, hr1⟩
  | ret => exact ⟨s1, g1, hq, hr1⟩
  | panic ch => exact ⟨s1, g1, hq, hr1⟩
  | outgrown => exact ⟨s1, g1, hq, hr1⟩
end
end Go.Pm

namespace Go.Pm

/-- A type's kind. -/
inductive TK where
  | bool | int (k : IntKind) | string | slice (e : TypeId) | array (n : Nat) (e : TypeId) | map (k e : TypeId) | struct | ptr (e : TypeId) | func | iface | other
  deriving DecidableEq
def tk : TypeDesc → TK
  | .bool => .bool
  | .int k => .int k
  | .string => .string
  | .slice e => .slice e
  | .array n e => .array n e
  | .map k e => .map k e
  | .struct _ => .struct
  | .pointer e => .ptr e
  | .func _ _ _ => .func
  | .interface _ => .iface
  | _ => .other
def TK.desc : TK → Option TypeDesc
  | .bool => some .bool
  | .int k => some (.int k)
  | .string => some .string
  | .slice e => some (.slice e)
  | .array n e => some (.array n e)
  | .map k e => some (.map k e)
  | .ptr e => some (.pointer e)
  | _ => none
def aggT : TK → Bool
  | .struct | .array _ _ => true
  | _ => false
/-- What a type's rows say: its underlying type's kind; its size in cells, in bytes, its zero value. -/
def tyF (P : Program) (t : TypeId) : Option TK × Option (Nat × Nat × Option Value) := ((P.underlying t).map tk, (P.info? t).map fun i => (i.size, i.bytes, i.zero))

section
variable {P : Program} {t : TypeId} {u : TK} {sz bs : Nat} {z : Option Value}
theorem tyF_und {r : Option (Nat × Nat × Option Value)} {d : TypeDesc} (h : tyF P t = (some u, r)) (hd : u.desc = some d) : P.underlying t = some d := by
  have := congrArg Prod.fst h
  simp only [tyF, Option.map_eq_some_iff] at this
  obtain ⟨d', h1, h2⟩ := this
  rw [h1]
  subst h2
  cases d' <;> simp only [tk, TK.desc] at hd <;> first | (injection hd with hd; rw [hd]) | cases hd
theorem tyF_agg {r : Option (Nat × Nat × Option Value)} (h : tyF P t = (some u, r)) : ∃ d, P.underlying t = some d ∧ tk d = u := by
  have := congrArg Prod.fst h
  simpa only [tyF, Option.map_eq_some_iff] using this
theorem tyF_info {q : Option TK} (h : tyF P t = (q, some (sz, bs, z))) : ∃ i, P.info? t = some i ∧ i.size = sz ∧ i.bytes = bs ∧ i.zero = z := by
  have := congrArg Prod.snd h
  simp only [tyF, Option.map_eq_some_iff, Prod.mk.injEq] at this
  obtain ⟨i, h1, h2, h3, h4⟩ := this
  exact ⟨i, h1, h2, h3, h4⟩
theorem run_sizeOf' {q : Option TK} (h : tyF P t = (q, some (sz, bs, z))) (w : World) : (sizeOf t).run P w = .ok sz w := by
  obtain ⟨i, h1, h2, _⟩ := tyF_info h
  simp [sizeOf, typeInfo, h1, h2]
theorem run_zero' {q : Option TK} {zv : Value} (h : tyF P t = (q, some (sz, bs, some zv))) (w : World) : (zeroValue t).run P w = .ok zv w := by
  obtain ⟨i, h1, _, _, h4⟩ := tyF_info h
  simp [zeroValue, typeInfo, h1, h4]
theorem run_isAgg' {r : Option (Nat × Nat × Option Value)} (h : tyF P t = (some u, r)) (w : World) : (isAgg t).run P w = .ok (aggT u) w := by
  obtain ⟨d, h1, h2⟩ := tyF_agg h
  have := run_underlying h1 w
  simp only [isAgg, Sem.run_bind, this, Result.andThen_ok]
  subst h2
  cases d <;> rfl
end

/-! ### Operands -/
section
variable {E : Env} {g : Gh} {s : St} {a : Act} {w : World}

theorem Act.eval_tmp (a : Act) (t : Nat) : a.eval (.tmp t) = (a.tmps[t]?).getD undef := by
  show a.tmps.getD t undef = _
  rw [Array.getD_eq_getD_getElem?]

theorem constCell_rel (M : Nat → Nat → Prop) (v : Value) : VRel g M w (constCell v) v := by
  unfold constCell
  split
  · exact .d (.bool _)
  · exact .d (.int _ _)
  · rename_i s; exact .d (by have := Den.str (M := M) (w := w) s.data.toList; simpa using this)
  · exact .d .nilp
  · exact .d .nilm
  · exact .d .nilf
  · exact .d .nili
  · exact .nils
  · exact .undef _

theorem toD_den {M : Nat → Nat → Prop} {p : PV} {x : D} {v : Value} (h : toD p = some x) (r : VRel g M w p v) : Den M w x v := by
  cases r <;> simp only [toD] at h <;> first | (injection h with h; subst h) | cases h
  · assumption
  · exact .nil
  · assumption
  · assumption
  · assumption

theorem toDs_spec : ∀ {ps : List PV} {xs : List D}, toDs ps = some xs → xs.length = ps.length ∧ (∀ x ∈ xs, x.one = true) ∧ ∀ (j : Nat) (p : PV), ps[j]? = some p → ∃ x, xs[j]? = some x ∧ toD p = some x
  | [], xs, h => by simp only [toDs] at h; injection h with h; subst h; exact ⟨rfl, by simp, by simp⟩
  | p :: r, xs, h => by
    simp only [toDs] at h
    split at h
    · rename_i x xs' h1 h2
      split at h
      · rename_i ho
        injection h with h; subst h
        obtain ⟨i1, i2, i3⟩ := toDs_spec h2
        refine ⟨by simp [i1], by simpa [ho] using i2, fun j q hj => ?_⟩
        cases j with
        | zero => simp at hj; subst hj; exact ⟨x, by simp, h1⟩
        | succ j => obtain ⟨y, hy1, hy2⟩ := i3 j q (by simpa using hj); exact ⟨y, by simpa using hy1, hy2⟩
      · cases h
    · cases h

theorem joinP_rel {M : Nat → Nat → Prop} {ps : List PV} {vs : List Value} (hl : vs.length = ps.length) (hone : ∀ v ∈ vs, v.oneCell' = true)
    (h : ∀ (j : Nat) (p : PV), ps[j]? = some p → ∀ (v : Value), vs[j]? = some v → VRel g M w p v) : VRel g M w (joinP ps) (.agg vs.toArray) := by
  unfold joinP
  split
  · rename_i xs hx
    obtain ⟨i1, i2, i3⟩ := toDs_spec hx
    refine .d (.agg xs vs (by omega) i2 fun j x hj v hv => ?_)
    have hjl : j < ps.length := by have := (List.getElem?_eq_some_iff.1 hj).1; omega
    obtain ⟨y, hy1, hy2⟩ := i3 j _ (List.getElem?_eq_getElem hjl)
    rw [hj] at hy1; injection hy1 with hy1; subst hy1
    exact toD_den hy2 (h j _ (List.getElem?_eq_getElem hjl) v hv)
  · exact .agg hl hone h

/-- A constant's cells are one cell each, if it is one that the walk knows. -/
def constOK : Value → Bool
  | .agg cs => cs.toList.all fun v => v.oneCell'
  | _ => true
theorem constPV_rel (M : Nat → Nat → Prop) (v : Value) (hc : constOK v = true) : VRel g M w (constPV v) v := by
  unfold constPV
  split
  · rename_i cs
    have := joinP_rel (g := g) (w := w) (M := M) (ps := cs.toList.map constCell) (vs := cs.toList) (by simp) (fun v hv => by
      simp only [constOK, List.all_eq_true] at hc
      exact hc v hv) (fun j p hj v hv => by
      simp only [List.getElem?_map, Option.map_eq_some_iff] at hj
      obtain ⟨v', h1, rfl⟩ := hj
      rw [h1] at hv; injection hv with hv; subst hv
      exact constCell_rel M _)
    simpa using this
  · exact constCell_rel M v

def okOp : Operand → Bool
  | .const v => constOK v
  | _ => true

theorem val_rel (h : Rel E g s a w) (x : Operand) (hx : okOp x = true) : VRel g (MM E g s) w (s.val x) (a.eval x) := by
  cases x with
  | tmp t =>
    rw [Act.eval_tmp]
    show VRel g _ w ((s.sl t).getD .undef) _
    cases hs : s.sl t with
    | some p =>
      obtain ⟨v, h1, h2⟩ := h.slots t p hs
      simp only [h1, Option.getD_some]; exact h2
    | none => exact .undef _
  | const v => exact constPV_rel _ v hx
  | func f => exact .fn (fs := []) (cs := []) (vs := []) (us := []) rfl rfl (by simp) (by simp)
  | global g => exact .undef _

theorem val_agree {ops : Array Oper} {o : Oper} {s1 : St} (h : Agree ops o s s1) {x : Operand} (hx : x ∈ o.op.operands) : s1.val x = s.val x := by
  cases x with
  | tmp t =>
    show (s1.sl t).getD _ = (s.sl t).getD _
    rw [h.2 t (List.mem_append_left _ (List.mem_filterMap.2 ⟨.tmp t, by simpa using hx, rfl⟩))]
  | _ => rfl
end

/-! ### An operation that yields a value and leaves the world alone -/
def OpOK (P : Program) (ops : Array Oper) (o : Oper) (s : St) (e : Eff) : Prop := ∀ s1, Agree ops o s s1 → (∀ x ∈ e.foot, s1.ob x = s.ob x) → (∀ x ∈ e.news, Fresh s1 x) → dB o s1.n = true →
  ∀ E g a w, Rel E g s1 a w → ∀ (K : Act → World → Prop) (Qx : Exit → Act → World → Prop), (∀ a' w' g', Rel E g' (s1.app e) a' w' → K a' w') → o.wp P a w K Qx

def St.want (ops : Array Oper) (o : Oper) (s : St) : Option Bool := match o.guard with
  | none => some true
  | some (j, b) => match (ops[j]?).bind (·.dst) with
    | some t => match s.sl t with
      | some (.d (.bool c)) => some (c == b)
      | some (.tup []) => some false
      | _ => none
    | none => some false

theorem want_spec {ops : Array Oper} {o : Oper} {E : Env} {g : Gh} {s s1 : St} {a : Act} {w : World} {b : Bool} (h : s.want ops o = some b) (ha : Agree ops o s s1) (hr : Rel E g s1 a w) :
    Region.wanted o (yielded ops a.tmps) = b := by
  unfold St.want at h
  unfold Region.wanted
  cases hg : o.guard with
  | none => rw [hg] at h; injection h
  | some q =>
    obtain ⟨j, c⟩ := q
    rw [hg] at h
    simp only at h ⊢
    unfold yielded
    cases hd : (ops[j]?).bind (·.dst) with
    | none => rw [hd] at h; cases h; rfl
    | some t =>
      rw [hd] at h
      simp only at h
      have hl : t ∈ o.looksAt ops := by
        unfold Oper.looksAt
        rw [hg]; simp only [hd]
        exact List.mem_append_right _ (by simp)
      have hag := ha.2 t hl
      simp only [Option.bind_some]
      split at h
      · rename_i e hs
        injection h with h; subst h
        obtain ⟨v, h1, h2⟩ := hr.slots t _ (by rw [hag]; exact hs)
        cases h2 with
        | d h2 => cases h2; rw [h1]; simp only; cases e <;> cases c <;> rfl
      · rename_i hs
        injection h with h; subst h
        obtain ⟨v, h1, h2⟩ := hr.slots t _ (by rw [hag]; exact hs)
        cases h2 with
        | tup hl _ =>
          rename_i vs _
          obtain rfl : vs = [] := List.eq_nil_of_length_eq_zero hl
          rw [h1]; rfl
      · cases h

theorem Rel.put {E : Env} {g : Gh} {s : St} {a : Act} {w : World} (h : Rel E g s a w) {dst : Option Tmp} (hd : ∀ d, dst = some d → d < s.n) {p : PV} {v : Value} (hv : VRel g (MM E g s) w p v) : Rel E g (s.put dst p) (a.put dst v) w := by
  cases dst with
  | none => exact h
  | some d =>
    have hdn := hd d rfl
    refine ⟨?_, h.defers, ?_, ?_, h.inj, h.own, h.fr, h.av, h.keep⟩
    · show (a.tmps.setIfInBounds d v).size = s.n
      simp [h.size]
    · intro i q hi
      show ∃ u, (a.tmps.setIfInBounds d v)[i]? = some u ∧ VRel g (MM E g s) w q u
      have hi' : lookS ((d, p) :: s.slots) i = some q := hi
      simp only [lookS] at hi'
      by_cases hdi : d = i
      · subst hdi
        rw [if_pos rfl] at hi'
        injection hi' with hi'
        subst hi'
        exact ⟨v, by simp [h.size, hdn], hv⟩
      · rw [if_neg hdi] at hi'
        obtain ⟨u, h1, h2⟩ := h.slots i q hi'
        exact ⟨u, by rw [Array.getElem?_setIfInBounds_ne hdi]; exact h1, h2⟩
    · exact h.objs
theorem dB_spec {o : Oper} {n : Nat} (h : dB o n = true) : ∀ d, o.dst = some d → d < n := by
  intro d hd
  unfold dB at h
  rw [hd] at h
  simpa using h

theorem app_nil (s : St) (d : Option Tmp) (p : PV) (f n : List Nat) : s.app ⟨d, p, f, n, []⟩ = s.put d p := by cases d <;> rfl

theorem step_run {P : Program} {ops : Array Oper} {o : Oper} {s : St} {e : Eff} (hw : s.want ops o = some true) (hd : dB o s.n = true) (h : OpOK P ops o s e) : Step P ops o s e := by
  refine ⟨hd, fun s1 ha hf hn E g a w hr K Qx hK => ?_⟩
  rw [want_spec hw ha hr, if_pos rfl]
  exact h s1 ha hf hn (by rw [ha.1]; exact hd) E g a w hr K Qx hK
theorem step_skip {P : Program} {ops : Array Oper} {o : Oper} {s : St} (hw : s.want ops o = some false) (hd : dB o s.n = true) : Step P ops o s ⟨o.dst, .tup [], [], [], []⟩ := by
  refine ⟨hd, fun s1 ha hf hn E g a w hr K Qx hK => ?_⟩
  rw [want_spec hw ha hr, if_neg (by simp)]
  refine hK _ _ g ?_
  rw [app_nil]
  exact hr.put (dB_spec (by rw [ha.1]; exact hd)) (p := .tup []) (v := undef) (.tup (vs := []) (cs := []) rfl (by simp))

/-- The common form: what the operation yields at these operands, whatever world there is. -/
theorem op_val {P : Program} {ops : Array Oper} {o : Oper} {s : St} {p : PV} {foot : List Nat}
    (h : ∀ s1, (∀ x ∈ o.op.operands, s1.val x = s.val x) → (∀ x ∈ foot, s1.ob x = s.ob x) → ∀ E g a w, Rel E g s1 a w → ∃ v, (execOp a.eval o).run P w = .ok (.value v) w ∧ VRel g (MM E g s1) w p v) :
    OpOK P ops o s ⟨o.dst, p, foot, [], []⟩ := by
  intro s1 ha hf hn hd E g a w hr K Qx hK
  obtain ⟨v, h1, h2⟩ := h s1 (fun x hx => val_agree ha hx) hf E g a w hr
  unfold Oper.wp
  rw [h1]
  exact hK _ _ g (by rw [app_nil]; exact hr.put (dB_spec hd) h2)

section
variable {P : Program} {ops : Array Oper} {o : Oper} {s : St}

theorem op_move {x : Operand} (ho : o.op = .move x) (hx : okOp x = true) : OpOK P ops o s ⟨o.dst, s.val x, [], [], []⟩ :=
  op_val fun s1 hv _ E g a w hr => ⟨a.eval x, by unfold execOp; rw [ho]; rfl, by rw [← hv x (by rw [ho]; simp [Op.operands])]; exact val_rel hr x hx⟩
theorem op_assign {x : Operand} (ho : o.op = .assign x) (hx : okOp x = true) : OpOK P ops o s ⟨o.dst, s.val x, [], [], []⟩ :=
  op_val fun s1 hv _ E g a w hr => ⟨a.eval x, by unfold execOp; rw [ho]; rfl, by rw [← hv x (by rw [ho]; simp [Op.operands])]; exact val_rel hr x hx⟩

/-- A known operand's machine value. -/
theorem eval_of {E : Env} {g : Gh} {s1 : St} {a : Act} {w : World} (hr : Rel E g s1 a w) (hv : ∀ x ∈ o.op.operands, s1.val x = s.val x) {x : Operand} (hm : x ∈ o.op.operands) (hk : okOp x = true) {p : PV} (hp : s.val x = p) :
    VRel g (MM E g s1) w p (a.eval x) := by
  rw [← hp, ← hv x hm]; exact val_rel hr x hk

theorem vrel_bool {g : Gh} {M : Nat → Nat → Prop} {w : World} {b : Bool} {v : Value} (h : VRel g M w (.d (.bool b)) v) : v = .bool b := by cases h with | d h => cases h; rfl
theorem vrel_int {g : Gh} {M : Nat → Nat → Prop} {w : World} {k : IntKind} {n : Int} {v : Value} (h : VRel g M w (.d (.int k n)) v) : v = .int k n := by cases h with | d h => cases h; rfl
theorem vrel_str {g : Gh} {M : Nat → Nat → Prop} {w : World} {l : Bytes} {v : Value} (h : VRel g M w (.d (.str l)) v) : v = .string ⟨l.toArray⟩ := by cases h with | d h => cases h; rfl

theorem op_pick {c x y : Operand} {b : Bool} (ho : o.op = .pick c x y) (hc : s.val c = .d (.bool b)) (hkc : okOp c = true) (hx : okOp x = true) (hy : okOp y = true) :
    OpOK P ops o s ⟨o.dst, if b then s.val x else s.val y, [], [], []⟩ :=
  op_val fun s1 hv _ E g a w hr => by
    have h1 := vrel_bool (eval_of hr hv (by rw [ho]; simp [Op.operands]) hkc hc)
    refine ⟨if b then a.eval x else a.eval y, by unfold execOp; rw [ho]; simp [h1, asBool], ?_⟩
    cases b
    · exact eval_of hr hv (by rw [ho]; simp [Op.operands]) hy rfl
    · exact eval_of hr hv (by rw [ho]; simp [Op.operands]) hx rfl

/-! #### arithmetic and comparison -/
def binI (op : BinOp) (k : IntKind) (a b : Int) : Option D := match op with
  | .add => some (.int k (k.wrap (a + b)))
  | .sub => some (.int k (k.wrap (a - b)))
  | .mul => some (.int k (k.wrap (a * b)))
  | .quo => if b = 0 then none else some (.int k (k.wrap (a.tdiv b)))
  | .rem => if b = 0 then none else some (.int k (a.tmod b))
  | .and => some (.int k (k.wrap (BitVec.ofInt k.bits a &&& BitVec.ofInt k.bits b).toNat))
  | .or => some (.int k (k.wrap (BitVec.ofInt k.bits a ||| BitVec.ofInt k.bits b).toNat))
  | .xor => some (.int k (k.wrap (BitVec.ofInt k.bits a ^^^ BitVec.ofInt k.bits b).toNat))
  | .andNot => some (.int k (k.wrap (BitVec.ofInt k.bits a &&& ~~~ BitVec.ofInt k.bits b).toNat))
  | .shl => if b < 0 then none else some (.int k (k.wrap (a * 2 ^ min b.toNat k.bits)))
  | .shr => if b < 0 then none else some (.int k (a.fdiv (2 ^ min b.toNat k.bits)))
  | .eql => some (.bool (a == b))
  | .neq => some (.bool (a != b))
  | .lss => some (.bool (a < b))
  | .leq => some (.bool (a ≤ b))
  | .gtr => some (.bool (a > b))
  | .geq => some (.bool (a ≥ b))

theorem op_binI {op : BinOp} {xt yt : TypeId} {x y : Operand} {k k' : IntKind} {m n : Int} {d : D} (ho : o.op = .binOp op xt x y yt) (hx : s.val x = .d (.int k m)) (hy : s.val y = .d (.int k' n)) (hkx : okOp x = true) (hky : okOp y = true)
    (hk : k = k' ∨ op = .shl ∨ op = .shr) (hd : binI op k m n = some d) : OpOK P ops o s ⟨o.dst, .d d, [], [], []⟩ :=
  op_val fun s1 hv _ E g a w hr => by
    have h1 := vrel_int (eval_of hr hv (by rw [ho]; simp [Op.operands]) hkx hx)
    have h2 := vrel_int (eval_of hr hv (by rw [ho]; simp [Op.operands]) hky hy)
    have heq : (eqGuard op xt x y (.int k m) (.int k' n)).run P w = .ok () w := by
      cases op <;> rfl
    have hrun : ∀ v, (binOp op xt (.int k m) (.int k' n)).run P w = .ok v w → (execOp a.eval o).run P w = .ok (.value v) w := by
      intro v hv'
      unfold execOp
      rw [ho]
      simp only [h1, h2, Sem.run_bind, heq, Result.andThen_ok, hv', Sem.run_pure]
    cases op <;> simp only [binI] at hd
    case shl =>
      split at hd
      · cases hd
      · rename_i hb; injection hd with hd; subst hd
        exact ⟨_, hrun _ (by simp [binOp, Op.shift, hb]), .d (.int _ _)⟩
    case shr =>
      split at hd
      · cases hd
      · rename_i hb; injection hd with hd; subst hd
        exact ⟨_, hrun _ (by simp [binOp, Op.shift, hb]), .d (.int _ _)⟩
    all_goals
      have hkk : k = k' := by simpa using hk
      subst hkk
    case quo =>
      split at hd
      · cases hd
      · rename_i hb; injection hd with hd; subst hd
        exact ⟨_, hrun _ (by simp [binOp, Op.intDiv, hb]), .d (.int _ _)⟩
    case rem =>
      split at hd
      · cases hd
      · rename_i hb; injection hd with hd; subst hd
        exact ⟨_, hrun _ (by simp [binOp, Op.intDiv, hb]), .d (.int _ _)⟩
    case and => injection hd with hd; subst hd; exact ⟨_, hrun _ (by simp only [binOp, ne_eq, not_true_eq_false, if_false]; rfl), .d (.int _ _)⟩
    case or => injection hd with hd; subst hd; exact ⟨_, hrun _ (by simp only [binOp, ne_eq, not_true_eq_false, if_false]; rfl), .d (.int _ _)⟩
    case xor => injection hd with hd; subst hd; exact ⟨_, hrun _ (by simp only [binOp, ne_eq, not_true_eq_false, if_false]; rfl), .d (.int _ _)⟩
    case andNot => injection hd with hd; subst hd; exact ⟨_, hrun _ (by simp only [binOp, ne_eq, not_true_eq_false, if_false]; rfl), .d (.int _ _)⟩
    case add => injection hd with hd; subst hd; exact ⟨_, hrun _ (by simp [binOp, Op.intArith]), .d (.int _ _)⟩
    case sub => injection hd with hd; subst hd; exact ⟨_, hrun _ (by simp [binOp, Op.intArith]), .d (.int _ _)⟩
    case mul => injection hd with hd; subst hd; exact ⟨_, hrun _ (by simp [binOp, Op.intArith]), .d (.int _ _)⟩
    case eql => injection hd with hd; subst hd; exact ⟨_, hrun _ (by simp [binOp, Op.intCmp]), .d (.bool _)⟩
    case neq => injection hd with hd; subst hd; exact ⟨_, hrun _ (by simp [binOp, Op.intCmp]), .d (.bool _)⟩
    case lss => injection hd with hd; subst hd; exact ⟨_, hrun _ (by simp [binOp, Op.intCmp]), .d (.bool _)⟩
    case leq => injection hd with hd; subst hd; exact ⟨_, hrun _ (by simp [binOp, Op.intCmp]), .d (.bool _)⟩
    case gtr => injection hd with hd; subst hd; exact ⟨_, hrun _ (by simp [binOp, Op.intCmp]), .d (.bool _)⟩
    case geq => injection hd with hd; subst hd; exact ⟨_, hrun _ (by simp [binOp, Op.intCmp]), .d (.bool _)⟩
end
end Go.Pm

namespace Go.Pm

theorem add_none (b o n : Nat) : (⟨b, o, none⟩ : Addr).add n = ⟨b, o + n, none⟩ := by
  unfold Addr.add; split
  · rename_i h; subst h; rfl
  · rfl

theorem vrel_ptr {g : Gh} {M : Nat → Nat → Prop} {w : World} {r : Nat} {q : Nat} {v : Value} (h : VRel g M w (.ptr r q) v) : ∃ b, v = .pointer (some ⟨b, q, none⟩) ∧ g.φ r = some b := by
  cases h with | ptr h => exact ⟨_, rfl, h⟩
theorem vrel_eptr {g : Gh} {M : Nat → Nat → Prop} {w : World} {r : Nat} {sz i fo : Nat} {v : Value} (h : VRel g M w (.eptr r sz i fo) v) : ∃ b, v = .pointer (some ⟨b, i * sz + fo, none⟩) ∧ g.φ r = some b := by
  cases h with | eptr h => exact ⟨_, rfl, h⟩
theorem vrel_cptr {g : Gh} {M : Nat → Nat → Prop} {w : World} {cs : List D} {v : Value} (h : VRel g M w (.cptr cs) v) :
    ∃ b q, v = .pointer (some ⟨b, q, none⟩) ∧ (∀ (j : Nat) (c : D), cs[j]? = some c → ∃ u, w.cell? ⟨b, q + j, none⟩ = some u ∧ ¬ M b (q + j) ∧ Den M w c u) ∧ ∀ x ∈ cs, x.one = true := by
  cases h with | cptr h hone => exact ⟨_, _, rfl, h, hone⟩
theorem vrel_map {g : Gh} {M : Nat → Nat → Prop} {w : World} {r : Nat} {v : Value} (h : VRel g M w (.map r) v) : ∃ b, v = .map (some b) ∧ g.φ r = some b := by
  cases h with | map h => exact ⟨_, rfl, h⟩
theorem vrel_tup {g : Gh} {M : Nat → Nat → Prop} {w : World} {ps : List PV} {v : Value} (h : VRel g M w (.tup ps) v) :
    ∃ vs : List Value, v = .tuple vs.toArray ∧ vs.length = ps.length ∧ ∀ (j : Nat) (p : PV), ps[j]? = some p → ∀ (v : Value), vs[j]? = some v → VRel g M w p v := by
  cases h with | tup hl h => exact ⟨_, rfl, hl, h⟩
theorem vrel_agg {g : Gh} {M : Nat → Nat → Prop} {w : World} {cs : List D} {v : Value} (h : VRel g M w (.d (.agg cs)) v) :
    ∃ vs : List Value, v = .agg vs.toArray ∧ vs.length = cs.length ∧ (∀ x ∈ cs, x.one = true) ∧ ∀ (j : Nat) (x : D), cs[j]? = some x → ∀ (v : Value), vs[j]? = some v → Den M w x v := by
  cases h with | d h => cases h with | agg _ vs hl hone h => exact ⟨vs, rfl, hl, hone, h⟩
theorem orel_cells {g : Gh} {M : Nat → Nat → Prop} {w : World} {x : Nat} {cs : List PV} (h : ORel g M w x (.cells cs)) :
    ∃ b vs elem, g.φ x = some b ∧ w.heap[b]? = some (.cells vs elem (0, 0)) ∧ vs.size = cs.length ∧ ∀ (j : Nat) (p : PV), cs[j]? = some p → ∃ v, vs[j]? = some v ∧ v.oneCell' = true ∧ VRel g M w p v := by
  cases h with | cells hφ hb hl h => exact ⟨_, _, _, hφ, hb, hl, h⟩
theorem orel_map {g : Gh} {M : Nat → Nat → Prop} {w : World} {x : Nat} {dm : List (D × D)} {es : List (D × PV)} (h : ORel g M w x (.map dm es)) :
    ∃ b ents clock, g.φ x = some b ∧ w.heap[b]? = some (.map ents clock) ∧ ents.size = (ments dm es).length ∧ ∀ (j : Nat) (k : D) (p : PV), (ments dm es)[j]? = some (k, p) → ∃ e, ents[j]? = some e ∧ Den M w k e.key ∧ VRel g M w p e.val := by
  cases h with | map hφ hb hl hst h => exact ⟨_, _, _, hφ, hb, hl, h⟩
theorem orel_mapS {g : Gh} {M : Nat → Nat → Prop} {w : World} {x : Nat} {dm : List (D × D)} {es : List (D × PV)} (h : ORel g M w x (.map dm es)) :
    ∃ b ents clock, g.φ x = some b ∧ w.heap[b]? = some (.map ents clock) ∧ ents.size = (ments dm es).length ∧ Stmp ents clock ∧ ∀ (j : Nat) (k : D) (p : PV), (ments dm es)[j]? = some (k, p) → ∃ e, ents[j]? = some e ∧ Den M w k e.key ∧ VRel g M w p e.val := by
  cases h with | map hφ hb hl hst h => exact ⟨_, _, _, hφ, hb, hl, hst, h⟩
theorem run_equal_bool {P : Program} {t : TypeId} {r : Option (Nat × Nat × Option Value)} (ht : tyF P t = (some .bool, r)) (a b : Bool) (w : World) : (Op.equal t (.bool a) (.bool b)).run P w = .ok (a == b) w :=
  run_equalIn_bool' w 9999 t a b (tyF_und ht rfl)

section
variable {P : Program} {ops : Array Oper} {o : Oper} {s : St}

/-! #### strings -/
def binS (op : BinOp) (a b : Bytes) : Option D := match op with
  | .add => some (.str (a ++ b))
  | .eql => some (.bool (a == b))
  | .neq => some (.bool !(a == b))
  | .lss => some (.bool (Op.bytesLess a b))
  | .leq => some (.bool (Op.bytesLess a b || a == b))
  | .gtr => some (.bool !(Op.bytesLess a b || a == b))
  | .geq => some (.bool !(Op.bytesLess a b))
  | _ => none

theorem op_binS {op : BinOp} {xt yt : TypeId} {x y : Operand} {l m : Bytes} {d : D} (ho : o.op = .binOp op xt x y yt) (hx : s.val x = .d (.str l)) (hy : s.val y = .d (.str m)) (hkx : okOp x = true) (hky : okOp y = true)
    (hn : op = .add → l.length + m.length ≤ 9223372036854775807) (hd : binS op l m = some d) : OpOK P ops o s ⟨o.dst, .d d, [], [], []⟩ :=
  op_val fun s1 hv _ E g a w hr => by
    have h1 := vrel_str (eval_of hr hv (by rw [ho]; simp [Op.operands]) hkx hx)
    have h2 := vrel_str (eval_of hr hv (by rw [ho]; simp [Op.operands]) hky hy)
    have heq : (eqGuard op xt x y (.string ⟨l.toArray⟩) (.string ⟨m.toArray⟩)).run P w = .ok () w := by cases op <;> rfl
    have hrun : ∀ v, (binOp op xt (.string ⟨l.toArray⟩) (.string ⟨m.toArray⟩)).run P w = .ok v w → (execOp a.eval o).run P w = .ok (.value v) w := by
      intro v hv'
      unfold execOp
      rw [ho]
      simp only [h1, h2, Sem.run_bind, heq, Result.andThen_ok, hv', Sem.run_pure]
    cases op <;> simp only [binS] at hd
    case add =>
      injection hd with hd; subst hd
      refine ⟨.string ⟨(l ++ m).toArray⟩, hrun _ ?_, .d (.str _)⟩
      have hle : ¬ ((((⟨l.toArray⟩ : ByteArray).size + (⟨m.toArray⟩ : ByteArray).size : Nat) : Int) > IntKind.i64.max) := by
        have := hn rfl
        show ¬ (((l.toArray.size + m.toArray.size : Nat) : Int) > 9223372036854775807)
        simp; omega
      simp only [binOp, Op.stringOp, if_neg hle, ByteArray.mk_append_mk]
      rfl
    all_goals first
      | (cases hd; done)
      | (injection hd with hd; subst hd; refine ⟨.bool _, hrun _ ?_, .d (.bool _)⟩; simp only [binOp, Op.stringOp, ByteArray.toList_mk]; rfl)

theorem op_eqlB {op : BinOp} {xt yt : TypeId} {x y : Operand} {l m : Bool} {r : Option (Nat × Nat × Option Value)} (ho : o.op = .binOp op xt x y yt) (hop : op = .eql ∨ op = .neq) (hx : s.val x = .d (.bool l)) (hy : s.val y = .d (.bool m)) (hkx : okOp x = true) (hky : okOp y = true)
    (ht : tyF P xt = (some .bool, r)) : OpOK P ops o s ⟨o.dst, .d (.bool (if op = .eql then l == m else !(l == m))), [], [], []⟩ :=
  op_val fun s1 hv _ E g a w hr => by
    have h1 := vrel_bool (eval_of hr hv (by rw [ho]; simp [Op.operands]) hkx hx)
    have h2 := vrel_bool (eval_of hr hv (by rw [ho]; simp [Op.operands]) hky hy)
    refine ⟨.bool _, ?_, .d (.bool _)⟩
    unfold execOp
    rw [ho]
    have he := run_equal_bool ht l m w
    rcases hop with rfl | rfl <;> simp [h1, h2, eqGuard, binOp, he]

theorem op_not {t : TypeId} {x : Operand} {b : Bool} (ho : o.op = .unOp .not t x) (hx : s.val x = .d (.bool b)) (hkx : okOp x = true) : OpOK P ops o s ⟨o.dst, .d (.bool !b), [], [], []⟩ :=
  op_val fun s1 hv _ E g a w hr => by
    have h1 := vrel_bool (eval_of hr hv (by rw [ho]; simp [Op.operands]) hkx hx)
    refine ⟨.bool _, ?_, .d (.bool _)⟩
    unfold execOp
    rw [ho]
    simp [h1, Op.unary]

theorem op_convI {src dst : TypeId} {x : Operand} {k k' : IntKind} {n : Int} {u : TK} {r r' : Option (Nat × Nat × Option Value)} (ho : o.op = .convert src dst x) (hx : s.val x = .d (.int k n)) (hkx : okOp x = true)
    (hs : tyF P src = (some u, r)) (ht : tyF P dst = (some (.int k'), r')) : OpOK P ops o s ⟨o.dst, .d (.int k' (k'.wrap n)), [], [], []⟩ :=
  op_val fun s1 hv _ E g a w hr => by
    have h1 := vrel_int (eval_of hr hv (by rw [ho]; simp [Op.operands]) hkx hx)
    refine ⟨.int _ _, ?_, .d (.int _ _)⟩
    unfold execOp
    rw [ho]
    obtain ⟨us, hus, _⟩ := tyF_agg hs
    simp [h1, convert, run_underlying hus, run_underlying (tyF_und ht rfl), Conv.intToInt]

def listD : PV → Option (List D)
  | .d (.list ds) => some ds
  | .tl ds _ => some ds
  | .nils => some []
  | _ => none
theorem listD_den {g : Gh} {M : Nat → Nat → Prop} {w : World} {p : PV} {ds : List D} {v : Value} (h : listD p = some ds) (r : VRel g M w p v) : Den M w (.list ds) v := by
  unfold listD at h
  split at h <;> first | (cases h; done) | (injection h with h; subst h)
  · cases r with | d r => exact r
  · cases r <;> assumption
  · cases r; exact .nil

theorem den_len {M : Nat → Nat → Prop} {w : World} {ds : List D} {v : Value} (h : Den M w (.list ds) v) : ∃ a c, v = .slice a ds.length c ∧ ds.length ≤ c := by
  cases h with
  | nil => exact ⟨none, 0, rfl, Nat.le_refl _⟩
  | empty a c => exact ⟨some a, c, rfl, Nat.zero_le _⟩
  | list ds b o c sz cell hc hsz hone h hw => exact ⟨_, c, rfl, hc⟩

theorem den_get {M : Nat → Nat → Prop} {w : World} {ds : List D} {v : Value} (h : Den M w (.list ds) v) {n : Nat} {d : D} (hn : ds[n]? = some d) :
    ∃ b o c, v = .slice (some ⟨b, o, none⟩) ds.length c ∧ ds.length ≤ c ∧ (∀ x ∈ d.cells, x.one = true) ∧
      ∀ (j : Nat) (x : D), d.cells[j]? = some x → ∃ u, w.cell? ⟨b, o + n * d.cells.length + j, none⟩ = some u ∧ ¬ M b (o + n * d.cells.length + j) ∧ Den M w x u := by
  cases h with
  | nil => simp at hn
  | empty a c => simp at hn
  | list ds b o c sz cell hc hsz hone h hw =>
    have hm := List.mem_of_getElem? hn
    refine ⟨b, o, c, rfl, hc, hone d hm, fun j x hj => ?_⟩
    have hs := hsz d hm
    have hjl := (List.getElem?_eq_some_iff.1 hj).1
    have := hw n j (List.getElem?_eq_some_iff.1 hn).1 (by omega)
    rw [hs]
    exact ⟨_, this.1, this.2, h n d hn j x hj⟩

theorem op_len {x : Operand} {t : TypeId} {e : TypeId} {ds : List D} {r : Option (Nat × Nat × Option Value)}
    (ho : o.op = .call { callee := .builtin .len, args := #[x], argTypes := #[t] }) (hx : listD (s.val x) = some ds) (hkx : okOp x = true) (ht : tyF P t = (some (.slice e), r)) :
    OpOK P ops o s ⟨o.dst, .d (.int .i64 ds.length), [], [], []⟩ :=
  op_val fun s1 hv _ E g a w hr => by
    have h1 := listD_den hx (eval_of hr hv (x := x) (by rw [ho]; simp [Op.operands, Call.operands]) hkx rfl)
    obtain ⟨b, c, he, hc⟩ := den_len h1
    refine ⟨.int .i64 ds.length, ?_, .d (.int _ _)⟩
    unfold execOp
    rw [ho]
    simp [resolve, invoke, builtin, he, Builtin.len_, run_underlying (tyF_und ht rfl), goInt]
theorem op_lenS {x : Operand} {t : TypeId} {l : Bytes} {r : Option (Nat × Nat × Option Value)}
    (ho : o.op = .call { callee := .builtin .len, args := #[x], argTypes := #[t] }) (hx : s.val x = .d (.str l)) (hkx : okOp x = true) (ht : tyF P t = (some .string, r)) :
    OpOK P ops o s ⟨o.dst, .d (.int .i64 l.length), [], [], []⟩ :=
  op_val fun s1 hv _ E g a w hr => by
    have h1 := vrel_str (eval_of hr hv (x := x) (by rw [ho]; simp [Op.operands, Call.operands]) hkx hx)
    refine ⟨.int .i64 l.length, ?_, .d (.int _ _)⟩
    unfold execOp
    rw [ho]
    simp [resolve, invoke, builtin, h1, Builtin.len_, run_underlying (tyF_und ht rfl), goInt, ByteArray.size_mk_toArray]

theorem op_lenM {x : Operand} {t : TypeId} {m : Nat} {dm : List (D × D)} {es : List (D × PV)} {k e : TypeId} {r : Option (Nat × Nat × Option Value)}
    (ho : o.op = .call { callee := .builtin .len, args := #[x], argTypes := #[t] }) (hx : s.val x = .map m) (hm : s.ob m = some (.map dm es)) (hkx : okOp x = true) (ht : tyF P t = (some (.map k e), r)) :
    OpOK P ops o s ⟨o.dst, .d (.int .i64 (ments dm es).length), [m], [], []⟩ :=
  op_val fun s1 hv hf E g a w hr => by
    have h1 := eval_of hr hv (x := x) (by rw [ho]; simp [Op.operands, Call.operands]) hkx hx
    obtain ⟨b, hae, hφ⟩ := vrel_map h1
    obtain ⟨b', ents, clock, hφ', hb, hl, h⟩ := orel_map (hr.objs m _ (by rw [hf m (by simp)]; exact hm))
    rw [hφ] at hφ'; injection hφ' with hφ'; subst hφ'
    refine ⟨.int .i64 (ments dm es).length, ?_, .d (.int _ _)⟩
    unfold execOp
    rw [ho]
    simp [resolve, invoke, builtin, hae, Builtin.len_, run_underlying (tyF_und ht rfl), goInt, getObj, Sem.run, hb, hl]

/-- x[i], an element's address. -/
theorem op_indexL {x i : Operand} {t e : TypeId} {k : IntKind} {n : Nat} {ds : List D} {d : D} {r : Option (Nat × Nat × Option Value)} {u : Option TK} {bs : Nat} {z : Option Value}
    (ho : o.op = .indexAddr t x i) (hx : listD (s.val x) = some ds) (hi : s.val i = .d (.int k n)) (hn : ds[n]? = some d) (hkx : okOp x = true) (hki : okOp i = true)
    (ht : tyF P t = (some (.slice e), r)) (he : tyF P e = (u, some (d.cells.length, bs, z))) : OpOK P ops o s ⟨o.dst, .cptr d.cells, [], [], []⟩ :=
  op_val fun s1 hv _ E g a w hr => by
    have h1 := listD_den hx (eval_of hr hv (x := x) (by rw [ho]; simp [Op.operands]) hkx rfl)
    have h2 := vrel_int (eval_of hr hv (x := i) (by rw [ho]; simp [Op.operands]) hki hi)
    obtain ⟨b, of, c, hae, hc, hone, hcell⟩ := den_get h1 hn
    have hlt := (List.getElem?_eq_some_iff.1 hn).1
    refine ⟨.pointer (some ⟨b, of + n * d.cells.length, none⟩), ?_, .cptr (fun j x hj => ?_) hone⟩
    · unfold execOp
      rw [ho]
      have : (0 : Int) ≤ (n : Int) ∧ (n : Int) < (ds.length : Int) := ⟨by omega, by omega⟩
      simp [hae, h2, Instr.indexAt, asIntOf, run_underlying (tyF_und ht rfl), this, run_sizeOf' he, add_none]
      intro hc'; omega
    · obtain ⟨u, h3, h4, h5⟩ := hcell j x hj
      exact ⟨u, h3, h4, h5⟩

/-! #### addresses, loads -/
def fldF (P : Program) (t : TypeId) (f : Nat) : Option Nat := match P.underlying t with
  | some (.struct fs) => match fs[f]? with
    | some fd => match P.info? fd.type with
      | some i => if i.size = 0 then none else some fd.offset
      | none => none
    | none => none
  | _ => none

theorem run_fieldAt {t : TypeId} {f off : Nat} (h : fldF P t f = some off) (b q : Nat) (w : World) : (Instr.fieldAt t (.pointer (some ⟨b, q, none⟩)) f).run P w = .ok (.pointer (some ⟨b, q + off, none⟩)) w := by
  unfold fldF at h
  split at h
  · rename_i fs hu
    split at h
    · rename_i fd hf
      split at h
      · rename_i i hi
        split at h
        · cases h
        · rename_i hs
          injection h with h; subst h
          simp [Instr.fieldAt, run_underlying hu, hf, Instr.sureAddr, fieldPlace, sizeOf, typeInfo, hi, hs, add_none]
      · cases h
    · cases h
  · cases h

theorem op_fieldP {t : TypeId} {x : Operand} {f off q : Nat} {r : Nat} (ho : o.op = .fieldAddr t x f) (hx : s.val x = .ptr r q) (hkx : okOp x = true) (hf : fldF P t f = some off) :
    OpOK P ops o s ⟨o.dst, .ptr r (q + off), [], [], []⟩ :=
  op_val fun s1 hv _ E g a w hr => by
    have h1 := eval_of hr hv (x := x) (by rw [ho]; simp [Op.operands]) hkx hx
    obtain ⟨b, hae, hφ⟩ := vrel_ptr h1
    · refine ⟨.pointer (some ⟨b, q + off, none⟩), ?_, .ptr hφ⟩
      unfold execOp
      rw [ho]
      simp [hae, run_fieldAt hf]
theorem op_fieldE {t : TypeId} {x : Operand} {f off sz i fo : Nat} {r : Nat} (ho : o.op = .fieldAddr t x f) (hx : s.val x = .eptr r sz i fo) (hkx : okOp x = true) (hf : fldF P t f = some off) :
    OpOK P ops o s ⟨o.dst, .eptr r sz i (fo + off), [], [], []⟩ :=
  op_val fun s1 hv _ E g a w hr => by
    have h1 := eval_of hr hv (x := x) (by rw [ho]; simp [Op.operands]) hkx hx
    obtain ⟨b, hae, hφ⟩ := vrel_eptr h1
    · refine ⟨.pointer (some ⟨b, i * sz + (fo + off), none⟩), ?_, .eptr hφ⟩
      unfold execOp
      rw [ho]
      simp [hae, run_fieldAt hf, Nat.add_assoc]
theorem op_fieldC {t : TypeId} {x : Operand} {f off : Nat} {cs : List D} (ho : o.op = .fieldAddr t x f) (hx : s.val x = .cptr cs) (hkx : okOp x = true) (hf : fldF P t f = some off) :
    OpOK P ops o s ⟨o.dst, .cptr (cs.drop off), [], [], []⟩ :=
  op_val fun s1 hv _ E g a w hr => by
    have h1 := eval_of hr hv (x := x) (by rw [ho]; simp [Op.operands]) hkx hx
    obtain ⟨b, q, hae, h, hone⟩ := vrel_cptr h1
    · refine ⟨.pointer (some ⟨b, q + off, none⟩), ?_, .cptr (fun j c hj => ?_) (fun x hx => hone x (List.mem_of_mem_drop hx))⟩
      · unfold execOp
        rw [ho]
        simp [hae, run_fieldAt hf]
      · rw [List.getElem?_drop] at hj
        obtain ⟨u, h2, h3, h4⟩ := h _ c hj
        rw [← Nat.add_assoc] at h2 h3
        exact ⟨u, h2, h3, h4⟩

theorem run_loadVar_agg {t : TypeId} {u : TK} {sz bs : Nat} {z : Option Value} (ht : tyF P t = (some u, some (sz, bs, z))) (ha : aggT u = true) {w : World} {b q : Nat} {vs : List Value} (hl : vs.length = sz)
    (h : ∀ (j : Nat) (v : Value), vs[j]? = some v → w.cell? ⟨b, q + j, none⟩ = some v) : (loadVar t ⟨b, q, none⟩).run P w = .ok (.agg vs.toArray) w := by
  have hr := run_loadCells_list (P := P) w ⟨b, q, none⟩ vs (fun j v hj => by rw [add_none]; exact h j v hj)
  simp [loadVar, run_isAgg' ht, ha, run_sizeOf' ht, ← hl, hr]
theorem run_loadVar_one {t : TypeId} {u : TK} {r : Option (Nat × Nat × Option Value)} (ht : tyF P t = (some u, r)) (ha : aggT u = false) {w : World} {b q : Nat} {v : Value} (h : w.cell? ⟨b, q, none⟩ = some v) :
    (loadVar t ⟨b, q, none⟩).run P w = .ok v w := by
  simp [loadVar, run_isAgg' ht, ha, h]

/-- A load out of an object's cells. -/
theorem op_loadA {t : TypeId} {x : Operand} {r : Nat} {q sz bs : Nat} {cs : List PV} {u : TK} {z : Option Value} (ho : o.op = .load t x) (hx : s.val x = .ptr r q) (hkx : okOp x = true) (hob : s.ob r = some (.cells cs))
    (ht : tyF P t = (some u, some (sz, bs, z))) (ha : aggT u = true) (hl : q + sz ≤ cs.length) : OpOK P ops o s ⟨o.dst, joinP ((cs.drop q).take sz), [r], [], []⟩ :=
  op_val fun s1 hv hf E g a w hr => by
    have h1 := eval_of hr hv (x := x) (by rw [ho]; simp [Op.operands]) hkx hx
    obtain ⟨b, hae, hφ⟩ := vrel_ptr h1
    · obtain ⟨b', vs, elem, hφ', hb, hlen, h⟩ := orel_cells (hr.objs r _ (by rw [hf r (by simp)]; exact hob))
      · rw [hφ] at hφ'; injection hφ' with hφ'; subst hφ'
        have hvl : ((vs.toList.drop q).take sz).length = sz := by simp; omega
        refine ⟨.agg ((vs.toList.drop q).take sz).toArray, ?_, joinP_rel (by simp; omega) (fun v hv => ?_) (fun j p hj v hv => ?_)⟩
        · unfold execOp
          rw [ho]
          have := run_loadVar_agg (w := w) (b := b) (q := q) ht ha hvl (fun j v hj => by
            have hj' : j < sz := by have := (List.getElem?_eq_some_iff.1 hj).1; omega
            simp only [List.getElem?_take, if_pos hj', List.getElem?_drop] at hj
            simp only [World.cell?, hb]
            simpa using hj)
          simp [hae, Instr.loadAt, Instr.sureAddr, this]
        · have hv' := List.mem_of_mem_drop (List.mem_of_mem_take hv)
          obtain ⟨j, hj⟩ := List.mem_iff_getElem?.1 hv'
          have hjl : j < cs.length := by have := (List.getElem?_eq_some_iff.1 hj).1; simp at this; omega
          obtain ⟨v', e1, e2, _⟩ := h j _ (List.getElem?_eq_getElem hjl)
          have : v' = v := by
            have : vs[j]? = some v := by simpa using hj
            rw [e1] at this; exact Option.some.inj this
          rw [← this]; exact e2
        · have hj' : j < sz := by have := (List.getElem?_eq_some_iff.1 hj).1; simp at this; omega
          simp only [List.getElem?_take, if_pos hj', List.getElem?_drop] at hj hv
          obtain ⟨v', e1, _, e3⟩ := h _ p hj
          have : v' = v := by
            have : vs[q + j]? = some v := by simpa using hv
            rw [e1] at this; exact Option.some.inj this
          rw [← this]; exact e3
theorem op_load1 {t : TypeId} {x : Operand} {r : Nat} {q : Nat} {cs : List PV} {u : TK} {p : PV} {rr : Option (Nat × Nat × Option Value)} (ho : o.op = .load t x) (hx : s.val x = .ptr r q) (hkx : okOp x = true) (hob : s.ob r = some (.cells cs))
    (ht : tyF P t = (some u, rr)) (ha : aggT u = false) (hl : cs[q]? = some p) : OpOK P ops o s ⟨o.dst, p, [r], [], []⟩ :=
  op_val fun s1 hv hf E g a w hr => by
    have h1 := eval_of hr hv (x := x) (by rw [ho]; simp [Op.operands]) hkx hx
    obtain ⟨b, hae, hφ⟩ := vrel_ptr h1
    · obtain ⟨b', vs, elem, hφ', hb, hlen, h⟩ := orel_cells (hr.objs r _ (by rw [hf r (by simp)]; exact hob))
      · rw [hφ] at hφ'; injection hφ' with hφ'; subst hφ'
        obtain ⟨v, e1, _, e3⟩ := h q p hl
        refine ⟨v, ?_, e3⟩
        unfold execOp
        rw [ho]
        have := run_loadVar_one (w := w) (b := b) (q := q) ht ha (v := v) (by simp [World.cell?, hb, e1])
        simp [hae, Instr.loadAt, Instr.sureAddr, this]
theorem op_loadCA {t : TypeId} {x : Operand} {sz bs : Nat} {cs : List D} {u : TK} {z : Option Value} (ho : o.op = .load t x) (hx : s.val x = .cptr cs) (hkx : okOp x = true)
    (ht : tyF P t = (some u, some (sz, bs, z))) (ha : aggT u = true) (hl : sz ≤ cs.length) : OpOK P ops o s ⟨o.dst, .d (.agg (cs.take sz)), [], [], []⟩ :=
  op_val fun s1 hv hf E g a w hr => by
    have h1 := eval_of hr hv (x := x) (by rw [ho]; simp [Op.operands]) hkx hx
    obtain ⟨b, q, hae, h, hone⟩ := vrel_cptr h1
    · -- the values
      have hval : ∃ vs : List Value, vs.length = sz ∧ ∀ (j : Nat) (c : D), cs[j]? = some c → j < sz → ∃ v, vs[j]? = some v ∧ w.cell? ⟨b, q + j, none⟩ = some v ∧ Den (MM E g s1) w c v := by
        refine ⟨(List.range sz).map fun j => ((w.cell? ⟨b, q + j, none⟩).getD undef), by simp, fun j c hj hjs => ?_⟩
        obtain ⟨v, e1, _, e3⟩ := h j c hj
        exact ⟨v, by simp [hjs, e1], e1, e3⟩
      obtain ⟨vs, hvl, hvs⟩ := hval
      have hget : ∀ j, j < sz → ∃ c, cs[j]? = some c := fun j hj => ⟨cs[j]'(by omega), List.getElem?_eq_getElem _⟩
      refine ⟨.agg vs.toArray, ?_, .d (.agg _ vs (by simp; omega) (fun x hx => hone x (List.mem_of_mem_take hx)) (fun j c hj v hv => ?_))⟩
      · unfold execOp
        rw [ho]
        have := run_loadVar_agg (w := w) (b := b) (q := q) ht ha hvl (fun j v hj => by
          have hj' : j < sz := by have := (List.getElem?_eq_some_iff.1 hj).1; omega
          obtain ⟨c, hc⟩ := hget j hj'
          obtain ⟨v', e1, e2, _⟩ := hvs j c hc hj'
          rw [e1] at hj; injection hj with hj; rw [← hj]; exact e2)
        simp [hae, Instr.loadAt, Instr.sureAddr, this]
      · have hj' : j < sz := by have := (List.getElem?_eq_some_iff.1 hv).1; omega
        simp only [List.getElem?_take, if_pos hj'] at hj
        obtain ⟨v', e1, _, e3⟩ := hvs j c hj hj'
        rw [e1] at hv; injection hv with hv; rw [← hv]; exact e3
theorem op_loadC1 {t : TypeId} {x : Operand} {cs : List D} {c : D} {u : TK} {rr : Option (Nat × Nat × Option Value)} (ho : o.op = .load t x) (hx : s.val x = .cptr cs) (hkx : okOp x = true)
    (ht : tyF P t = (some u, rr)) (ha : aggT u = false) (hl : cs[0]? = some c) : OpOK P ops o s ⟨o.dst, .d c, [], [], []⟩ :=
  op_val fun s1 hv hf E g a w hr => by
    have h1 := eval_of hr hv (x := x) (by rw [ho]; simp [Op.operands]) hkx hx
    obtain ⟨b, q, hae, h, hone⟩ := vrel_cptr h1
    · obtain ⟨v, e1, _, e3⟩ := h 0 c hl
      refine ⟨v, ?_, .d e3⟩
      unfold execOp
      rw [ho]
      have := run_loadVar_one (w := w) (b := b) (q := q) ht ha (v := v) (by simpa using e1)
      simp [hae, Instr.loadAt, Instr.sureAddr, this]

theorem op_nilCheckP {x : Operand} {p : PV} (ho : o.op = .nilCheck x) (hx : s.val x = p) (hkx : okOp x = true) (hp : (match p with | .ptr _ _ => true | .eptr _ _ _ _ => true | .cptr _ => true | _ => false) = true) :
    OpOK P ops o s ⟨o.dst, p, [], [], []⟩ :=
  op_val fun s1 hv _ E g a w hr => by
    have h1 := eval_of hr hv (x := x) (by rw [ho]; simp [Op.operands]) hkx hx
    refine ⟨a.eval x, ?_, h1⟩
    unfold execOp
    rw [ho]
    generalize hq : a.eval x = v at h1
    cases h1 <;> simp at hp <;> simp [hq]

/-! #### indexing by value, fields of values, parts of tuples -/
theorem op_indexS {t : TypeId} {x i : Operand} {k : IntKind} {n : Nat} {l : Bytes} {c : UInt8} {r : Option (Nat × Nat × Option Value)} (ho : o.op = .index t x i) (hx : s.val x = .d (.str l)) (hi : s.val i = .d (.int k n)) (hkx : okOp x = true) (hki : okOp i = true)
    (ht : tyF P t = (some .string, r)) (hn : l[n]? = some c) : OpOK P ops o s ⟨o.dst, .d (.int .u8 c.toNat), [], [], []⟩ :=
  op_val fun s1 hv _ E g a w hr => by
    have h1 := vrel_str (eval_of hr hv (x := x) (by rw [ho]; simp [Op.operands]) hkx hx)
    have h2 := vrel_int (eval_of hr hv (x := i) (by rw [ho]; simp [Op.operands]) hki hi)
    refine ⟨.int .u8 c.toNat, ?_, .d (.int _ _)⟩
    have hlt := (List.getElem?_eq_some_iff.1 hn).1
    have hg : (⟨l.toArray⟩ : ByteArray)[n]? = some c := by
      rw [ByteArray.getElem?_lt' _ _ (by rw [ByteArray.size_mk_toArray]; exact hlt)]
      rw [List.getElem?_eq_getElem hlt] at hn
      injection hn with hn
      rw [← hn]; rfl
    unfold execOp
    rw [ho]
    simp [h1, h2, Instr.index, asIntOf, run_underlying (tyF_und ht rfl), hg]
theorem op_indexA {t e : TypeId} {x i : Operand} {k : IntKind} {n len : Nat} {cs : List D} {c : D} {u : TK} {r : Option (Nat × Nat × Option Value)} {bs : Nat} {z : Option Value} (ho : o.op = .index t x i) (hx : s.val x = .d (.agg cs)) (hi : s.val i = .d (.int k n)) (hkx : okOp x = true) (hki : okOp i = true)
    (ht : tyF P t = (some (.array len e), r)) (he : tyF P e = (some u, some (1, bs, z))) (ha : aggT u = false) (hlen : n < len) (hn : cs[n]? = some c) : OpOK P ops o s ⟨o.dst, .d c, [], [], []⟩ :=
  op_val fun s1 hv _ E g a w hr => by
    have h1 := eval_of hr hv (x := x) (by rw [ho]; simp [Op.operands]) hkx hx
    have h2 := vrel_int (eval_of hr hv (x := i) (by rw [ho]; simp [Op.operands]) hki hi)
    obtain ⟨vs, hae, hl, hone, h⟩ := vrel_agg h1
    · · have hnl := (List.getElem?_eq_some_iff.1 hn).1
        have hv' : vs[n]? = some (vs[n]'(by omega)) := List.getElem?_eq_getElem _
        refine ⟨vs[n]'(by omega), ?_, .d (h n c hn _ hv')⟩
        unfold execOp
        rw [ho]
        have hb : (0 : Int) ≤ (n : Int) ∧ (n : Int) < (len : Int) := ⟨by omega, by omega⟩
        simp [hae, h2, Instr.index, asIntOf, run_underlying (tyF_und ht rfl), hb, part, run_isAgg' he, ha, run_sizeOf' he, hlen, show n < vs.length by omega]

theorem op_extract {x : Operand} {n : Nat} {ps : List PV} {p : PV} (ho : o.op = .extract x n) (hx : s.val x = .tup ps) (hkx : okOp x = true) (hn : ps[n]? = some p) : OpOK P ops o s ⟨o.dst, p, [], [], []⟩ :=
  op_val fun s1 hv _ E g a w hr => by
    have h1 := eval_of hr hv (x := x) (by rw [ho]; simp [Op.operands]) hkx hx
    obtain ⟨vs, hae, hl, h⟩ := vrel_tup h1
    · have hnl := (List.getElem?_eq_some_iff.1 hn).1
      have hv' : vs[n]? = some (vs[n]'(by omega)) := List.getElem?_eq_getElem _
      refine ⟨vs[n]'(by omega), ?_, h n p hn _ hv'⟩
      unfold execOp
      rw [ho]
      simp [hae, Instr.extract, show n < vs.length by omega]

theorem op_makeFunc {f : Fn} {first cap : Array Operand} (ho : o.op = .makeFunc f first cap) (h1 : first.toList.all okOp = true) (h2 : cap.toList.all okOp = true) :
    OpOK P ops o s ⟨o.dst, .fn f (first.toList.map s.val) (cap.toList.map s.val), [], [], []⟩ :=
  op_val fun s1 hv _ E g a w hr => by
    refine ⟨.func f (first.map a.eval) (cap.map a.eval), by unfold execOp; rw [ho]; rfl, ?_⟩
    have key : ∀ (l : Array Operand), (∀ x ∈ l, x ∈ o.op.operands) → l.toList.all okOp = true → ∀ (j : Nat) (p : PV), (l.toList.map s.val)[j]? = some p → ∀ (v : Value), (l.toList.map a.eval)[j]? = some v → VRel g (MM E g s1) w p v := by
      intro l hl hk j p hj v hv'
      simp only [List.getElem?_map, Option.map_eq_some_iff] at hj hv'
      obtain ⟨x, hx, rfl⟩ := hj
      obtain ⟨y, hy, rfl⟩ := hv'
      rw [hx] at hy; injection hy with hy; subst hy
      have hm : x ∈ l.toList := List.mem_of_getElem? hx
      exact eval_of hr hv (hl x (by simpa using hm)) (List.all_eq_true.1 hk x hm) rfl
    have := VRel.fn (g := g) (M := MM E g s1) (w := w) (f := f) (fs := first.toList.map s.val) (cs := cap.toList.map s.val) (vs := first.toList.map a.eval) (us := cap.toList.map a.eval) (by simp) (by simp)
      (key first (fun x hx => by rw [ho]; simp [Op.operands, hx]) h1) (key cap (fun x hx => by rw [ho]; simp [Op.operands, hx]) h2)
    have e1 : (first.toList.map a.eval).toArray = first.map a.eval := by apply Array.ext'; simp
    have e2 : (cap.toList.map a.eval).toArray = cap.map a.eval := by apply Array.ext'; simp
    rw [e1, e2] at this
    exact this

/-! #### max, min -/
theorem op_max {x y : Operand} {ats : Array TypeId} {k k' : IntKind} {m n : Int} (ho : o.op = .call { callee := .builtin .max, args := #[x, y], argTypes := ats }) (hx : s.val x = .d (.int k m)) (hy : s.val y = .d (.int k' n)) (hkx : okOp x = true) (hky : okOp y = true) :
    OpOK P ops o s ⟨o.dst, .d (.int k (if n > m then n else m)), [], [], []⟩ :=
  op_val fun s1 hv _ E g a w hr => by
    have h1 := vrel_int (eval_of hr hv (x := x) (by rw [ho]; simp [Op.operands, Call.operands]) hkx hx)
    have h2 := vrel_int (eval_of hr hv (x := y) (by rw [ho]; simp [Op.operands, Call.operands]) hky hy)
    refine ⟨.int k _, ?_, .d (.int _ _)⟩
    unfold execOp
    rw [ho]
    simp [resolve, invoke, builtin, h1, h2, Builtin.max_, Builtin.max2]
theorem op_min {x y : Operand} {ats : Array TypeId} {k k' : IntKind} {m n : Int} (ho : o.op = .call { callee := .builtin .min, args := #[x, y], argTypes := ats }) (hx : s.val x = .d (.int k m)) (hy : s.val y = .d (.int k' n)) (hkx : okOp x = true) (hky : okOp y = true) :
    OpOK P ops o s ⟨o.dst, .d (.int k (if n < m then n else m)), [], [], []⟩ :=
  op_val fun s1 hv _ E g a w hr => by
    have h1 := vrel_int (eval_of hr hv (x := x) (by rw [ho]; simp [Op.operands, Call.operands]) hkx hx)
    have h2 := vrel_int (eval_of hr hv (x := y) (by rw [ho]; simp [Op.operands, Call.operands]) hky hy)
    refine ⟨.int k _, ?_, .d (.int _ _)⟩
    unfold execOp
    rw [ho]
    simp [resolve, invoke, builtin, h1, h2, Builtin.min_, Builtin.min2]
end
end Go.Pm

namespace Go.Pm

theorem VRel.regh {g g' : Gh} {M : Nat → Nat → Prop} {w : World} {p : PV} {v : Value} (h : VRel g M w p v) (hg : ∀ y, p.has y = true → g'.φ y = g.φ y ∧ g'.τ y = g.τ y) : VRel g' M w p v := by
  have anyP_true : ∀ {y : Nat} {l : List PV} {j : Nat} {q : PV}, l[j]? = some q → q.has y = true → PV.has.anyP y l = true := by
    intro y l j q hj hq
    cases hh : PV.has.anyP y l with
    | true => rfl
    | false => rw [PV.anyP_false hh j q hj] at hq; cases hq
  induction h with
  | undef v => exact .undef v
  | d h => exact .d h
  | nils => exact .nils
  | full h => exact .full h
  | tail h ht => exact .tail h (by rw [(hg _ (by simp [PV.has])).2]; exact ht)
  | arr h ht hc hN => exact .arr (by rw [(hg _ (by simp [PV.has])).1]; exact h) (by rw [(hg _ (by simp [PV.has])).2]; exact ht) hc hN
  | arr0 h => exact .arr0 (by rw [(hg _ (by simp [PV.has])).1]; exact h)
  | nn h => exact .nn h
  | ptr h => exact .ptr (by rw [(hg _ (by simp [PV.has])).1]; exact h)
  | eptr h => exact .eptr (by rw [(hg _ (by simp [PV.has])).1]; exact h)
  | cptr h hone => exact .cptr h hone
  | map h => exact .map (by rw [(hg _ (by simp [PV.has])).1]; exact h)
  | fn h1 h2 _ _ i1 i2 =>
    exact .fn h1 h2 (fun j p hj v hv => i1 j p hj v hv fun y hy => hg y (by simp only [PV.has, Bool.or_eq_true]; exact .inl (anyP_true hj hy)))
      (fun j p hj v hv => i2 j p hj v hv fun y hy => hg y (by simp only [PV.has, Bool.or_eq_true]; exact .inr (anyP_true hj hy)))
  | agg hl ho _ ih => exact .agg hl ho fun j p hj v hv => ih j p hj v hv fun y hy => hg y (by simp only [PV.has]; exact anyP_true hj hy)
  | tup hl _ ih => exact .tup hl fun j p hj v hv => ih j p hj v hv fun y hy => hg y (by simp only [PV.has]; exact anyP_true hj hy)
  | iter h => exact .iter (by rw [(hg _ (by simp [PV.has])).1]; exact h)

theorem VRel.move {g g' : Gh} {M M' : Nat → Nat → Prop} {w w' : World} {p : PV} {v : Value} (h : VRel g M w p v) (hs : Same M w w') (hm : ∀ b o, (w.cell? ⟨b, o, none⟩).isSome = true → M' b o → M b o)
    (hg : ∀ y, p.has y = true → g'.φ y = g.φ y ∧ g'.τ y = g.τ y) : VRel g' M' w' p v := (h.mono hs hm rfl rfl).regh hg

theorem ORel.move {g g' : Gh} {M M' : Nat → Nat → Prop} {w w' : World} {y : Nat} {ob : Ob} (h : ORel g M w y ob) (hs : Same M w w') (hm : ∀ b o, (w.cell? ⟨b, o, none⟩).isSome = true → M' b o → M b o)
    (hg : ∀ z, ob.has z = true → g'.φ z = g.φ z ∧ g'.τ z = g.τ z) (hy : g'.φ y = g.φ y ∧ g'.τ y = g.τ y) (hb : ∀ b, g.φ y = some b → w'.heap[b]? = w.heap[b]?) : ORel g' M' w' y ob := by
  have anyP_true : ∀ {y : Nat} {l : List PV} {j : Nat} {q : PV}, l[j]? = some q → q.has y = true → PV.has.anyP y l = true := by
    intro y l j q hj hq
    cases hh : PV.has.anyP y l with
    | true => rfl
    | false => rw [PV.anyP_false hh j q hj] at hq; cases hq
  cases h with
  | cells hφ hh hl h =>
    refine .cells (by rw [hy.1]; exact hφ) (by rw [hb _ hφ]; exact hh) hl fun j p hj => ?_
    obtain ⟨v, h1, h2, h3⟩ := h j p hj
    exact ⟨v, h1, h2, h3.move hs hm fun z hz => hg z (by simp only [Ob.has]; exact anyP_true hj hz)⟩
  | arr hφ hτ hh hl hsz hone h =>
    refine .arr (by rw [hy.1]; exact hφ) (by rw [hy.2]; exact hτ) (by rw [hb _ hφ]; exact hh) hl hsz hone fun i d hi j x hj => ?_
    obtain ⟨u, h1, h2⟩ := h i d hi j x hj
    exact ⟨u, h1, h2.mono hs hm⟩
  | arr0 hφ => exact .arr0 (by rw [hy.1]; exact hφ)
  | full hτ hφ => exact .full (by rw [hy.2]; exact hτ) (by rw [hy.1]; exact hφ)
  | tail hτ hn hφ hh hl => exact .tail (by rw [hy.2]; exact hτ) hn (by rw [hy.1]; exact hφ) (by rw [hb _ hφ]; exact hh) hl
  | map hφ hh hl hst h =>
    refine .map (by rw [hy.1]; exact hφ) (by rw [hb _ hφ]; exact hh) hl hst fun j k p hj => ?_
    obtain ⟨e, h1, h2, h3⟩ := h j k p hj
    refine ⟨e, h1, h2.mono hs hm, h3.move hs hm fun z hz => hg z ?_⟩
    exact ments_has (List.mem_of_getElem? hj) hz
  | siter hφ hh => exact .siter (by rw [hy.1]; exact hφ) (by rw [hb _ hφ]; exact hh)
  | glob hφ hc hM => exact .glob (by rw [hy.1]; exact hφ) (hs _ _ _ hc hM) fun h => hM (hm _ _ (by rw [hc]; rfl) h)

/-- No slot, and no other object, bears the name x. -/
structure NoMen (s : St) (x : Nat) : Prop where
  slots : ∀ (i : Nat) (p : PV), s.sl i = some p → p.has x = false
  objs : ∀ y ob, y ≠ x → s.ob y = some ob → ob.has x = false
theorem Fresh.noMen {s : St} {x : Nat} (h : Fresh s x) : NoMen s x := ⟨h.slots, fun y ob _ => h.objs y ob⟩

/-- One object turns (or is new), and what lies in memory with it; all else stays. -/
theorem Rel.turn {E : Env} {g g' : Gh} {s s' : St} {a : Act} {w w' : World} (h : Rel E g s a w) (x : Nat) (hn : s'.n = s.n) (hslots : s'.slots = s.slots) (hob : ∀ y, y ≠ x → s'.ob y = s.ob y)
    (hg : ∀ y, y ≠ x → g'.φ y = g.φ y ∧ g'.τ y = g.τ y) (hmen : (g'.φ x = g.φ x ∧ g'.τ x = g.τ x) ∨ NoMen s x)
    (hM : ∀ b o, (w.cell? ⟨b, o, none⟩).isSome = true → MM E g' s' b o → MM E g s b o) (hsame : Same (MM E g s) w w')
    (hblk : ∀ y ob b, y ≠ x → s.ob y = some ob → g.φ y = some b → w'.heap[b]? = w.heap[b]?)
    (hx : ∀ ob, s'.ob x = some ob → ORel g' (MM E g' s') w' x ob)
    (hxb : ∀ ob b, s'.ob x = some ob → g'.φ x = some b → (∀ y ob', y ≠ x → s.ob y = some ob' → g.φ y ≠ some b) ∧ (E.B ≤ b ∨ E.imp b) ∧ b < w'.heap.size)
    (hfr : Frm E w') (hsz : w.heap.size ≤ w'.heap.size) (hkeep : x < 1000000 ∨ (g'.φ x = g.φ x ∧ g'.τ x = g.τ x)) : Rel E g' s' a w' := by
  have hgp : ∀ (p : PV), (g'.φ x = g.φ x ∧ g'.τ x = g.τ x) ∨ p.has x = false → ∀ y, p.has y = true → g'.φ y = g.φ y ∧ g'.τ y = g.τ y := by
    intro p hp y hy
    by_cases hyx : y = x
    · subst hyx
      rcases hp with hp | hp
      · exact hp
      · rw [hp] at hy; cases hy
    · exact hg y hyx
  have hsl : ∀ i, s'.sl i = s.sl i := fun i => by unfold St.sl; rw [hslots]
  refine ⟨by rw [hn]; exact h.size, h.defers, fun i p hi => ?_, fun y ob hy => ?_, fun y z ob ob' b h1 h2 h3 h4 => ?_, fun y ob b h1 h2 => ?_, hfr, h.av, fun y hy => ?_⟩
  · rw [hsl] at hi
    obtain ⟨v, h1, h2⟩ := h.slots i p hi
    exact ⟨v, h1, h2.move hsame hM (hgp p (hmen.imp id fun n => n.slots i p hi))⟩
  · by_cases hyx : y = x
    · subst hyx; exact hx ob hy
    · have hy' : s.ob y = some ob := by rw [← hob y hyx]; exact hy
      refine (h.objs y ob hy').move hsame hM (fun z hz => ?_) (hg y hyx) (fun b hb => hblk y ob b hyx hy' hb)
      by_cases hzx : z = x
      · subst hzx
        rcases hmen with hm | hm
        · exact hm
        · rw [hm.objs y ob hyx hy'] at hz; cases hz
      · exact hg z hzx
  · by_cases hyx : y = x <;> by_cases hzx : z = x
    · rw [hyx, hzx]
    · subst hyx
      rw [hob z hzx] at h2
      rw [(hg z hzx).1] at h4
      exact absurd h4 ((hxb ob b h1 h3).1 z ob' hzx h2)
    · subst hzx
      rw [hob y hyx] at h1
      rw [(hg y hyx).1] at h3
      exact absurd h3 ((hxb ob' b h2 h4).1 y ob hyx h1)
    · rw [hob y hyx] at h1
      rw [hob z hzx] at h2
      rw [(hg y hyx).1] at h3
      rw [(hg z hzx).1] at h4
      exact h.inj y z ob ob' b h1 h2 h3 h4
  · by_cases hyx : y = x
    · subst hyx; exact (hxb ob b h1 h2).2
    · rw [hob y hyx] at h1
      rw [(hg y hyx).1] at h2
      have := h.own y ob b h1 h2
      exact ⟨this.1, by omega⟩
  · by_cases hyx : y = x
    · subst hyx
      rcases hkeep with hk | hk
      · exact absurd hy (Nat.not_le.2 hk)
      · rw [hk.1, hk.2]; exact h.keep y hy
    · rw [(hg y hyx).1, (hg y hyx).2]; exact h.keep y hy

/-! ### A new block -/
theorem Same.alloc (M : Nat → Nat → Prop) (w : World) (o : Obj) : Same M w (w.alloc o) := fun b q u hu _ => by
  rw [World.cell?_alloc_lt]
  · exact hu
  · exact World.block_lt_of_cell? w ⟨b, q, none⟩ hu
theorem Frm.alloc {E : Env} {w : World} (h : Frm E w) (o : Obj) : Frm E (w.alloc o) :=
  ⟨by have := h.size; simp; omega, h.os, h.tape, h.output, fun k hk hi => by
    rw [RowKit.Below.heap_alloc _ _ _ (by have := h.size; omega)]; exact h.block k hk hi, h.gok⟩

/-- A block that is no object: what it bears is data for good. -/
theorem Rel.alloc_data {E : Env} {g : Gh} {s : St} {a : Act} {w : World} (h : Rel E g s a w) (o : Obj) : Rel E g s a (w.alloc o) := by
  have hs := Same.alloc (MM E g s) w o
  refine ⟨h.size, h.defers, fun i p hi => ?_, fun y ob hy => ?_, h.inj, fun y ob b h1 h2 => ?_, h.fr.alloc o, h.av, h.keep⟩
  · obtain ⟨v, h1, h2⟩ := h.slots i p hi
    exact ⟨v, h1, h2.move hs (fun _ _ _ hm => hm) fun _ _ => ⟨rfl, rfl⟩⟩
  · refine (h.objs y ob hy).move hs (fun _ _ _ hm => hm) (fun _ _ => ⟨rfl, rfl⟩) ⟨rfl, rfl⟩ fun b hb => ?_
    exact RowKit.Below.heap_alloc _ _ _ (h.own y ob b hy hb).2
  · have := h.own y ob b h1 h2
    exact ⟨this.1, by simp; omega⟩

/-- What may be written lies in blocks that are there. -/
theorem Rel.mm_lt {E : Env} {g : Gh} {s : St} {a : Act} {w : World} (h : Rel E g s a w) {b q : Nat} (hm : MM E g s b q) : b < w.heap.size := by
  rcases hm with hm | ⟨x, ob, hx, hm⟩
  · have := (h.av b q hm).1; have := h.fr.size; omega
  · have hor := h.objs x ob hx
    have key : g.φ x = some b → b < w.heap.size := fun hφ => (h.own x ob b hx hφ).2
    cases hor with
    | full hτ hφ =>
      obtain ⟨n, c, o0, h1, h2, _⟩ := hm
      rw [hτ] at h1
      injection h1 with h1; injection h1 with _ h3 h4
      omega
    | tail hτ hn hφ hb hl =>
      obtain ⟨n, c, o0, h1, h2, _⟩ := hm
      rw [hτ] at h1
      injection h1 with h1; injection h1 with h1 _ _
      injection h1 with h1
      injection h1 with h1 _ _
      subst h1
      exact key hφ
    | _ => exact key hm

theorem MM_put_old {E : Env} {g : Gh} {s : St} {x : Nat} {ob : Ob} {b : Option Nat} {v : Option Value} {bb o : Nat} (h : MM E (g.put x b v) ⟨s.n, s.slots, setOb s.objs x (some ob)⟩ bb o) :
    MM E g s bb o ∨ mutAt (g.put x b v) x ob bb o := by
  rcases h with h | ⟨y, ob', hy, hm⟩
  · exact .inl (.inl h)
  · have hy' : look (setOb s.objs x (some ob)) y = some ob' := hy
    rw [look_setOb] at hy'
    by_cases hyx : y = x
    · subst hyx
      simp only [if_true] at hy'
      injection hy' with hy'; subst hy'
      exact .inr hm
    · rw [if_neg hyx] at hy'
      refine .inl (.inr ⟨y, ob', hy', ?_⟩)
      cases ob' <;> simp only [mutAt, Gh.put, if_neg hyx] at hm ⊢ <;> exact hm

/-- A new block that is the object x. -/
theorem Rel.alloc_obj {E : Env} {g : Gh} {s : St} {a : Act} {w : World} (h : Rel E g s a w) {x : Nat} (hx : Fresh s x) (hx6 : x < 1000000) (ob : Ob) (o : Obj) (v : Option Value)
    (hmut : ∀ b q, mutAt (g.put x (some w.heap.size) v) x ob b q → b = w.heap.size)
    (hor : ∀ M', (∀ b q, (w.cell? ⟨b, q, none⟩).isSome = true → M' b q → MM E g s b q) → (∀ q, M' w.heap.size q → mutAt (g.put x (some w.heap.size) v) x ob w.heap.size q) → ORel (g.put x (some w.heap.size) v) M' (w.alloc o) x ob) :
    Rel E (g.put x (some w.heap.size) v) ⟨s.n, s.slots, setOb s.objs x (some ob)⟩ a (w.alloc o) := by
  have hM : ∀ b q, (w.cell? ⟨b, q, none⟩).isSome = true → MM E (g.put x (some w.heap.size) v) ⟨s.n, s.slots, setOb s.objs x (some ob)⟩ b q → MM E g s b q := by
    intro b q hc hm
    rcases MM_put_old hm with hm | hm
    · exact hm
    · exfalso
      obtain ⟨u, hu⟩ := Option.isSome_iff_exists.1 hc
      have hlt : b < w.heap.size := World.block_lt_of_cell? w ⟨b, q, none⟩ hu
      have := hmut b q hm
      omega
  refine h.turn x rfl rfl (fun y hy => ?_) (fun y hy => ?_) (.inr hx.noMen) hM (Same.alloc _ _ _) (fun y ob' b hy h1 h2 => ?_) (fun ob' h1 => ?_) (fun ob' b h1 h2 => ?_) (h.fr.alloc o) (by simp) (.inl hx6)
  · show look _ _ = look _ _
    rw [look_setOb, if_neg hy]
  · simp [Gh.put, hy]
  · exact RowKit.Below.heap_alloc _ _ _ (h.own y ob' b h1 h2).2
  · have h1' : look (setOb s.objs x (some ob)) x = some ob' := h1
    rw [look_setOb, if_pos rfl] at h1'
    injection h1' with h1'; subst h1'
    refine hor _ hM fun q hq => ?_
    rcases MM_put_old hq with hq | hq
    · exfalso; have := h.mm_lt hq; omega
    · exact hq
  · simp only [Gh.put, if_true] at h2
    injection h2 with h2; subst h2
    refine ⟨fun y ob'' hy h3 h4 => ?_, .inl h.fr.size, by simp⟩
    have := (h.own y ob'' _ h3 h4).2
    omega

section
variable {P : Program} {ops : Array Oper} {o : Oper} {s : St}

/-- The cells of a value, one by one. -/
def cellsP : PV → Option (List PV)
  | .d (.agg cs) => some (cs.map .d)
  | .agg cs => some cs
  | .tup _ => none
  | .undef => none
  | p => some [p]

theorem cellsP_rel {g : Gh} {M : Nat → Nat → Prop} {w : World} {p : PV} {cs : List PV} {v : Value} (h : cellsP p = some cs) (r : VRel g M w p v) :
    v.cells.size = cs.length ∧ ∀ (j : Nat) (q : PV), cs[j]? = some q → ∃ u, v.cells[j]? = some u ∧ u.oneCell' = true ∧ VRel g M w q u := by
  have one : ∀ {p : PV} {v : Value}, VRel g M w p v → v.oneCell' = true → (v.cells = #[v]) → v.cells.size = [p].length ∧ ∀ (j : Nat) (q : PV), [p][j]? = some q → ∃ u, v.cells[j]? = some u ∧ u.oneCell' = true ∧ VRel g M w q u := by
    intro p v hr ho hc
    rw [hc]
    refine ⟨rfl, fun j q hj => ?_⟩
    cases j with
    | zero => simp at hj; subst hj; exact ⟨v, by simp, ho, hr⟩
    | succ j => simp at hj
  have hr := r
  cases r with
  | undef v => simp [cellsP] at h
  | d hd =>
    cases hd with
    | agg ds vs hl hone hh =>
      simp only [cellsP] at h; injection h with h; subst h
      refine ⟨by simp [Value.cells, hl], fun j q hj => ?_⟩
      simp only [List.getElem?_map, Option.map_eq_some_iff] at hj
      obtain ⟨x, hx, rfl⟩ := hj
      have hjl : j < vs.length := by have := (List.getElem?_eq_some_iff.1 hx).1; omega
      have hv := List.getElem?_eq_getElem hjl
      have hden := hh j x hx _ hv
      exact ⟨_, by simp [Value.cells, hjl], hden.one (hone x (List.mem_of_getElem? hx)), .d hden⟩
    | _ => simp only [cellsP] at h; injection h with h; subst h; exact one hr rfl rfl
  | nils => simp only [cellsP] at h; injection h with h; subst h; exact one hr rfl rfl
  | full hd => simp only [cellsP] at h; injection h with h; subst h; exact one hr rfl rfl
  | tail hd ht =>
    simp only [cellsP] at h; injection h with h; subst h
    obtain ⟨a, c, he, _⟩ := den_len hd
    subst he
    exact one hr rfl rfl
  | arr _ _ => simp only [cellsP] at h; injection h with h; subst h; exact one hr rfl rfl
  | arr0 _ => simp only [cellsP] at h; injection h with h; subst h; exact one hr rfl rfl
  | ptr _ => simp only [cellsP] at h; injection h with h; subst h; exact one hr rfl rfl
  | eptr _ => simp only [cellsP] at h; injection h with h; subst h; exact one hr rfl rfl
  | cptr _ _ => simp only [cellsP] at h; injection h with h; subst h; exact one hr rfl rfl
  | nn _ => simp only [cellsP] at h; injection h with h; subst h; exact one hr rfl rfl
  | map _ => simp only [cellsP] at h; injection h with h; subst h; exact one hr rfl rfl
  | fn _ _ _ _ => simp only [cellsP] at h; injection h with h; subst h; exact one hr rfl rfl
  | agg hl ho hh =>
    rename_i cs' vs
    simp only [cellsP] at h; injection h with h; subst h
    refine ⟨by simp [Value.cells, hl], fun j q hj => ?_⟩
    have hjl : j < vs.length := by have := (List.getElem?_eq_some_iff.1 hj).1; omega
    have hv := List.getElem?_eq_getElem hjl
    exact ⟨_, by simp [Value.cells, hjl], ho _ (List.getElem_mem hjl), hh j q hj _ hv⟩
  | tup _ _ => simp [cellsP] at h
  | iter _ => simp only [cellsP] at h; injection h with h; subst h; exact one hr rfl rfl

theorem constCell_has (x : Nat) (v : Value) : (constCell v).has x = false := by unfold constCell; split <;> rfl
theorem joinP_has {x : Nat} {ps : List PV} (h : PV.has.anyP x ps = false) : (joinP ps).has x = false := by
  unfold joinP; split
  · rfl
  · exact h
theorem anyP_all {x : Nat} : ∀ {l : List PV}, (∀ p ∈ l, p.has x = false) → PV.has.anyP x l = false
  | [], _ => rfl
  | p :: r, h => by simp only [PV.has.anyP, h p List.mem_cons_self, anyP_all fun q hq => h q (List.mem_cons_of_mem _ hq), Bool.or_false]
theorem constPV_has (x : Nat) (v : Value) : (constPV v).has x = false := by
  unfold constPV; split
  · refine joinP_has (anyP_all fun p hp => ?_)
    obtain ⟨v, _, rfl⟩ := List.mem_map.1 hp
    exact constCell_has x v
  · exact constCell_has x v
theorem val_has {s : St} {x : Nat} (h : ∀ (i : Nat) (p : PV), s.sl i = some p → p.has x = false) (y : Operand) : (s.val y).has x = false := by
  cases y with
  | tmp t =>
    show ((s.sl t).getD .undef).has x = false
    cases hs : s.sl t with
    | some p => exact h t p hs
    | none => rfl
  | const v => exact constPV_has x v
  | func f => rfl
  | global g => rfl
theorem cellsP_has {x : Nat} {p : PV} {cs : List PV} (h : cellsP p = some cs) (hp : p.has x = false) : ∀ q ∈ cs, q.has x = false := by
  unfold cellsP at h
  split at h
  · injection h with h; subst h
    intro q hq
    obtain ⟨y, _, rfl⟩ := List.mem_map.1 hq
    rfl
  · injection h with h; subst h
    intro q hq
    obtain ⟨j, hj⟩ := List.mem_iff_getElem?.1 hq
    exact PV.anyP_false hp j q hj
  · cases h
  · cases h
  · injection h with h; subst h
    intro q hq
    rw [List.mem_singleton.1 hq]; exact hp

theorem app_one (s : St) (d : Option Tmp) (p : PV) (f n : List Nat) (x : Nat) (r : Option Ob) : s.app ⟨d, p, f, n, [(x, r)]⟩ = (⟨s.n, s.slots, setOb s.objs x r⟩ : St).put d p := by cases d <;> rfl

/-- A new object out of a value: 'box'. -/
theorem op_box {t : TypeId} {x : Operand} {d : Tmp} {cs : List PV} (ho : o.op = .box t x) (hd : o.dst = some d) (hd6 : d < 1000000) (hx : cellsP (s.val x) = some cs) (hkx : okOp x = true) :
    OpOK P ops o s ⟨o.dst, .ptr d 0, [], [d], [(d, some (.cells cs))]⟩ := by
  intro s1 ha hf hn hdb E g a w hr K Qx hK
  have h1 := eval_of (s := s) hr (fun x hx => val_agree ha hx) (x := x) (by rw [ho]; simp [Op.operands]) hkx rfl
  obtain ⟨hlen, hcell⟩ := cellsP_rel hx h1
  unfold Oper.wp
  have hrun : (execOp a.eval o).run P w = .ok (.value (.pointer (some ⟨w.heap.size, 0, none⟩))) (w.alloc (.cells (a.eval x).cells t)) := by
    unfold execOp; rw [ho]; simp [Instr.box, newVar, newRow]
  rw [hrun]
  have hrel := hr.alloc_obj (x := d) (hn d (by simp)) hd6 (.cells cs) (.cells (a.eval x).cells t) none (fun b q hm => by simp [mutAt, Gh.put] at hm; omega) (fun M' hM' _ => by
    refine .cells (by simp [Gh.put]) (heap_alloc_new w _) hlen fun j p hj => ?_
    obtain ⟨u, e1, e2, e3⟩ := hcell j p hj
    refine ⟨u, e1, e2, e3.move (Same.alloc _ _ _) hM' fun y hy => ?_⟩
    have hxd : p.has d = false := cellsP_has hx (by rw [← val_agree ha (x := x) (by rw [ho]; simp [Op.operands])]; exact val_has (hn d (by simp)).slots x) p (List.mem_of_getElem? hj)
    have : y ≠ d := by rintro rfl; rw [hxd] at hy; cases hy
    simp [Gh.put, this])
  refine hK _ _ (g.put d (some w.heap.size) none) ?_
  rw [app_one]
  exact hrel.put (dB_spec hdb) (.ptr (by simp [Gh.put]))
end
end Go.Pm

namespace Go.Pm

def packR (vs : Array Value) : Value := if h : vs.size = 1 then vs[0] else .tuple vs

def numS : Nat → List PV → List (Nat × PV)
  | _, [] => []
  | k, p :: r => (k, p) :: numS (k + 1) r
theorem look_numS : ∀ (l : List PV) (k i : Nat), lookS (numS k l) i = if k ≤ i then l[i - k]? else none
  | [], k, i => by simp [numS, lookS]
  | p :: r, k, i => by
    simp only [numS, lookS, look_numS r (k + 1) i]
    by_cases h : k = i
    · subst h; simp
    · rw [if_neg h]
      by_cases h2 : k + 1 ≤ i
      · rw [if_pos h2, if_pos (by omega)]
        rw [show i - k = (i - (k + 1)) + 1 from by omega, List.getElem?_cons_succ]
      · rw [if_neg h2, if_neg (by omega)]
/-- A row of values, told by their places. -/
def St.of (ps : List PV) (O : List (Nat × Ob)) : St := ⟨ps.length, numS 0 ps, O⟩
theorem of_sl (ps : List PV) (O : List (Nat × Ob)) (i : Nat) : (St.of ps O).sl i = ps[i]? := by
  show lookS (numS 0 ps) i = _
  rw [look_numS]; simp

/-- THE CONTRACT: called with arguments that stand as 'args' tells, over the objects O, it returns results that stand as 'rs' tells, and leaves the objects O'. -/
def Fn (P : Program) (f : FuncId) (args : List PV) (O : List (Nat × Ob)) (rs : List PV) (O' : List (Nat × Ob)) : Prop :=
  ∀ (E : Env) (g : Gh) (cargs : Array Value), Rel E g (St.of args O) ⟨cargs, []⟩ E.w0 →
    Calls P f cargs E.w0 fun e w' => ∃ g' vs, e = .returned (packR vs) ∧ Rel E g' (St.of rs O') ⟨vs, []⟩ w'

/-! ### A body gives a contract -/
def ResOK (P : Program) : List ResultVar → St → List PV → Prop
  | [], _, [] => True
  | .tmp t :: r, s, p :: ps => s.sl t = some p ∧ ResOK P r s ps
  | .cell a t :: r, s, p :: ps => (∃ x q cs u sz bs z, s.sl a = some (.ptr x q) ∧ s.ob x = some (.cells cs) ∧ tyF P t = (some u, some (sz, bs, z)) ∧ q + sz ≤ cs.length ∧
      (if aggT u then joinP ((cs.drop q).take sz) = p else cs[q]? = some p)) ∧ ResOK P r s ps
  | _, _, _ => False

theorem load_cells {P : Program} {t : TypeId} {u : TK} {sz bs : Nat} {z : Option Value} {E : Env} {g : Gh} {s : St} {a : Act} {w : World} (hr : Rel E g s a w) {r : Nat} {q : Nat} {cs : List PV} (hob : s.ob r = some (.cells cs))
    (ht : tyF P t = (some u, some (sz, bs, z))) (hl : q + sz ≤ cs.length) {p : PV} (hp : if aggT u then joinP ((cs.drop q).take sz) = p else cs[q]? = some p) {b : Nat} (hφ : g.φ r = some b) :
    ∃ v, (loadVar t ⟨b, q, none⟩).run P w = .ok v w ∧ VRel g (MM E g s) w p v := by
  obtain ⟨b', vs, elem, hφ', hb, hlen, h⟩ := orel_cells (hr.objs r _ hob)
  rw [hφ] at hφ'; injection hφ' with hφ'; subst hφ'
  cases ha : aggT u with
  | true =>
    rw [ha, if_pos rfl] at hp
    have hvl : ((vs.toList.drop q).take sz).length = sz := by simp; omega
    refine ⟨.agg ((vs.toList.drop q).take sz).toArray, ?_, ?_⟩
    · exact run_loadVar_agg (w := w) (b := b) (q := q) ht ha hvl (fun j v hj => by
        have hj' : j < sz := by have := (List.getElem?_eq_some_iff.1 hj).1; omega
        simp only [List.getElem?_take, if_pos hj', List.getElem?_drop] at hj
        simp only [World.cell?, hb]
        simpa using hj)
    · rw [← hp]
      refine joinP_rel (by simp; omega) (fun v hv => ?_) (fun j p hj v hv => ?_)
      · have hv' := List.mem_of_mem_drop (List.mem_of_mem_take hv)
        obtain ⟨j, hj⟩ := List.mem_iff_getElem?.1 hv'
        have hjl : j < cs.length := by have := (List.getElem?_eq_some_iff.1 hj).1; simp at this; omega
        obtain ⟨v', e1, e2, _⟩ := h j _ (List.getElem?_eq_getElem hjl)
        have : v' = v := by
          have : vs[j]? = some v := by simpa using hj
          rw [e1] at this; exact Option.some.inj this
        rw [← this]; exact e2
      · have hj' : j < sz := by have := (List.getElem?_eq_some_iff.1 hj).1; simp at this; omega
        simp only [List.getElem?_take, if_pos hj', List.getElem?_drop] at hj hv
        obtain ⟨v', e1, _, e3⟩ := h _ p hj
        have : v' = v := by
          have : vs[q + j]? = some v := by simpa using hv
          rw [e1] at this; exact Option.some.inj this
        rw [← this]; exact e3
  | false =>
    rw [ha] at hp
    simp only [Bool.false_eq_true, if_false] at hp
    obtain ⟨v, e1, _, e3⟩ := h q p hp
    exact ⟨v, run_loadVar_one (w := w) (b := b) (q := q) ht ha (v := v) (by simp [World.cell?, hb, e1]), e3⟩

def resSem (tmps : Array Value) : ResultVar → Sem Value
  | .tmp t => pure (tmps.getD t undef)
  | .cell a t => do loadVar t (← asAddr (tmps.getD a undef))
theorem results_eq (fn : Func) (tmps : Array Value) : results fn tmps = (do let vs ← fn.results.mapM (resSem tmps); pure (packR vs)) := by
  unfold results
  have : (fun (x : ResultVar) => match x with
    | .tmp t => (pure (tmps.getD t undef) : Sem Value)
    | .cell a t => do loadVar t (← asAddr (tmps.getD a undef))) = resSem tmps := by
    funext x; cases x <;> rfl
  rw [← this]
  rfl

theorem results_run {P : Program} {E : Env} {g : Gh} {s : St} {a : Act} {w : World} (hr : Rel E g s a w) : ∀ (l : List ResultVar) (ps : List PV), ResOK P l s ps →
    ∃ vs : List Value, (l.mapM (resSem a.tmps)).run P w = .ok vs w ∧ vs.length = ps.length ∧ ∀ (j : Nat) (p : PV), ps[j]? = some p → ∀ (v : Value), vs[j]? = some v → VRel g (MM E g s) w p v
  | [], [], _ => ⟨[], rfl, rfl, fun j p h => by simp at h⟩
  | [], p :: ps, h => h.elim
  | .tmp t :: r, [], h => h.elim
  | .cell c t :: r, [], h => h.elim
  | .tmp t :: r, p :: ps, h => by
    obtain ⟨h1, h2⟩ := h
    obtain ⟨vs, e1, e2, e3⟩ := results_run hr r ps h2
    refine ⟨a.tmps.getD t undef :: vs, ?_, by simp [e2], fun j q hj v hv => ?_⟩
    · rw [List.mapM_cons]
      simp only [resSem, Sem.run_bind, Sem.run_pure, Result.andThen_ok, e1]
    · cases j with
      | zero =>
        simp only [List.getElem?_cons_zero, Option.some.injEq] at hj hv
        subst hj; subst hv
        have := val_rel hr (.tmp t) rfl
        rw [show s.val (.tmp t) = p from by show (s.sl t).getD _ = p; rw [h1]; rfl] at this
        exact this
      | succ j => exact e3 j q (by simpa using hj) v (by simpa using hv)
  | .cell c t :: r, p :: ps, h => by
    obtain ⟨⟨x, q, cs, u, sz, bs, z, g1, g2, g3, g4, g5⟩, h2⟩ := h
    obtain ⟨vs, e1, e2, e3⟩ := results_run hr r ps h2
    obtain ⟨v0, k1, k2⟩ := hr.slots c _ g1
    obtain ⟨b, k3, hφ⟩ := vrel_ptr k2
    obtain ⟨v, l1, l2⟩ := load_cells hr g2 g3 g4 g5 hφ
    refine ⟨v :: vs, ?_, by simp [e2], fun j q hj v' hv => ?_⟩
    · rw [List.mapM_cons]
      have hc : a.tmps.getD c undef = .pointer (some ⟨b, q, none⟩) := by rw [Array.getD_eq_getD_getElem?, k1, k3]; rfl
      have hpa : asAddr (.pointer (some ⟨b, q, none⟩)) = (pure ⟨b, q, none⟩ : Sem Addr) := rfl
      simp only [resSem, hc, hpa, Sem.run_bind, Sem.run_pure, Result.andThen_ok, l1, e1]
    · cases j with
      | zero =>
        simp only [List.getElem?_cons_zero, Option.some.injEq] at hj hv
        subst hj; subst hv
        exact l2
      | succ j => exact e3 j _ (by simpa using hj) v' (by simpa using hv)

theorem Rel.reslot {E : Env} {g : Gh} {s : St} {a : Act} {w : World} (hr : Rel E g s a w) {ps : List PV} {vs : Array Value} (hl : vs.size = ps.length)
    (h : ∀ (j : Nat) (p : PV), ps[j]? = some p → ∃ v, vs[j]? = some v ∧ VRel g (MM E g s) w p v) : Rel E g (St.of ps s.objs) ⟨vs, []⟩ w :=
  ⟨hl, rfl, (fun i p hi => h i p (by rw [of_sl] at hi; exact hi)), hr.objs, hr.inj, hr.own, hr.fr, hr.av, hr.keep⟩

/-- What the end of a body owes. -/
def retQ (P : Program) (fn : Func) (rs : List PV) (O' : List (Nat × Ob)) : Exit → St → Prop
  | .normal, s | .ret, s => ∃ ps, ResOK P fn.results.toList s ps ∧ Ent (St.of ps s.objs) (St.of rs O')
  | _, _ => False

theorem fn_of_awp {P : Program} {f : FuncId} {fn : Func} {c : Code} {args : List PV} {O : List (Nat × Ob)} {rs : List PV} {O' : List (Nat × Ob)} (hf : P.funcs[f]? = some fn) (hb : fn.body = some c)
    {N : Nat} (hN : args.length + (fn.ntmps - args.length) = N) (h : awp P c (retQ P fn rs O') ⟨N, numS 0 args, O⟩) : Fn P f args O rs O' := by
  intro E g cargs hr
  have hsz : cargs.size = args.length := hr.size
  refine calls_of_wp hf hb ?_
  have hr0 : Rel E g ⟨N, numS 0 args, O⟩ ⟨cargs ++ Array.replicate (fn.ntmps - cargs.size) undef, []⟩ E.w0 := by
    refine ⟨by simp [hsz, ← hN], rfl, fun i p hi => ?_, hr.objs, hr.inj, hr.own, hr.fr, hr.av, hr.keep⟩
    have hM : MM E g ⟨N, numS 0 args, O⟩ = MM E g (St.of args O) := rfl
    rw [hM]
    obtain ⟨v, h1, h2⟩ := hr.slots i p hi
    refine ⟨v, ?_, h2⟩
    show (cargs ++ _)[i]? = some v
    rw [Array.getElem?_append_left (Array.getElem?_eq_some_iff.1 h1).1]; exact h1
  refine wp_mono (h E g _ _ hr0) fun x a' w' ⟨s', g', hq, hr'⟩ => ?_
  have fin : (∃ ps, ResOK P fn.results.toList s' ps ∧ Ent (St.of ps s'.objs) (St.of rs O')) → a'.defers = [] ∧ ∃ v, (results fn a'.tmps).run P w' = .ok v w' ∧ ∃ g' vs, Ending.returned v = .returned (packR vs) ∧ Rel E g' (St.of rs O') ⟨vs, []⟩ w' := by
    rintro ⟨ps, h1, h2⟩
    obtain ⟨vs, e1, e2, e3⟩ := results_run hr' _ _ h1
    have hre := hr'.reslot (ps := ps) (vs := vs.toArray) (by simp [e2]) (fun j p hj => by
      have hjl : j < vs.length := by have := (List.getElem?_eq_some_iff.1 hj).1; omega
      exact ⟨vs[j], by simp [hjl], e3 j p hj _ (List.getElem?_eq_getElem hjl)⟩)
    obtain ⟨g2, hr2⟩ := h2 E g' _ _ hre
    refine ⟨hr'.defers, packR vs.toArray, ?_, g2, vs.toArray, rfl, hr2⟩
    have : (fn.results.mapM (resSem a'.tmps)).run P w' = .ok vs.toArray w' := by
      rw [Array.mapM_eq_mapM_toList]
      simp only [Sem.run_map, e1, Result.andThen_ok]
    rw [results_eq]
    simp only [Sem.run_bind, this, Result.andThen_ok, Sem.run_pure]
  cases x with
  | normal => exact fin hq
  | ret => exact fin hq
  | exit id => exact hq.elim
  | goto l => exact hq.elim
  | panic ch => exact hq.elim
  | outgrown => exact hq.elim
end Go.Pm

namespace Go.Pm

/-! ### Other names -/
def PV.ren (ρ : Nat → Nat) : PV → PV
  | .tl ds (some x) => .tl ds (some (ρ x))
  | .arr x sz off len => .arr (ρ x) sz off len
  | .ptr x off => .ptr (ρ x) off
  | .eptr x sz i fo => .eptr (ρ x) sz i fo
  | .map x => .map (ρ x)
  | .iter x => .iter (ρ x)
  | .fn f fs cs => .fn f (renL fs) (renL cs)
  | .agg cs => .agg (renL cs)
  | .tup cs => .tup (renL cs)
  | p => p
where
  renL : List PV → List PV
    | [] => []
    | p :: r => PV.ren ρ p :: renL r
abbrev renL (ρ : Nat → Nat) (l : List PV) : List PV := PV.ren.renL ρ l
def renM (ρ : Nat → Nat) : List (D × PV) → List (D × PV)
  | [] => []
  | (k, p) :: r => (k, p.ren ρ) :: renM ρ r
def Ob.ren (ρ : Nat → Nat) : Ob → Ob
  | .cells cs => .cells (renL ρ cs)
  | .map dm es => .map dm (renM ρ es)
  | .miter m l => .miter (ρ m) l
  | ob => ob

theorem renL_get (ρ : Nat → Nat) : ∀ (l : List PV) (j : Nat), (PV.ren.renL ρ l)[j]? = (l[j]?).map (PV.ren ρ)
  | [], j => by simp [PV.ren.renL]
  | p :: r, 0 => by simp [PV.ren.renL]
  | p :: r, j + 1 => by simp only [PV.ren.renL, List.getElem?_cons_succ]; exact renL_get ρ r j
theorem renL_length (ρ : Nat → Nat) : ∀ (l : List PV), (PV.ren.renL ρ l).length = l.length
  | [] => rfl
  | p :: r => by simp only [PV.ren.renL, List.length_cons, renL_length ρ r]
theorem renM_get (ρ : Nat → Nat) : ∀ (l : List (D × PV)) (j : Nat), (renM ρ l)[j]? = (l[j]?).map fun e => (e.1, e.2.ren ρ)
  | [], j => by simp [renM]
  | (k, p) :: r, 0 => by simp [renM]
  | (k, p) :: r, j + 1 => by simp only [renM, List.getElem?_cons_succ]; exact renM_get ρ r j
theorem renM_length (ρ : Nat → Nat) : ∀ (l : List (D × PV)), (renM ρ l).length = l.length
  | [] => rfl
  | (k, p) :: r => by simp only [renM, List.length_cons, renM_length ρ r]

theorem ments_ren (ρ : Nat → Nat) (dm : List (D × D)) (es : List (D × PV)) : ments dm (renM ρ es) = renM ρ (ments dm es) := by
  apply List.ext_getElem?; intro j
  simp only [ments, renM_get]
  by_cases h : j < dm.length
  · rw [List.getElem?_append_left (by simpa using h), List.getElem?_append_left (by simpa using h), List.getElem?_map]
    cases dm[j]? <;> rfl
  · rw [List.getElem?_append_right (by simpa using h), List.getElem?_append_right (by simpa using h), renM_get]

def Gh.com (g : Gh) (ρ : Nat → Nat) : Gh := ⟨fun x => g.φ (ρ x), fun x => g.τ (ρ x)⟩

theorem vrel_ren {g gc : Gh} {ρ : Nat → Nat} {M : Nat → Nat → Prop} {w : World} {p : PV} {v : Value} (h : VRel g M w p v) (hg : ∀ y, p.has y = true → gc.φ (ρ y) = g.φ y ∧ gc.τ (ρ y) = g.τ y) : VRel gc M w (p.ren ρ) v := by
  have anyP_true : ∀ {y : Nat} {l : List PV} {j : Nat} {q : PV}, l[j]? = some q → q.has y = true → PV.has.anyP y l = true := by
    intro y l j q hj hq
    cases hh : PV.has.anyP y l with
    | true => rfl
    | false => rw [PV.anyP_false hh j q hj] at hq; cases hq
  have lift : ∀ {l : List PV} {vs : List Value}, (∀ (j : Nat) (p : PV), l[j]? = some p → ∀ (v : Value), vs[j]? = some v → VRel gc M w (p.ren ρ) v) →
      ∀ (j : Nat) (p : PV), (PV.ren.renL ρ l)[j]? = some p → ∀ (v : Value), vs[j]? = some v → VRel gc M w p v := by
    intro l vs hh j p hj v hv
    rw [renL_get] at hj
    obtain ⟨q, hq, rfl⟩ := Option.map_eq_some_iff.1 hj
    exact hh j q hq v hv
  induction h with
  | undef v => exact .undef v
  | d h => exact .d h
  | nils => exact .nils
  | full h => exact .full h
  | tail h ht => exact .tail h (by rw [(hg _ (by simp [PV.has])).2]; exact ht)
  | arr h ht hc hN => exact .arr (by rw [(hg _ (by simp [PV.has])).1]; exact h) (by rw [(hg _ (by simp [PV.has])).2]; exact ht) hc hN
  | arr0 h => exact .arr0 (by rw [(hg _ (by simp [PV.has])).1]; exact h)
  | nn h => exact .nn h
  | ptr h => exact .ptr (by rw [(hg _ (by simp [PV.has])).1]; exact h)
  | eptr h => exact .eptr (by rw [(hg _ (by simp [PV.has])).1]; exact h)
  | cptr h hone => exact .cptr h hone
  | map h => exact .map (by rw [(hg _ (by simp [PV.has])).1]; exact h)
  | fn h1 h2 _ _ i1 i2 =>
    exact .fn (by rw [renL_length]; exact h1) (by rw [renL_length]; exact h2)
      (lift fun j p hj v hv => i1 j p hj v hv fun y hy => hg y (by simp only [PV.has, Bool.or_eq_true]; exact .inl (anyP_true hj hy)))
      (lift fun j p hj v hv => i2 j p hj v hv fun y hy => hg y (by simp only [PV.has, Bool.or_eq_true]; exact .inr (anyP_true hj hy)))
  | agg hl ho _ ih => exact .agg (by rw [renL_length]; exact hl) ho (lift fun j p hj v hv => ih j p hj v hv fun y hy => hg y (by simp only [PV.has]; exact anyP_true hj hy))
  | tup hl _ ih => exact .tup (by rw [renL_length]; exact hl) (lift fun j p hj v hv => ih j p hj v hv fun y hy => hg y (by simp only [PV.has]; exact anyP_true hj hy))
  | iter h => exact .iter (by rw [(hg _ (by simp [PV.has])).1]; exact h)

theorem vrel_unren {g : Gh} {ρ : Nat → Nat} {M : Nat → Nat → Prop} {w : World} : ∀ (p : PV) (v : Value), VRel g M w (p.ren ρ) v → VRel (g.com ρ) M w p v
  | .undef, v, h => .undef v
  | .d x, v, h => by cases h with | d h => exact .d h
  | .nils, v, h => by cases h; exact .nils
  | .tl ds none, v, h => by cases h with | full h => exact .full h
  | .tl ds (some x), v, h => by cases h with | tail h ht => exact .tail h ht
  | .arr x sz off len, v, h => by
    cases h with
    | arr h ht hc hN => exact .arr h ht hc hN
    | arr0 h => exact .arr0 h
  | .ptr x off, v, h => by cases h with | ptr h => exact .ptr h
  | .eptr x sz i fo, v, h => by cases h with | eptr h => exact .eptr h
  | .cptr cs, v, h => by cases h with | cptr h hone => exact .cptr h hone
  | .nn ds, v, h => by cases h with | nn h => exact .nn h
  | .map x, v, h => by cases h with | map h => exact .map h
  | .fn f fs cs, v, h => by
    cases h with
    | fn h1 h2 h3 h4 =>
      refine .fn (by rw [h1, renL_length]) (by rw [h2, renL_length]) (fun j p hj v hv => ?_) (fun j p hj v hv => ?_)
      · have : p ∈ fs := List.mem_of_getElem? hj
        exact vrel_unren p v (h3 j _ (by rw [renL_get, hj]; rfl) v hv)
      · have : p ∈ cs := List.mem_of_getElem? hj
        exact vrel_unren p v (h4 j _ (by rw [renL_get, hj]; rfl) v hv)
  | .agg cs, v, h => by
    cases h with
    | agg hl ho h3 =>
      refine .agg (by rw [hl, renL_length]) ho (fun j p hj v hv => ?_)
      have : p ∈ cs := List.mem_of_getElem? hj
      exact vrel_unren p v (h3 j _ (by rw [renL_get, hj]; rfl) v hv)
  | .tup cs, v, h => by
    cases h with
    | tup hl h3 =>
      refine .tup (by rw [hl, renL_length]) (fun j p hj v hv => ?_)
      have : p ∈ cs := List.mem_of_getElem? hj
      exact vrel_unren p v (h3 j _ (by rw [renL_get, hj]; rfl) v hv)
  | .iter x, v, h => by cases h with | iter h => exact .iter h
termination_by p => SizeOf.sizeOf p
decreasing_by all_goals (have := List.sizeOf_lt_of_mem this; simp only [PV.fn.sizeOf_spec, PV.agg.sizeOf_spec, PV.tup.sizeOf_spec]; omega)

/-- Kinds of objects that may be handed over. -/
def Ob.open_ : Ob → Bool
  | .tail _ => false
  | _ => true

theorem orel_unren {g : Gh} {ρ : Nat → Nat} {M : Nat → Nat → Prop} {w : World} {x : Nat} {ob : Ob} (h : ORel g M w (ρ x) (ob.ren ρ)) : ORel (g.com ρ) M w x ob := by
  cases ob with
  | cells cs =>
    cases h with
    | cells hφ hb hl h =>
      refine .cells hφ hb (by rw [hl, renL_length]) fun j p hj => ?_
      obtain ⟨v, h1, h2, h3⟩ := h j (p.ren ρ) (by rw [renL_get, hj]; rfl)
      exact ⟨v, h1, h2, vrel_unren p v h3⟩
  | arr sz ds =>
    cases h with
    | arr hφ hτ hb hl hsz hone h => exact .arr hφ hτ hb hl hsz hone h
    | arr0 hφ => exact .arr0 hφ
  | tail sz =>
    cases h with
    | full hτ hφ => exact .full hτ hφ
    | tail hτ hn hφ hb hl => exact .tail hτ hn hφ hb hl
  | map dm es =>
    cases h with
    | map hφ hb hl hst h =>
      rw [ments_ren] at hl h
      refine .map hφ hb (by rw [hl, renM_length]) hst fun j k p hj => ?_
      obtain ⟨e, h1, h2, h3⟩ := h j k (p.ren ρ) (by rw [renM_get, hj]; rfl)
      exact ⟨e, h1, h2, vrel_unren p _ h3⟩
  | siter s pos => cases h with | siter hφ hb => exact .siter hφ hb
  | miter m l => cases h
  | glob n => cases h with | glob hφ hc hM => exact .glob hφ hc hM

theorem orel_ren {g gc : Gh} {ρ : Nat → Nat} {M : Nat → Nat → Prop} {w : World} {x : Nat} {ob : Ob} (h : ORel g M w x ob) (hx : gc.φ (ρ x) = g.φ x ∧ gc.τ (ρ x) = g.τ x) (hg : ∀ y, ob.has y = true → gc.φ (ρ y) = g.φ y ∧ gc.τ (ρ y) = g.τ y) : ORel gc M w (ρ x) (ob.ren ρ) := by
  have anyP_true : ∀ {y : Nat} {l : List PV} {j : Nat} {q : PV}, l[j]? = some q → q.has y = true → PV.has.anyP y l = true := by
    intro y l j q hj hq
    cases hh : PV.has.anyP y l with
    | true => rfl
    | false => rw [PV.anyP_false hh j q hj] at hq; cases hq
  cases h with
  | cells hφ hb hl h =>
    refine .cells (by rw [hx.1]; exact hφ) hb (by rw [renL_length]; exact hl) fun j p hj => ?_
    rw [renL_get] at hj
    obtain ⟨q, hq, rfl⟩ := Option.map_eq_some_iff.1 hj
    obtain ⟨v, h1, h2, h3⟩ := h j q hq
    exact ⟨v, h1, h2, vrel_ren h3 fun y hy => hg y (by simp only [Ob.has]; exact anyP_true hq hy)⟩
  | arr hφ hτ hb hl hsz hone h => exact .arr (by rw [hx.1]; exact hφ) (by rw [hx.2]; exact hτ) hb hl hsz hone h
  | arr0 hφ => exact .arr0 (by rw [hx.1]; exact hφ)
  | full hτ hφ => exact .full (by rw [hx.2]; exact hτ) (by rw [hx.1]; exact hφ)
  | tail hτ hn hφ hb hl => exact .tail (by rw [hx.2]; exact hτ) hn (by rw [hx.1]; exact hφ) hb hl
  | map hφ hb hl hst h =>
    refine .map (by rw [hx.1]; exact hφ) hb (by rw [ments_ren, renM_length]; exact hl) hst fun j k p hj => ?_
    rw [ments_ren, renM_get] at hj
    obtain ⟨⟨k', q⟩, hq, he⟩ := Option.map_eq_some_iff.1 hj
    simp only [Prod.mk.injEq] at he
    obtain ⟨rfl, rfl⟩ := he
    obtain ⟨e, h1, h2, h3⟩ := h j _ q hq
    refine ⟨e, h1, h2, vrel_ren h3 fun y hy => hg y ?_⟩
    exact ments_has (List.mem_of_getElem? hq) hy
  | siter hφ hb => exact .siter (by rw [hx.1]; exact hφ) hb
  | glob hφ hc hM => exact .glob (by rw [hx.1]; exact hφ) hc hM

/-- How a call's names stand in the caller: what is handed over; what comes back new. -/
def nren (ins : List Nat) (d : Nat) (x : Nat) : Nat := if 1000000 ≤ x then ins.getD (x - 1000000) 0 else 1000 * (x + 1) + d

/-- The objects that a call is handed, out of the caller's. -/
def HandOK (ins : List Nat) (d : Nat) (s : St) (O : List (Nat × Ob)) : Prop :=
  (∀ x ob, look O x = some ob → 1000000 ≤ x ∧ x < 1000000 + ins.length ∧ ob.open_ = true ∧ s.ob (nren ins d x) = some (ob.ren (nren ins d)))

theorem mutAt_open {g : Gh} {x : Nat} {ob : Ob} (h : ob.open_ = true) (b o : Nat) : mutAt g x ob b o = (g.φ x = some b) := by cases ob <;> first | rfl | cases h
theorem open_ren {ob : Ob} (ρ : Nat → Nat) : (ob.ren ρ).open_ = ob.open_ := by cases ob <;> rfl

/-- From the caller into the call. -/
theorem Rel.mut_own {E : Env} {g : Gh} {s : St} {a : Act} {w : World} (h : Rel E g s a w) {x : Nat} {ob : Ob} {b o : Nat} (hx : s.ob x = some ob) (hm : mutAt g x ob b o) : g.φ x = some b := by
  have hor := h.objs x ob hx
  cases hor with
  | full hτ hφ =>
    obtain ⟨n, c, o0, h1, h2, _⟩ := hm
    rw [hτ] at h1
    injection h1 with h1; injection h1 with _ h3 h4
    omega
  | tail hτ hn hφ hb hl =>
    obtain ⟨n, c, o0, h1, h2, _⟩ := hm
    rw [hτ] at h1
    injection h1 with h1; injection h1 with h1 _ _
    injection h1 with h1
    injection h1 with h1 _ _
    subst h1
    exact hφ
  | _ => exact hm

theorem rel_enter {E : Env} {g : Gh} {s : St} {a : Act} {w : World} (hr : Rel E g s a w) {ins : List Nat} {d : Nat} (hnd : ins.Nodup) {O : List (Nat × Ob)} (hO : HandOK ins d s O) {args : List PV} {cargs : Array Value} (hl : cargs.size = args.length)
    (hargs : ∀ (j : Nat) (p : PV), args[j]? = some p → ∃ v, cargs[j]? = some v ∧ VRel g (MM E g s) w (p.ren (nren ins d)) v) :
    Rel ⟨w, fun b => ∃ x ob, look O x = some ob ∧ g.φ (nren ins d x) = some b, fun b o => MM E g s b o ∧ ¬ ∃ x ob, look O x = some ob ∧ g.φ (nren ins d x) = some b, g.com (nren ins d)⟩
      (g.com (nren ins d)) (St.of args O) ⟨cargs, []⟩ w := by
  have hM : MM (⟨w, fun b => ∃ x ob, look O x = some ob ∧ g.φ (nren ins d x) = some b, fun b o => MM E g s b o ∧ ¬ ∃ x ob, look O x = some ob ∧ g.φ (nren ins d x) = some b, g.com (nren ins d)⟩ : Env) (g.com (nren ins d)) (St.of args O) = MM E g s := by
    funext b o
    refine propext ⟨fun h => ?_, fun h => ?_⟩
    · rcases h with h | ⟨x, ob, hx, hm⟩
      · exact h.1
      · obtain ⟨_, _, ho, hs⟩ := hO x ob hx
        rw [mutAt_open ho] at hm
        exact .inr ⟨_, _, hs, by rw [mutAt_open (by rw [open_ren]; exact ho)]; exact hm⟩
    · by_cases hi : ∃ x ob, look O x = some ob ∧ g.φ (nren ins d x) = some b
      · obtain ⟨x, ob, hx, hφ⟩ := hi
        exact .inr ⟨x, ob, hx, by rw [mutAt_open (hO x ob hx).2.2.1]; exact hφ⟩
      · exact .inl ⟨h, hi⟩
  have hinj : ∀ x y ob ob', look O x = some ob → look O y = some ob' → nren ins d x = nren ins d y → x = y := by
    intro x y ob ob' hx hy he
    obtain ⟨h1, h2, _, _⟩ := hO x ob hx
    obtain ⟨h3, h4, _, _⟩ := hO y ob' hy
    obtain ⟨i, rfl⟩ := Nat.exists_eq_add_of_le h1
    obtain ⟨j, rfl⟩ := Nat.exists_eq_add_of_le h3
    have e1 : i < ins.length := Nat.lt_of_add_lt_add_left h2
    have e2 : j < ins.length := Nat.lt_of_add_lt_add_left h4
    simp only [nren, if_pos h1, if_pos h3, Nat.add_sub_cancel_left] at he
    rw [List.getD_eq_getElem?_getD, List.getD_eq_getElem?_getD, List.getElem?_eq_getElem e1, List.getElem?_eq_getElem e2] at he
    rw [(List.getElem_inj hnd).1 he]
  refine ⟨hl, rfl, fun j p hj => ?_, fun x ob hx => ?_, fun x y ob ob' b hx hy h1 h2 => ?_, fun x ob b hx h1 => ?_, ⟨Nat.le_refl _, rfl, rfl, rfl, fun _ _ _ => rfl, fun e he => ?_⟩, fun b o h => ⟨?_, h.2⟩, fun _ _ => ⟨rfl, rfl⟩⟩
  · rw [hM]
    rw [of_sl] at hj
    obtain ⟨v, h1, h2⟩ := hargs j p hj
    exact ⟨v, h1, vrel_unren p v h2⟩
  · rw [hM]
    exact orel_unren (hr.objs _ _ (hO x ob hx).2.2.2)
  · exact hinj x y ob ob' hx hy (hr.inj _ _ _ _ b (hO x ob hx).2.2.2 (hO y ob' hy).2.2.2 h1 h2)
  · exact ⟨.inr ⟨x, ob, hx, h1⟩, (hr.own _ _ b (hO x ob hx).2.2.2 h1).2⟩
  · obtain ⟨h1, h2, h7, ob, h3, h4⟩ := hr.fr.gok e he
    refine ⟨Nat.lt_of_lt_of_le h1 hr.fr.size, ?_, ?_, ob, ?_, h4⟩
    · rintro ⟨x, ob', hx, hφ⟩
      rcases (hr.own _ _ _ (hO x ob' hx).2.2.2 hφ).1 with h5 | h5
      · exact absurd h5 (Nat.not_le.2 h1)
      · exact h2 h5
    · rintro o ⟨hm | ⟨x, ob', hx, hm⟩, _⟩
      · exact h7 o hm
      · rcases (hr.own _ _ _ hx (hr.mut_own hx hm)).1 with h5 | h5
        · exact absurd h5 (Nat.not_le.2 h1)
        · exact h2 h5
    · rw [← h3]; exact hr.fr.block _ h1 h2
  · exact hr.mm_lt h.1

/-- The names that a value bears, as a list. -/
def PV.nms : PV → List Nat
  | .tl _ (some y) => [y]
  | .arr y _ _ _ => [y]
  | .ptr y _ => [y]
  | .eptr y _ _ _ => [y]
  | .map y => [y]
  | .iter y => [y]
  | .fn _ fs cs => nmsL fs ++ nmsL cs
  | .agg cs => nmsL cs
  | .tup cs => nmsL cs
  | _ => []
where
  nmsL : List PV → List Nat
    | [] => []
    | p :: r => PV.nms p ++ nmsL r
def Ob.nms : Ob → List Nat
  | .cells cs => PV.nms.nmsL cs
  | .map _ es => es.flatMap fun e => e.2.nms
  | .miter m _ => [m]
  | _ => []
mutual
theorem has_nms {x : Nat} : ∀ (p : PV), p.has x = true → x ∈ p.nms
  | .undef, h => by cases h
  | .d _, h => by cases h
  | .nils, h => by cases h
  | .tl _ none, h => by cases h
  | .tl _ (some y), h => by simp only [PV.has, beq_iff_eq] at h; simp [PV.nms, h]
  | .arr y _ _ _, h => by simp only [PV.has, beq_iff_eq] at h; simp [PV.nms, h]
  | .ptr y _, h => by simp only [PV.has, beq_iff_eq] at h; simp [PV.nms, h]
  | .eptr y _ _ _, h => by simp only [PV.has, beq_iff_eq] at h; simp [PV.nms, h]
  | .cptr _, h => by cases h
  | .nn _, h => by cases h
  | .map y, h => by simp only [PV.has, beq_iff_eq] at h; simp [PV.nms, h]
  | .fn _ fs cs, h => by
    simp only [PV.has, Bool.or_eq_true] at h
    simp only [PV.nms, List.mem_append]
    exact h.imp (hasL_nms fs) (hasL_nms cs)
  | .agg cs, h => by simp only [PV.has] at h; simp only [PV.nms]; exact hasL_nms cs h
  | .tup cs, h => by simp only [PV.has] at h; simp only [PV.nms]; exact hasL_nms cs h
  | .iter y, h => by simp only [PV.has, beq_iff_eq] at h; simp [PV.nms, h]
theorem hasL_nms {x : Nat} : ∀ (l : List PV), PV.has.anyP x l = true → x ∈ PV.nms.nmsL l
  | [], h => by cases h
  | p :: r, h => by
    simp only [PV.has.anyP, Bool.or_eq_true] at h
    simp only [PV.nms.nmsL, List.mem_append]
    exact h.imp (has_nms p) (hasL_nms r)
end
theorem obhas_nms {x : Nat} {ob : Ob} (h : ob.has x = true) : x ∈ ob.nms := by
  cases ob with
  | cells cs => exact hasL_nms cs h
  | map dm es =>
    simp only [Ob.has, List.any_eq_true] at h
    obtain ⟨e, h1, h2⟩ := h
    exact List.mem_flatMap.2 ⟨e, h1, has_nms _ h2⟩
  | miter m l => simp only [Ob.has, beq_iff_eq] at h; simp [Ob.nms, h]
  | _ => cases h

/-- What comes back speaks of what comes back alone. -/
def closedB (rs : List PV) (O' : List (Nat × Ob)) : Bool := (PV.nms.nmsL rs).all (fun x => (look O' x).isSome) && O'.all fun e => e.2.nms.all fun x => (look O' x).isSome

/-- The caller's objects behind a call: those handed over as they came back, the new ones by new names. -/
structure BackOK (ins : List Nat) (d : Nat) (s s' : St) (O O' : List (Nat × Ob)) : Prop where
  n : s'.n = s.n
  slots : s'.slots = s.slots
  obs : ∀ y ob, s'.ob y = some ob → (∃ x ob', look O' x = some ob' ∧ nren ins d x = y ∧ ob = ob'.ren (nren ins d)) ∨ (s.ob y = some ob ∧ ∀ x ob', look O x = some ob' → nren ins d x ≠ y)
  old : ∀ x ob', look O' x = some ob' → 1000000 ≤ x → (∃ ob0, look O x = some ob0) ∧ ob'.open_ = true
  fresh : ∀ x ob', look O' x = some ob' → x < 1000000 → Fresh s (nren ins d x) ∧ nren ins d x < 1000000

theorem mutAt_ren {g gc : Gh} {ρ : Nat → Nat} {x : Nat} {ob : Ob} (h : gc.φ (ρ x) = g.φ x ∧ gc.τ (ρ x) = g.τ x) (b o : Nat) : mutAt gc (ρ x) (ob.ren ρ) b o = mutAt g x ob b o := by
  cases ob <;> simp only [Ob.ren, mutAt, h.1, h.2]
theorem mutAt_same {g gc : Gh} {x : Nat} {ob : Ob} (h : gc.φ x = g.φ x ∧ gc.τ x = g.τ x) (b o : Nat) : mutAt gc x ob b o = mutAt g x ob b o := by
  cases ob <;> simp only [mutAt, h.1, h.2]

/-- From the call back into the caller. -/
theorem rel_leave {E E' : Env} {g g' : Gh} {s s' : St} {a : Act} {w w' : World} (hr : Rel E g s a w) {ins : List Nat} {d : Nat} {O O' : List (Nat × Ob)} (hO : HandOK ins d s O) (hB : BackOK ins d s s' O O') {rs : List PV} {vs : Array Value}
    (hE : E' = ⟨w, fun b => ∃ x ob, look O x = some ob ∧ g.φ (nren ins d x) = some b, fun b o => MM E g s b o ∧ ¬ ∃ x ob, look O x = some ob ∧ g.φ (nren ins d x) = some b, g.com (nren ins d)⟩)
    (hr' : Rel E' g' (St.of rs O') ⟨vs, []⟩ w') (hcl : closedB rs O' = true) :
    ∃ gc, Rel E gc s' a w' ∧ ∀ (j : Nat) (p : PV), rs[j]? = some p → ∃ v, vs[j]? = some v ∧ VRel gc (MM E gc s') w' (p.ren (nren ins d)) v := by
  subst hE
  have hob' : ∀ x, (St.of rs O').ob x = look O' x := fun _ => rfl
  have inj6 : ∀ x y, x < 1000000 → y < 1000000 → nren ins d x = nren ins d y → x = y := by
    intro x y hx hy he
    simp only [nren, if_neg (Nat.not_le.2 hx), if_neg (Nat.not_le.2 hy)] at he
    omega
  -- the caller's ghost
  let isN : Nat → Prop := fun y => ∃ x ob, look O' x = some ob ∧ x < 1000000 ∧ nren ins d x = y
  have ghost : ∃ gc : Gh, (∀ x ob, look O' x = some ob → gc.φ (nren ins d x) = g'.φ x ∧ gc.τ (nren ins d x) = g'.τ x) ∧ (∀ y, ¬ isN y → gc.φ y = g.φ y ∧ gc.τ y = g.τ y) := by
    classical
    refine ⟨⟨fun y => if h : isN y then g'.φ h.choose else g.φ y, fun y => if h : isN y then g'.τ h.choose else g.τ y⟩, fun x ob hx => ?_, fun y hy => ?_⟩
    · by_cases h6 : x < 1000000
      · have hn : isN (nren ins d x) := ⟨x, ob, hx, h6, rfl⟩
        obtain ⟨ob2, h1, h2, h3⟩ := hn.choose_spec
        have hc : hn.choose = x := inj6 _ _ h2 h6 h3
        have e : (⟨fun y => if h : isN y then g'.φ h.choose else g.φ y, fun y => if h : isN y then g'.τ h.choose else g.τ y⟩ : Gh).φ (nren ins d x) = g'.φ hn.choose := dif_pos hn
        have e' : (⟨fun y => if h : isN y then g'.φ h.choose else g.φ y, fun y => if h : isN y then g'.τ h.choose else g.τ y⟩ : Gh).τ (nren ins d x) = g'.τ hn.choose := dif_pos hn
        rw [hc] at e e'
        exact ⟨e, e'⟩
      · have h6' : 1000000 ≤ x := Nat.not_lt.1 h6
        have hn : ¬ isN (nren ins d x) := by
          rintro ⟨y, ob2, h1, h2, h3⟩
          obtain ⟨⟨ob0, h0⟩, _⟩ := hB.old x ob hx h6'
          have hf := (hB.fresh y ob2 h1 h2).1.ob
          rw [h3] at hf
          rw [(hO x ob0 h0).2.2.2] at hf
          cases hf
        have hk := hr'.keep x h6'
        have e : (⟨fun y => if h : isN y then g'.φ h.choose else g.φ y, fun y => if h : isN y then g'.τ h.choose else g.τ y⟩ : Gh).φ (nren ins d x) = g.φ (nren ins d x) := dif_neg hn
        have e' : (⟨fun y => if h : isN y then g'.φ h.choose else g.φ y, fun y => if h : isN y then g'.τ h.choose else g.τ y⟩ : Gh).τ (nren ins d x) = g.τ (nren ins d x) := dif_neg hn
        exact ⟨e.trans hk.1.symm, e'.trans hk.2.symm⟩
    · exact ⟨dif_neg hy, dif_neg hy⟩
  obtain ⟨gc, gnew, gold⟩ := ghost
  -- names that the caller bears are none of the new ones
  have oldslot : ∀ (i : Nat) (p : PV), s.sl i = some p → ∀ y, p.has y = true → gc.φ y = g.φ y ∧ gc.τ y = g.τ y := by
    intro i p hi y hy
    refine gold y ?_
    rintro ⟨x, ob, h1, h2, h3⟩
    have := (hB.fresh x ob h1 h2).1.slots i p hi
    rw [h3, hy] at this; cases this
  have oldob : ∀ z ob, s.ob z = some ob → ∀ y, ob.has y = true → gc.φ y = g.φ y ∧ gc.τ y = g.τ y := by
    intro z ob hz y hy
    refine gold y ?_
    rintro ⟨x, ob2, h1, h2, h3⟩
    have := (hB.fresh x ob2 h1 h2).1.objs z ob hz
    rw [h3, hy] at this; cases this
  have oldname : ∀ z ob, s.ob z = some ob → gc.φ z = g.φ z ∧ gc.τ z = g.τ z := by
    intro z ob hz
    refine gold z ?_
    rintro ⟨x, ob2, h1, h2, h3⟩
    have := (hB.fresh x ob2 h1 h2).1.ob
    rw [h3, hz] at this; cases this
  have impMM : ∀ b o, (∃ x ob, look O x = some ob ∧ g.φ (nren ins d x) = some b) → MM E g s b o := by
    rintro b o ⟨x, ob, hx, hφ⟩
    obtain ⟨_, _, ho, hs⟩ := hO x ob hx
    exact .inr ⟨_, _, hs, by rw [mutAt_open (by rw [open_ren]; exact ho)]; exact hφ⟩
  have hsame : Same (MM E g s) w w' := by
    intro b o u hu hm
    have hlt : b < w.heap.size := World.block_lt_of_cell? w ⟨b, o, none⟩ hu
    have hb := hr'.fr.block b hlt (fun hi => hm (impMM b o hi))
    rw [World.cell?_of_block (w := w) (w' := w') (a := ⟨b, o, none⟩) hb]; exact hu
  have hM : ∀ b o, (w.cell? ⟨b, o, none⟩).isSome = true → MM E gc s' b o → MM E g s b o := by
    intro b o hc hm
    obtain ⟨u, hu⟩ := Option.isSome_iff_exists.1 hc
    have hlt : b < w.heap.size := World.block_lt_of_cell? w ⟨b, o, none⟩ hu
    rcases hm with hm | ⟨y, ob, hy, hm⟩
    · exact .inl hm
    · rcases hB.obs y ob hy with ⟨x, ob', hx, rfl, rfl⟩ | ⟨hy', _⟩
      · rw [mutAt_ren (gnew x ob' hx)] at hm
        have hφ := hr'.mut_own hx hm
        rcases (hr'.own x ob' b hx hφ).1 with h | h
        · exact absurd (show w.heap.size ≤ b from h) (Nat.not_le.2 hlt)
        · exact impMM b o h
      · rw [mutAt_same (oldname y ob hy')] at hm
        exact .inr ⟨y, ob, hy', hm⟩
  have impB : ∀ b, (∃ x ob, look O x = some ob ∧ g.φ (nren ins d x) = some b) → (E.B ≤ b ∨ E.imp b) ∧ b < w.heap.size := by
    rintro b ⟨x, ob, hx, hφ⟩
    exact hr.own _ _ b (hO x ob hx).2.2.2 hφ
  have hMc : ∀ b o, MM E gc s' b o → MM (⟨w, fun b => ∃ x ob, look O x = some ob ∧ g.φ (nren ins d x) = some b, fun b o => MM E g s b o ∧ ¬ ∃ x ob, look O x = some ob ∧ g.φ (nren ins d x) = some b, g.com (nren ins d)⟩ : Env) g' (St.of rs O') b o := by
    intro b o hm
    rcases hm with hm | ⟨y, ob, hy, hm⟩
    · refine .inl ⟨.inl hm, fun hi => ?_⟩
      have h1 := hr.av b o hm
      rcases (impB b hi).1 with h | h
      · exact absurd h (Nat.not_le.2 h1.1)
      · exact h1.2 h
    · rcases hB.obs y ob hy with ⟨x, ob', hx, rfl, rfl⟩ | ⟨hy', hne⟩
      · rw [mutAt_ren (gnew x ob' hx)] at hm
        exact .inr ⟨x, ob', hx, hm⟩
      · rw [mutAt_same (oldname y ob hy')] at hm
        refine .inl ⟨.inr ⟨y, ob, hy', hm⟩, ?_⟩
        rintro ⟨x, ob0, hx, hφ⟩
        exact hne x ob0 hx (hr.inj _ _ _ _ b (hO x ob0 hx).2.2.2 hy' hφ (hr.mut_own hy' hm))
  simp only [closedB, Bool.and_eq_true, List.all_eq_true] at hcl
  have closL : ∀ (j : Nat) (p : PV), rs[j]? = some p → ∀ y, p.has y = true → gc.φ (nren ins d y) = g'.φ y ∧ gc.τ (nren ins d y) = g'.τ y := by
    intro j p hj y hy
    have hm : y ∈ PV.nms.nmsL rs := hasL_nms rs (by
      cases hh : PV.has.anyP y rs with
      | true => rfl
      | false => rw [PV.anyP_false hh j p hj] at hy; cases hy)
    obtain ⟨ob, ho⟩ := Option.isSome_iff_exists.1 (hcl.1 y hm)
    exact gnew y ob ho
  have closO : ∀ x ob, look O' x = some ob → ∀ y, ob.has y = true → gc.φ (nren ins d y) = g'.φ y ∧ gc.τ (nren ins d y) = g'.τ y := by
    intro x ob hx y hy
    obtain ⟨ob2, ho⟩ := Option.isSome_iff_exists.1 (hcl.2 _ (look_mem hx) y (obhas_nms hy))
    exact gnew y ob2 ho
  have hsl : ∀ i, s'.sl i = s.sl i := fun i => by unfold St.sl; rw [hB.slots]
  refine ⟨gc, ⟨by rw [hB.n]; exact hr.size, hr.defers, fun i p hi => ?_, fun y ob hy => ?_, fun y z ob ob2 b hy hz h1 h2 => ?_, fun y ob b hy h1 => ?_, ⟨?_, ?_, ?_, ?_, fun k hk hi => ?_, hr.fr.gok⟩, hr.av, fun y hy => ?_⟩, fun j p hj => ?_⟩
  · rw [hsl] at hi
    obtain ⟨v, h1, h2⟩ := hr.slots i p hi
    exact ⟨v, h1, h2.move hsame hM (oldslot i p hi)⟩
  · rcases hB.obs y ob hy with ⟨x, ob', hx, rfl, rfl⟩ | ⟨hy', hne⟩
    · exact (orel_ren (hr'.objs x ob' hx) (gnew x ob' hx) (closO x ob' hx)).move (Same.refl _ _) (fun b o _ h => hMc b o h) (fun _ _ => ⟨rfl, rfl⟩) ⟨rfl, rfl⟩ (fun _ _ => rfl)
    · refine (hr.objs y ob hy').move hsame hM (oldob y ob hy') (oldname y ob hy') fun b hb => ?_
      refine hr'.fr.block b (hr.own y ob b hy' hb).2 ?_
      rintro ⟨x, ob0, hx, hφ⟩
      exact hne x ob0 hx (hr.inj _ _ _ _ b (hO x ob0 hx).2.2.2 hy' hφ hb)
  · rcases hB.obs y ob hy with ⟨x, ob', hx, rfl, rfl⟩ | ⟨hy', hne⟩ <;> rcases hB.obs z ob2 hz with ⟨x2, ob2', hx2, rfl, rfl⟩ | ⟨hz', hne2⟩
    · rw [(gnew x ob' hx).1] at h1
      rw [(gnew x2 ob2' hx2).1] at h2
      rw [hr'.inj x x2 _ _ b hx hx2 h1 h2]
    · rw [(gnew x ob' hx).1] at h1
      rw [(oldname z ob2 hz').1] at h2
      have hlt := (hr.own z ob2 b hz' h2).2
      rcases (hr'.own x ob' b hx h1).1 with h | ⟨x0, ob0, hx0, hφ⟩
      · exact absurd (show w.heap.size ≤ b from h) (Nat.not_le.2 hlt)
      · exact absurd (hr.inj _ _ _ _ b (hO x0 ob0 hx0).2.2.2 hz' hφ h2) (hne2 x0 ob0 hx0)
    · rw [(gnew x2 ob2' hx2).1] at h2
      rw [(oldname y ob hy').1] at h1
      have hlt := (hr.own y ob b hy' h1).2
      rcases (hr'.own x2 ob2' b hx2 h2).1 with h | ⟨x0, ob0, hx0, hφ⟩
      · exact absurd (show w.heap.size ≤ b from h) (Nat.not_le.2 hlt)
      · exact absurd (hr.inj _ _ _ _ b (hO x0 ob0 hx0).2.2.2 hy' hφ h1) (hne x0 ob0 hx0)
    · rw [(oldname y ob hy').1] at h1
      rw [(oldname z ob2 hz').1] at h2
      exact hr.inj _ _ _ _ b hy' hz' h1 h2
  · rcases hB.obs y ob hy with ⟨x, ob', hx, rfl, rfl⟩ | ⟨hy', hne⟩
    · rw [(gnew x ob' hx).1] at h1
      have h2 := hr'.own x ob' b hx h1
      refine ⟨?_, h2.2⟩
      rcases h2.1 with h | h
      · exact .inl (Nat.le_trans hr.fr.size h)
      · exact (impB b h).1
    · rw [(oldname y ob hy').1] at h1
      have h2 := hr.own y ob b hy' h1
      exact ⟨h2.1, Nat.lt_of_lt_of_le h2.2 hr'.fr.size⟩
  · exact Nat.le_trans hr.fr.size hr'.fr.size
  · exact hr'.fr.os.trans hr.fr.os
  · exact hr'.fr.tape.trans hr.fr.tape
  · exact hr'.fr.output.trans hr.fr.output
  · rw [← hr.fr.block k hk hi]
    refine hr'.fr.block k (Nat.lt_of_lt_of_le hk hr.fr.size) fun h => ?_
    rcases (impB k h).1 with h' | h'
    · exact absurd h' (Nat.not_le.2 hk)
    · exact hi h'
  · have hn : ¬ isN y := by
      rintro ⟨x, ob, h1, h2, h3⟩
      have := (hB.fresh x ob h1 h2).2
      rw [h3] at this
      exact absurd hy (Nat.not_le.2 this)
    rw [(gold y hn).1, (gold y hn).2]
    exact hr.keep y hy
  · obtain ⟨v, h1, h2⟩ := hr'.slots j p (by rw [of_sl]; exact hj)
    exact ⟨v, h1, (vrel_ren h2 (closL j p hj)).mono (Same.refl _ _) (fun b o _ h => hMc b o h) rfl rfl⟩
end Go.Pm

namespace Go.Pm

def callable (P : Program) (f : FuncId) : Bool := match P.funcs[f]? with
  | some fn => fn.name != "runtime.NumGoroutine" && fn.body.isSome
  | none => false
def resV : List PV → PV
  | [p] => p
  | ps => .tup ps

theorem packR_rel {g : Gh} {M : Nat → Nat → Prop} {w : World} {ps : List PV} {vs : Array Value} (hl : vs.size = ps.length) (h : ∀ (j : Nat) (p : PV), ps[j]? = some p → ∃ v, vs[j]? = some v ∧ VRel g M w p v) : VRel g M w (resV ps) (packR vs) := by
  unfold packR resV
  split
  · rename_i p
    have h1 : vs.size = 1 := hl
    rw [dif_pos h1]
    obtain ⟨v, e1, e2⟩ := h 0 p rfl
    have : vs[0] = v := by rw [Array.getElem?_eq_getElem (by omega)] at e1; exact Option.some.inj e1
    rw [this]; exact e2
  · rename_i hne
    have h1 : ¬ vs.size = 1 := by
      intro h1
      rw [h1] at hl
      match ps, hl with
      | [p], _ => exact hne p rfl
    rw [dif_neg h1]
    have := VRel.tup (g := g) (M := M) (w := w) (cs := ps) (vs := vs.toList) (by simpa using hl) (fun j p hj v hv => by
      obtain ⟨v', e1, e2⟩ := h j p hj
      have : vs[j]? = some v := by simpa using hv
      rw [e1] at this
      rw [← Option.some.inj this]; exact e2)
    simpa using this

section
variable {P : Program} {ops : Array Oper} {o : Oper} {s : St}

/-- The heart of a call. -/
theorem wp_call {E : Env} {g : Gh} {s1 s2 : St} {a : Act} {w : World} (hr : Rel E g s1 a w) {fop : Operand} {xs : Array Operand} {ats : Array TypeId} (ho : o.op = .call { callee := .value fop, args := xs, argTypes := ats })
    {f : FuncId} {first caps : List PV} (hfv : VRel g (MM E g s1) w (.fn (.func f) first caps) (a.eval fop)) (hca : callable P f = true) {avs : List PV}
    (hav : ∀ (j : Nat) (p : PV), avs[j]? = some p → ∃ x, xs[j]? = some x ∧ VRel g (MM E g s1) w p (a.eval x)) (hal : avs.length = xs.size)
    {ins : List Nat} {d : Nat} {args : List PV} {O O' : List (Nat × Ob)} {rs : List PV} (hargs : first ++ avs ++ caps = renL (nren ins d) args) (hnd : ins.Nodup) (hO : HandOK ins d s1 O) (hfn : Fn P f args O rs O')
    (hB : BackOK ins d s1 s2 O O') (hcl : closedB rs O' = true) (hdst : ∀ t, o.dst = some t → t < s2.n) (K : Act → World → Prop) (Qx : Exit → Act → World → Prop)
    (hK : ∀ a' w' g', Rel E g' (s2.put o.dst ((resV rs).ren (nren ins d))) a' w' → K a' w') : o.wp P a w K Qx := by
  have hfs : ∃ fs us : List Value, a.eval fop = .func (.func f) fs.toArray us.toArray ∧ fs.length = first.length ∧ us.length = caps.length ∧
      (∀ (j : Nat) (p : PV), first[j]? = some p → ∀ (v : Value), fs[j]? = some v → VRel g (MM E g s1) w p v) ∧ (∀ (j : Nat) (p : PV), caps[j]? = some p → ∀ (v : Value), us[j]? = some v → VRel g (MM E g s1) w p v) := by
    generalize a.eval fop = v at hfv
    cases hfv with
    | fn h1 h2 h3 h4 => exact ⟨_, _, rfl, h1, h2, h3, h4⟩
  obtain ⟨fs, us, hfe, hfl, hul, hf3, hu3⟩ := hfs
  obtain ⟨fn, hfn0, hname, hbody⟩ : ∃ fn, P.funcs[f]? = some fn ∧ (fn.name == "runtime.NumGoroutine") = false ∧ fn.body.isNone = false := by
    unfold callable at hca
    split at hca
    · rename_i fn hf
      simp only [Bool.and_eq_true, bne_iff_ne, ne_eq] at hca
      refine ⟨fn, hf, by simpa using hca.1, ?_⟩
      cases hb : fn.body with
      | none => rw [hb] at hca; simp at hca
      | some c => rfl
    · cases hca
  have hrun : (execOp a.eval o).run P w = .ok (.enter f (fs.toArray ++ xs.map a.eval ++ us.toArray)) w := by
    unfold execOp
    rw [ho]
    have hname' : ¬ fn.name = "runtime.NumGoroutine" := by simpa using hname
    have hbody' : ¬ fn.body = none := by intro h; rw [h] at hbody; cases hbody
    simp [resolve, Deferred.ofValue, hfe, invoke, callFunc, hfn0, hname', hbody']
  unfold Oper.wp
  rw [hrun]
  have hlen : args.length = first.length + avs.length + caps.length := by
    have := congrArg List.length hargs
    rw [show (renL (nren ins d) args).length = args.length from renL_length _ _] at this
    simp at this; omega
  have hent := rel_enter hr hnd hO (args := args) (cargs := fs.toArray ++ xs.map a.eval ++ us.toArray) (by simp [hfl, hul, hlen, hal, Nat.add_assoc]) (fun j p hj => by
    have hjl : j < args.length := (List.getElem?_eq_some_iff.1 hj).1
    have hq : (first ++ avs ++ caps)[j]? = some (p.ren (nren ins d)) := by rw [hargs]; show (PV.ren.renL _ _)[j]? = _; rw [renL_get, hj]; rfl
    by_cases h1 : j < first.length
    · rw [List.getElem?_append_left (by simp; omega), List.getElem?_append_left h1] at hq
      have hv := List.getElem?_eq_getElem (l := fs) (i := j) (by omega)
      refine ⟨fs[j]'(by omega), ?_, hf3 j _ hq _ hv⟩
      rw [Array.getElem?_append_left (by simp; omega), Array.getElem?_append_left (by simp; omega)]
      simp [hv]
    · by_cases h2 : j < first.length + avs.length
      · rw [List.getElem?_append_left (by simp; omega), List.getElem?_append_right (by omega)] at hq
        obtain ⟨x, hx, hvr⟩ := hav _ _ hq
        refine ⟨a.eval x, ?_, hvr⟩
        rw [Array.getElem?_append_left (by simp; omega), Array.getElem?_append_right (by simp; omega)]
        simp only [List.size_toArray, Array.getElem?_map, hfl, hx, Option.map_some]
      · rw [List.getElem?_append_right (by simp; omega)] at hq
        have hjc : j - (first ++ avs).length < us.length := by simp; omega
        have hv := List.getElem?_eq_getElem hjc
        refine ⟨us[j - (first ++ avs).length]'hjc, ?_, hu3 _ _ hq _ hv⟩
        rw [Array.getElem?_append_right (by simp; omega)]
        have e : j - (fs.toArray ++ xs.map a.eval).size = j - (first ++ avs).length := by simp; omega
        rw [e]
        simp [hv])
  have hc := hfn _ _ _ hent
  refine Calls.mono hc fun e w' h => ?_
  obtain ⟨g', vs, rfl, hr'⟩ := h
  obtain ⟨gc, hrc, hvs⟩ := rel_leave hr hO hB rfl hr' hcl
  refine hK _ _ gc (hrc.put hdst ?_)
  have hvl : vs.size = rs.length := hr'.size
  have := packR_rel (g := gc) (M := MM E gc s2) (w := w') (ps := PV.ren.renL (nren ins d) rs) (vs := vs) (by rw [renL_length]; exact hvl) (fun j p hj => by
    rw [renL_get] at hj
    obtain ⟨q, hq, rfl⟩ := Option.map_eq_some_iff.1 hj
    exact hvs j q hq)
  have he : resV (PV.ren.renL (nren ins d) rs) = (resV rs).ren (nren ins d) := by
    match rs with
    | [] => rfl
    | [p] => rfl
    | p :: q :: r => rfl
  rw [← he]; exact this

theorem handOK_nil {ins : List Nat} {d : Nat} {s : St} : HandOK ins d s [] := fun x ob h => by cases h
theorem handOK_cons {ins : List Nat} {d : Nat} {s : St} {x : Nat} {ob : Ob} {O : List (Nat × Ob)} (h1 : 1000000 ≤ x) (h2 : x < 1000000 + ins.length) (h3 : ob.open_ = true) (h4 : s.ob (nren ins d x) = some (ob.ren (nren ins d)))
    (h : HandOK ins d s O) : HandOK ins d s ((x, ob) :: O) := fun y ob' hy => by
  simp only [look] at hy
  by_cases hxy : x = y
  · rw [if_pos hxy] at hy; injection hy with hy; subst hy; subst hxy; exact ⟨h1, h2, h3, h4⟩
  · rw [if_neg hxy] at hy; exact h y ob' hy

theorem argsAt {xs : Array Operand} {avs : List PV} (hv : xs.toList.map s.val = avs) {E : Env} {g : Gh} {s1 : St} {a : Act} {w : World} (hr : Rel E g s1 a w) (hag : ∀ x ∈ o.op.operands, s1.val x = s.val x)
    (hm : ∀ x ∈ xs, x ∈ o.op.operands) (hk : xs.toList.all okOp = true) : avs.length = xs.size ∧ ∀ (j : Nat) (p : PV), avs[j]? = some p → ∃ x, xs[j]? = some x ∧ VRel g (MM E g s1) w p (a.eval x) := by
  subst hv
  refine ⟨by simp, fun j p hj => ?_⟩
  simp only [List.getElem?_map, Option.map_eq_some_iff] at hj
  obtain ⟨x, hx, rfl⟩ := hj
  have hmem : x ∈ xs.toList := List.mem_of_getElem? hx
  exact ⟨x, by simpa using hx, eval_of hr hag (hm x (by simpa using hmem)) (List.all_eq_true.1 hk x hmem) rfl⟩

/-- A call that is handed no object, and hands none back. -/
theorem op_callP {fop : Operand} {xs : Array Operand} {ats : Array TypeId} {f : FuncId} {first caps : List PV} {args rs : List PV} (ho : o.op = .call { callee := .value fop, args := xs, argTypes := ats }) (hk : (fop :: xs.toList).all okOp = true)
    (hf : s.val fop = .fn (.func f) first caps) (hca : callable P f = true) (hargs : first ++ xs.toList.map s.val ++ caps = renL (nren [] 0) args) (hfn : Fn P f args [] rs []) (hcl : closedB rs [] = true) :
    OpOK P ops o s ⟨o.dst, (resV rs).ren (nren [] 0), [], [], []⟩ := by
  intro s1 ha hf1 hn hdb E g a w hr K Qx hK
  simp only [List.all_cons, Bool.and_eq_true] at hk
  have hag : ∀ x ∈ o.op.operands, s1.val x = s.val x := fun x hx => val_agree ha hx
  have hfv := eval_of (s := s) hr hag (x := fop) (by rw [ho]; simp [Op.operands, Call.operands]) hk.1 hf
  obtain ⟨hal, hav⟩ := argsAt (o := o) (s := s) (xs := xs) rfl hr hag (fun x hx => by rw [ho]; simp [Op.operands, Call.operands, hx]) hk.2
  refine wp_call hr ho hfv hca hav hal (ins := []) (d := 0) hargs (by simp) handOK_nil hfn (s2 := s1) ⟨rfl, rfl, (fun y ob hy => .inr ⟨hy, (fun x ob' h => by cases h)⟩), (fun x ob' h => by cases h), (fun x ob' h => by cases h)⟩ hcl (dB_spec hdb) K Qx (fun a' w' g' hr' => hK a' w' g' ?_)
  rw [app_nil]; exact hr'

/-- A call that reads objects and leaves them as they are. -/
theorem op_callR {fop : Operand} {xs : Array Operand} {ats : Array TypeId} {f : FuncId} {first caps : List PV} {args rs : List PV} {O : List (Nat × Ob)} (ins : List Nat) (ho : o.op = .call { callee := .value fop, args := xs, argTypes := ats }) (hk : (fop :: xs.toList).all okOp = true)
    (hf : s.val fop = .fn (.func f) first caps) (hca : callable P f = true) (hargs : first ++ xs.toList.map s.val ++ caps = renL (nren ins 0) args) (hnd : ins.Nodup) (hO : HandOK ins 0 s O) (hfn : Fn P f args O rs O) (hcl : closedB rs O = true) :
    OpOK P ops o s ⟨o.dst, (resV rs).ren (nren ins 0), ins, [], []⟩ := by
  intro s1 ha hf1 hn hdb E g a w hr K Qx hK
  simp only [List.all_cons, Bool.and_eq_true] at hk
  have hag : ∀ x ∈ o.op.operands, s1.val x = s.val x := fun x hx => val_agree ha hx
  have hfv := eval_of (s := s) hr hag (x := fop) (by rw [ho]; simp [Op.operands, Call.operands]) hk.1 hf
  obtain ⟨hal, hav⟩ := argsAt (o := o) (s := s) (xs := xs) rfl hr hag (fun x hx => by rw [ho]; simp [Op.operands, Call.operands, hx]) hk.2
  have hO1 : HandOK ins 0 s1 O := fun x ob hx => by
    obtain ⟨h1, h2, h3, h4⟩ := hO x ob hx
    refine ⟨h1, h2, h3, ?_⟩
    rw [← h4]
    refine hf1 _ ?_
    simp only [nren, if_pos h1]
    obtain ⟨i, rfl⟩ := Nat.exists_eq_add_of_le h1
    have hi : i < ins.length := Nat.lt_of_add_lt_add_left h2
    rw [Nat.add_sub_cancel_left, List.getD_eq_getElem?_getD, List.getElem?_eq_getElem hi]
    exact List.getElem_mem hi
  refine wp_call hr ho hfv hca hav hal (ins := ins) (d := 0) hargs hnd hO1 hfn (s2 := s1) ⟨rfl, rfl, fun y ob hy => ?_, fun x ob' h h6 => ⟨⟨ob', h⟩, (hO x ob' h).2.2.1⟩, fun x ob' h h6 => ?_⟩ hcl (dB_spec hdb) K Qx (fun a' w' g' hr' => hK a' w' g' ?_)
  · by_cases hi : ∃ x ob', look O x = some ob' ∧ nren ins 0 x = y
    · obtain ⟨x, ob', h1, rfl⟩ := hi
      refine .inl ⟨x, ob', h1, rfl, ?_⟩
      rw [(hO1 x ob' h1).2.2.2] at hy
      exact (Option.some.inj hy).symm
    · exact .inr ⟨hy, fun x ob' h1 h2 => hi ⟨x, ob', h1, h2⟩⟩
  · exact absurd (hO x ob' h).1 (Nat.not_le.2 h6)
  · rw [app_nil]; exact hr'

/-- What a call that writes leaves of the caller's objects. -/
def callUpd (ins : List Nat) (d : Nat) (O' : List (Nat × Ob)) : List (Nat × Option Ob) :=
  (ins.zipIdx 1000000).map (fun e => (e.1, (look O' e.2).map (Ob.ren (nren ins d)))) ++ (O'.filter fun e => decide (e.1 < 1000000)).map fun e => (nren ins d e.1, (look O' e.1).map (Ob.ren (nren ins d)))

theorem op_callW {fop : Operand} {xs : Array Operand} {ats : Array TypeId} {f : FuncId} {first caps : List PV} {args rs : List PV} {O O' : List (Nat × Ob)} (ins : List Nat) (d : Nat) (ho : o.op = .call { callee := .value fop, args := xs, argTypes := ats }) (hk : (fop :: xs.toList).all okOp = true)
    (hf : s.val fop = .fn (.func f) first caps) (hca : callable P f = true) (hargs : first ++ xs.toList.map s.val ++ caps = renL (nren ins d) args) (hnd : ins.Nodup) (hO : HandOK ins d s O) (hall : ∀ i, i < ins.length → (look O (1000000 + i)).isSome = true) (hfn : Fn P f args O rs O') (hcl : closedB rs O' = true)
    (hold : O'.all (fun e => decide (e.1 < 1000000) || (decide (e.1 < 1000000 + ins.length) && e.2.open_)) = true) (hlow : O'.all (fun e => decide (1000000 ≤ e.1) || decide (nren ins d e.1 < 1000000)) = true) :
    OpOK P ops o s ⟨o.dst, (resV rs).ren (nren ins d), ins, (O'.filter fun e => decide (e.1 < 1000000)).map fun e => nren ins d e.1, callUpd ins d O'⟩ := by
  intro s1 ha hf1 hn hdb E g a w hr K Qx hK
  simp only [List.all_cons, Bool.and_eq_true] at hk
  have hag : ∀ x ∈ o.op.operands, s1.val x = s.val x := fun x hx => val_agree ha hx
  have hfv := eval_of (s := s) hr hag (x := fop) (by rw [ho]; simp [Op.operands, Call.operands]) hk.1 hf
  obtain ⟨hal, hav⟩ := argsAt (o := o) (s := s) (xs := xs) rfl hr hag (fun x hx => by rw [ho]; simp [Op.operands, Call.operands, hx]) hk.2
  have insAt : ∀ i, i < ins.length → nren ins d (1000000 + i) = ins.getD i 0 := fun i hi => by
    simp only [nren, if_pos (Nat.le_add_right 1000000 i), Nat.add_sub_cancel_left]
  have hO1 : HandOK ins d s1 O := fun x ob hx => by
    obtain ⟨h1, h2, h3, h4⟩ := hO x ob hx
    refine ⟨h1, h2, h3, ?_⟩
    rw [← h4]
    refine hf1 _ ?_
    obtain ⟨i, rfl⟩ := Nat.exists_eq_add_of_le h1
    have hi : i < ins.length := Nat.lt_of_add_lt_add_left h2
    rw [insAt i hi, List.getD_eq_getElem?_getD, List.getElem?_eq_getElem hi]
    exact List.getElem_mem hi
  have hobs : ∀ y, (⟨s1.n, s1.slots, updOb s1.objs (callUpd ins d O')⟩ : St).ob y = (updLook (callUpd ins d O') y).getD (s1.ob y) := fun y => look_updOb y _ _
  refine wp_call hr ho hfv hca hav hal (ins := ins) (d := d) hargs hnd hO1 hfn (s2 := ⟨s1.n, s1.slots, updOb s1.objs (callUpd ins d O')⟩) ⟨rfl, rfl, fun y ob hy => ?_, fun x ob' h h6 => ?_, fun x ob' h h6 => ?_⟩ hcl (dB_spec hdb) K Qx (fun a' w' g' hr' => hK a' w' g' ?_)
  · rw [hobs] at hy
    cases hu : updLook (callUpd ins d O') y with
    | some r =>
      rw [hu] at hy
      simp only [Option.getD_some] at hy
      have hm := updLook_mem hu
      rw [hy] at hm
      simp only [callUpd, List.mem_append, List.mem_map, Prod.mk.injEq] at hm
      rcases hm with ⟨⟨z, i⟩, h1, h2, h3⟩ | ⟨⟨x, ob2⟩, h1, h2, h3⟩
      · simp only at h2 h3
        obtain ⟨ob', h4, h5⟩ := Option.map_eq_some_iff.1 h3
        have hz := List.mem_zipIdx_iff_le_and_getElem?_sub.1 h1
        obtain ⟨k, rfl⟩ := Nat.exists_eq_add_of_le hz.1
        have hk2 : ins[k]? = some z := by have := hz.2; simp only [Nat.add_sub_cancel_left] at this; exact this
        refine .inl ⟨_, ob', h4, ?_, h5.symm⟩
        rw [insAt k (List.getElem?_eq_some_iff.1 hk2).1, List.getD_eq_getElem?_getD, hk2]
        exact h2
      · simp only at h2 h3
        obtain ⟨ob', h4, h5⟩ := Option.map_eq_some_iff.1 h3
        exact .inl ⟨x, ob', h4, h2, h5.symm⟩
    | none =>
      rw [hu] at hy
      refine .inr ⟨hy, fun x ob' hx he => ?_⟩
      obtain ⟨h1, h2, _, _⟩ := hO x ob' hx
      obtain ⟨i, rfl⟩ := Nat.exists_eq_add_of_le h1
      have hi : i < ins.length := Nat.lt_of_add_lt_add_left h2
      have hmem : (y, (look O' (1000000 + i)).map (Ob.ren (nren ins d))) ∈ callUpd ins d O' := by
        simp only [callUpd, List.mem_append, List.mem_map, Prod.mk.injEq]
        refine .inl ⟨(ins[i], 1000000 + i), ?_, ?_, rfl⟩
        · rw [List.mem_zipIdx_iff_le_and_getElem?_sub]
          exact ⟨Nat.le_add_right _ _, by simp only [Nat.add_sub_cancel_left]; exact List.getElem?_eq_getElem hi⟩
        · simp only
          rw [← he, insAt i hi, List.getD_eq_getElem?_getD, List.getElem?_eq_getElem hi]; rfl
      have : updLook (callUpd ins d O') y ≠ none := by
        generalize callUpd ins d O' = l at hmem
        clear hu hy hobs hK
        induction l with
        | nil => cases hmem
        | cons v l ih =>
          obtain ⟨v1, v2⟩ := v
          simp only [updLook]
          rcases List.mem_cons.1 hmem with hv | hv
          · injection hv with hv1 hv2
            cases hq : updLook l y with
            | some q => simp
            | none => simp [hv1]
          · have := ih hv
            cases hq : updLook l y with
            | none => exact absurd hq this
            | some q => simp
      exact this hu
  · have := List.all_eq_true.1 hold _ (look_mem h)
    simp only [Bool.or_eq_true, decide_eq_true_eq, Bool.and_eq_true] at this
    rcases this with h' | h'
    · exact absurd h6 (Nat.not_le.2 h')
    · obtain ⟨i, rfl⟩ := Nat.exists_eq_add_of_le h6
      exact ⟨Option.isSome_iff_exists.1 (hall i (Nat.lt_of_add_lt_add_left h'.1)), h'.2⟩
  · have hm := look_mem h
    refine ⟨hn _ ?_, ?_⟩
    · exact List.mem_map.2 ⟨(x, ob'), List.mem_filter.2 ⟨hm, by simpa using h6⟩, rfl⟩
    · have := List.all_eq_true.1 hlow _ hm
      simp only [Bool.or_eq_true, decide_eq_true_eq] at this
      rcases this with h' | h'
      · exact absurd h' (Nat.not_le.2 h6)
      · exact h'
  · have : s1.app ⟨o.dst, (resV rs).ren (nren ins d), ins, (O'.filter fun e => decide (e.1 < 1000000)).map fun e => nren ins d e.1, callUpd ins d O'⟩ = (⟨s1.n, s1.slots, updOb s1.objs (callUpd ins d O')⟩ : St).put o.dst ((resV rs).ren (nren ins d)) := by
      cases o.dst <;> rfl
    rw [this]; exact hr'
end
end Go.Pm

namespace Go.Pm

def St.ap (s : St) (dst : Option Tmp) (val : PV) (upd : List (Nat × Option Ob)) : St := match dst with
  | some d => ⟨s.n, (d, val) :: s.slots, updOb s.objs upd⟩
  | none => ⟨s.n, s.slots, updOb s.objs upd⟩

section
variable {P : Program} {ops : Array Oper} {draw : Bool} {s0 : St} {o : Oper} {rest : List Oper} {s : St} {es : List Eff} {K : St → Prop}
theorem app_ap (s : St) (dst : Option Tmp) (val : PV) (foot news : List Nat) (upd : List (Nat × Option Ob)) : s.app ⟨dst, val, foot, news, upd⟩ = s.ap dst val upd := by cases dst <;> rfl
theorem lx {dst : Option Tmp} {val : PV} {foot news : List Nat} {upd : List (Nat × Option Ob)} (h1 : OpOK P ops o s ⟨dst, val, foot, news, upd⟩) (h0 : s.want ops o = some true) (hd : dB o s.n = true) (h2 : (news.all fun x => s.fresh x) = true) (h3 : Lex P ops draw s0 rest (s.ap dst val upd) (⟨dst, val, foot, news, upd⟩ :: es) K) : Lex P ops draw s0 (o :: rest) s es K :=
  ⟨_, step_run h0 hd h1, h2, by rw [app_ap]; exact h3⟩
/-- the same behind a guard -/
theorem lg {dst : Option Tmp} {val : PV} {foot news : List Nat} {upd : List (Nat × Option Ob)} {b : Bool} (h1 : OpOK P ops o s ⟨dst, val, foot, news, upd⟩) (h0 : s.want ops o = some b) (hb : b = true) (hd : dB o s.n = true) (h2 : (news.all fun x => s.fresh x) = true) (h3 : Lex P ops draw s0 rest (s.ap dst val upd) (⟨dst, val, foot, news, upd⟩ :: es) K) : Lex P ops draw s0 (o :: rest) s es K :=
  ⟨_, step_run (by rw [h0, hb]) hd h1, h2, by rw [app_ap]; exact h3⟩
theorem lskip {b : Bool} (h0 : s.want ops o = some b) (hb : b = false) (hd : dB o s.n = true) (h3 : Lex P ops draw s0 rest (s.ap o.dst (.tup []) []) (⟨o.dst, .tup [], [], [], []⟩ :: es) K) : Lex P ops draw s0 (o :: rest) s es K :=
  ⟨_, step_skip (by rw [h0, hb]) hd, rfl, by rw [app_ap]; exact h3⟩
theorem lend (h1 : draw = true → ordOK ops s0 es.reverse = true) (h2 : K s) : Lex P ops draw s0 [] s es K := ⟨h1, h2⟩
theorem lendF (h2 : K s) : Lex P ops false s0 [] s es K := ⟨fun h => (by cases h), h2⟩

theorem op_pickT {c x y : Operand} {b : Bool} (ho : o.op = .pick c x y) (hc : s.val c = .d (.bool b)) (hb : b = true) (hk : (okOp c && okOp x && okOp y) = true) : OpOK P ops o s ⟨o.dst, s.val x, [], [], []⟩ := by
  subst hb
  simp only [Bool.and_eq_true] at hk
  exact op_pick (b := true) ho hc hk.1.1 hk.1.2 hk.2
theorem op_pickF {c x y : Operand} {b : Bool} (ho : o.op = .pick c x y) (hc : s.val c = .d (.bool b)) (hb : b = false) (hk : (okOp c && okOp x && okOp y) = true) : OpOK P ops o s ⟨o.dst, s.val y, [], [], []⟩ := by
  subst hb
  simp only [Bool.and_eq_true] at hk
  exact op_pick (b := false) ho hc hk.1.1 hk.1.2 hk.2
end

section
variable {P : Program} {Q : Exit → St → Prop} {s : St}
theorem awp_cond {c : Operand} {x y : Code} {b : Bool} (hc : s.val c = .d (.bool b)) (hk : okOp c = true) (ht : b = true → awp P x Q s) (hf : b = false → awp P y Q s) : awp P (.cond c x y) Q s := by
  intro E g a w hr
  have h1 := vrel_bool (by rw [← hc]; exact val_rel hr c hk)
  cases b with
  | true => exact wp_cond_true h1 (ht rfl E g a w hr)
  | false => exact wp_cond_false h1 (hf rfl E g a w hr)
theorem awp_condT {c : Operand} {x y : Code} {b : Bool} (hc : s.val c = .d (.bool b)) (hb : b = true) (hk : okOp c = true) (ht : awp P x Q s) : awp P (.cond c x y) Q s := awp_cond hc hk (fun _ => ht) (fun h => by rw [hb] at h; cases h)
theorem awp_condF {c : Operand} {x y : Code} {b : Bool} (hc : s.val c = .d (.bool b)) (hb : b = false) (hk : okOp c = true) (hf : awp P y Q s) : awp P (.cond c x y) Q s := awp_cond hc hk (fun h => by rw [hb] at h; cases h) (fun _ => hf)

inductive Le (ρ : Nat → Nat) : PV → PV → Prop
  | same (p) : Le ρ (p.ren ρ) p
  | undef (p) : Le ρ p .undef
  | data {p d} (h : toD p = some d) : Le ρ p (.d d)
  | full : Le ρ .nils (.tl [] none)

theorem le_rel {g : Gh} {ρ : Nat → Nat} {M : Nat → Nat → Prop} {w : World} {p q : PV} {v : Value} (h : Le ρ p q) (r : VRel g M w p v) : VRel (g.com ρ) M w q v := by
  cases h with
  | same => exact vrel_unren q v r
  | undef => exact .undef v
  | data h => exact .d (toD_den h r)
  | full => cases r; exact .full .nil

inductive LeL (ρ : Nat → Nat) : List PV → List PV → Prop
  | nil : LeL ρ [] []
  | cons {p q l m} (h : Le ρ p q) (t : LeL ρ l m) : LeL ρ (p :: l) (q :: m)
theorem leL_get {ρ : Nat → Nat} : ∀ {l m : List PV}, LeL ρ l m → l.length = m.length ∧ ∀ (j : Nat) (q : PV), m[j]? = some q → ∃ p, l[j]? = some p ∧ Le ρ p q
  | _, _, .nil => ⟨rfl, by simp⟩
  | _, _, .cons h t => by
    obtain ⟨h1, h2⟩ := leL_get t
    refine ⟨by simp [h1], fun j q hj => ?_⟩
    cases j with
    | zero => simp at hj; subst hj; exact ⟨_, rfl, h⟩
    | succ j => exact h2 j q (by simpa using hj)
inductive LeM (ρ : Nat → Nat) : List (D × PV) → List (D × PV) → Prop
  | nil : LeM ρ [] []
  | cons {k p q l m} (h : Le ρ p q) (t : LeM ρ l m) : LeM ρ ((k, p) :: l) ((k, q) :: m)
theorem leM_get {ρ : Nat → Nat} : ∀ {l m : List (D × PV)}, LeM ρ l m → l.length = m.length ∧ ∀ (j : Nat) (k : D) (q : PV), m[j]? = some (k, q) → ∃ p, l[j]? = some (k, p) ∧ Le ρ p q
  | _, _, .nil => ⟨rfl, by simp⟩
  | _, _, .cons h t => by
    obtain ⟨h1, h2⟩ := leM_get t
    refine ⟨by simp [h1], fun j k q hj => ?_⟩
    cases j with
    | zero => simp at hj; obtain ⟨rfl, rfl⟩ := hj; exact ⟨_, rfl, h⟩
    | succ j => exact h2 j k q (by simpa using hj)
theorem leM_same {ρ : Nat → Nat} : ∀ (l : List (D × PV)), (∀ e ∈ l, Le ρ e.2 e.2) → LeM ρ l l
  | [], _ => .nil
  | (k, p) :: r, h => .cons (h (k, p) (by simp)) (leM_same r fun e he => h e (by simp [he]))
theorem leM_app {ρ : Nat → Nat} : ∀ {a b c d : List (D × PV)}, LeM ρ a b → LeM ρ c d → LeM ρ (a ++ c) (b ++ d)
  | _, _, _, _, .nil, h => h
  | _, _, _, _, .cons h t, k => .cons h (leM_app t k)
inductive LeO (ρ : Nat → Nat) : Ob → Ob → Prop
  | same (ob) : LeO ρ (ob.ren ρ) ob
  | cells {l m} (h : LeL ρ l m) : LeO ρ (.cells l) (.cells m)
  | map {dm dm' es es'} (h : LeM ρ (ments dm es) (ments dm' es')) : LeO ρ (.map dm es) (.map dm' es')

theorem leO_rel {g : Gh} {ρ : Nat → Nat} {M : Nat → Nat → Prop} {w : World} {x : Nat} {ob ob' : Ob} (h : LeO ρ ob ob') (r : ORel g M w (ρ x) ob) : ORel (g.com ρ) M w x ob' := by
  cases h with
  | same => exact orel_unren r
  | cells h =>
    cases r with
    | cells hφ hb hl hh =>
      obtain ⟨h1, h2⟩ := leL_get h
      refine .cells hφ hb (by rw [hl, h1]) fun j q hj => ?_
      obtain ⟨p, hp, hle⟩ := h2 j q hj
      obtain ⟨v, e1, e2, e3⟩ := hh j p hp
      exact ⟨v, e1, e2, le_rel hle e3⟩
  | map h =>
    cases r with
    | map hφ hb hl hst hh =>
      obtain ⟨h1, h2⟩ := leM_get h
      refine .map hφ hb (by rw [hl, h1]) hst fun j k q hj => ?_
      obtain ⟨p, hp, hle⟩ := h2 j k q hj
      obtain ⟨e, e1, e2, e3⟩ := hh j k p hp
      exact ⟨e, e1, e2, le_rel hle e3⟩

/-- What is kept of the objects, by which names. -/
def ObsOK (ρ : Nat → Nat) (s : St) (O' : List (Nat × Ob)) : Prop := ∀ x ob', look O' x = some ob' → ∃ ob, s.ob (ρ x) = some ob ∧ LeO ρ ob ob'
theorem obs_nil {ρ : Nat → Nat} {s : St} : ObsOK ρ s [] := fun x ob h => by cases h
theorem obs_cons {ρ : Nat → Nat} {s : St} {x : Nat} {ob ob' : Ob} {O' : List (Nat × Ob)} (h1 : s.ob (ρ x) = some ob) (h2 : LeO ρ ob ob') (h : ObsOK ρ s O') : ObsOK ρ s ((x, ob') :: O') := fun y ob2 hy => by
  simp only [look] at hy
  by_cases hxy : x = y
  · rw [if_pos hxy] at hy; injection hy with hy; subst hy; subst hxy; exact ⟨ob, h1, h2⟩
  · rw [if_neg hxy] at hy; exact h y ob2 hy

theorem leO_mut {g : Gh} {ρ : Nat → Nat} {x : Nat} {ob ob' : Ob} (h : LeO ρ ob ob') (b o : Nat) : mutAt (g.com ρ) x ob' b o = mutAt g (ρ x) ob b o := by
  cases h with
  | same => exact (mutAt_ren (g := g.com ρ) (gc := g) ⟨rfl, rfl⟩ b o).symm
  | cells h => rfl
  | map h => rfl

/-- A state tells what another one tells, and more. 'ρ': what a name was called; names of what was handed over stay. -/
theorem ent_of {s' : St} (ρ : Nat → Nat) (hn : s'.n = s.n) (hs : ∀ i q, s'.sl i = some q → ∃ p, s.sl i = some p ∧ Le ρ p q) (ho : ObsOK ρ s s'.objs) (hinj : ∀ x y ob ob', s'.ob x = some ob → s'.ob y = some ob' → ρ x = ρ y → x = y) (h6 : ∀ x, 1000000 ≤ x → ρ x = x) : Ent s s' := by
  intro E g a w hr
  have hM : ∀ b o, MM E (g.com ρ) s' b o → MM E g s b o := by
    rintro b o (h | ⟨x, ob', hx, hm⟩)
    · exact .inl h
    · obtain ⟨ob, e1, e2⟩ := ho x ob' hx
      rw [leO_mut e2] at hm
      exact .inr ⟨_, _, e1, hm⟩
  refine ⟨g.com ρ, by rw [hn]; exact hr.size, hr.defers, fun i q hi => ?_, fun x ob' hx => ?_, fun x y ob ob' b hx hy h3 h4 => ?_, fun x ob' b hx h3 => ?_, hr.fr, hr.av, fun x hx => ?_⟩
  · obtain ⟨p, hp, hle⟩ := hs i q hi
    obtain ⟨v, e1, e2⟩ := hr.slots i p hp
    exact ⟨v, e1, (le_rel hle e2).mono (Same.refl _ _) (fun b o _ h => hM b o h) rfl rfl⟩
  · obtain ⟨ob, e1, e2⟩ := ho x ob' hx
    exact (leO_rel e2 (hr.objs _ _ e1)).move (Same.refl _ _) (fun b o _ h => hM b o h) (fun _ _ => ⟨rfl, rfl⟩) ⟨rfl, rfl⟩ (fun _ _ => rfl)
  · obtain ⟨o1, e1, _⟩ := ho x ob hx
    obtain ⟨o2, e2, _⟩ := ho y ob' hy
    exact hinj x y ob ob' hx hy (hr.inj _ _ _ _ b e1 e2 h3 h4)
  · obtain ⟨o1, e1, _⟩ := ho x ob' hx
    exact hr.own _ _ b e1 h3
  · show g.φ (ρ x) = _ ∧ g.τ (ρ x) = _
    rw [h6 x hx]
    exact hr.keep x hx
end

theorem ren_id : ∀ (p : PV), p.ren id = p
  | .undef => rfl
  | .d _ => rfl
  | .nils => rfl
  | .tl _ none => rfl
  | .tl _ (some _) => rfl
  | .arr _ _ _ _ => rfl
  | .ptr _ _ => rfl
  | .eptr _ _ _ _ => rfl
  | .cptr _ => rfl
  | .nn _ => rfl
  | .map _ => rfl
  | .iter _ => rfl
  | .fn f fs cs => by
    have h1 : PV.ren.renL id fs = fs := by
      apply List.ext_getElem?; intro j; rw [renL_get]
      cases h : fs[j]? with
      | none => rfl
      | some p => have : p ∈ fs := List.mem_of_getElem? h; simp only [Option.map_some, ren_id p]
    have h2 : PV.ren.renL id cs = cs := by
      apply List.ext_getElem?; intro j; rw [renL_get]
      cases h : cs[j]? with
      | none => rfl
      | some p => have : p ∈ cs := List.mem_of_getElem? h; simp only [Option.map_some, ren_id p]
    simp only [PV.ren, h1, h2]
  | .agg cs => by
    have h2 : PV.ren.renL id cs = cs := by
      apply List.ext_getElem?; intro j; rw [renL_get]
      cases h : cs[j]? with
      | none => rfl
      | some p => have : p ∈ cs := List.mem_of_getElem? h; simp only [Option.map_some, ren_id p]
    simp only [PV.ren, h2]
  | .tup cs => by
    have h2 : PV.ren.renL id cs = cs := by
      apply List.ext_getElem?; intro j; rw [renL_get]
      cases h : cs[j]? with
      | none => rfl
      | some p => have : p ∈ cs := List.mem_of_getElem? h; simp only [Option.map_some, ren_id p]
    simp only [PV.ren, h2]
termination_by p => SizeOf.sizeOf p
decreasing_by all_goals (have := List.sizeOf_lt_of_mem this; simp only [PV.fn.sizeOf_spec, PV.agg.sizeOf_spec, PV.tup.sizeOf_spec]; omega)

theorem renL_id (l : List PV) : PV.ren.renL id l = l := by
  apply List.ext_getElem?; intro j; rw [renL_get]
  cases h : l[j]? with
  | none => rfl
  | some p => simp only [Option.map_some, ren_id p]
theorem obren_id (ob : Ob) : ob.ren id = ob := by
  cases ob with
  | cells cs => simp only [Ob.ren]; rw [show renL id cs = cs from renL_id cs]
  | map dm es =>
    have : renM id es = es := by
      apply List.ext_getElem?; intro j; rw [renM_get]
      cases h : es[j]? with
      | none => rfl
      | some e => simp only [Option.map_some, ren_id e.2]
    simp only [Ob.ren, this]
  | _ => rfl
theorem sub_nil {O : List (Nat × Ob)} : ∀ x ob, look [] x = some ob → look O x = some ob := fun x ob h => by cases h
theorem sub_cons {O O' : List (Nat × Ob)} {x : Nat} {ob : Ob} (h1 : look O x = some ob) (h : ∀ x ob, look O' x = some ob → look O x = some ob) : ∀ y ob', look ((x, ob) :: O') y = some ob' → look O y = some ob' := fun y ob' hy => by
  simp only [look] at hy
  by_cases hxy : x = y
  · rw [if_pos hxy] at hy; injection hy with hy; subst hy; subst hxy; exact h1
  · rw [if_neg hxy] at hy; exact h y ob' hy
end Go.Pm

namespace Go.Pm

section
variable {P : Program} {ops : Array Oper} {o : Oper} {s : St}

theorem op_fn {f : Go.Fn} {first cap : Array Operand} {fs cs : List PV} (ho : o.op = .makeFunc f first cap) (h1 : first.toList.all okOp = true) (h2 : cap.toList.all okOp = true) (hf : first.toList.map s.val = fs) (hc : cap.toList.map s.val = cs) :
    OpOK P ops o s ⟨o.dst, .fn f fs cs, [], [], []⟩ := hf ▸ hc ▸ op_makeFunc ho h1 h2

/-- A new object that bears a value's cells. -/
theorem rel_newObj {E : Env} {g : Gh} {s1 : St} {a : Act} {w : World} (hr : Rel E g s1 a w) {d : Nat} (hf : Fresh s1 d) (hd6 : d < 1000000) {p : PV} {cs : List PV} {v : Value} (hp : cellsP p = some cs) (hv : VRel g (MM E g s1) w p v) (hh : p.has d = false) (t : TypeId) :
    Rel E (g.put d (some w.heap.size) none) ⟨s1.n, s1.slots, setOb s1.objs d (some (.cells cs))⟩ a (w.alloc (.cells v.cells t)) := by
  obtain ⟨hlen, hcell⟩ := cellsP_rel hp hv
  refine hr.alloc_obj (x := d) hf hd6 (.cells cs) (.cells v.cells t) none (fun b q hm => by simp [mutAt, Gh.put] at hm; omega) (fun M' hM' _ => ?_)
  refine .cells (by simp [Gh.put]) (heap_alloc_new w _) hlen fun j q hj => ?_
  obtain ⟨u, e1, e2, e3⟩ := hcell j q hj
  refine ⟨u, e1, e2, e3.move (Same.alloc _ _ _) hM' fun y hy => ?_⟩
  have : y ≠ d := by rintro rfl; rw [cellsP_has hp hh q (List.mem_of_getElem? hj)] at hy; cases hy
  simp [Gh.put, this]

/-- A zero value's cells, each by itself. -/
def rawPV : Value → PV
  | .agg cs => .agg (cs.toList.map constCell)
  | v => constCell v
theorem rawPV_rel {g : Gh} {w : World} (M : Nat → Nat → Prop) (v : Value) (hc : constOK v = true) : VRel g M w (rawPV v) v := by
  unfold rawPV
  split
  · rename_i cs
    have := VRel.agg (g := g) (w := w) (M := M) (cs := cs.toList.map constCell) (vs := cs.toList) (by simp) (fun v hv => by
      simp only [constOK, List.all_eq_true] at hc
      exact hc v hv) (fun j p hj v hv => by
      simp only [List.getElem?_map, Option.map_eq_some_iff] at hj
      obtain ⟨v', h1, rfl⟩ := hj
      rw [h1] at hv; injection hv with hv; subst hv
      exact constCell_rel M _)
    simpa using this
  · exact constCell_rel M v
theorem rawPV_has (x : Nat) (v : Value) : (rawPV v).has x = false := by
  unfold rawPV; split
  · simp only [PV.has]
    refine anyP_all fun p hp => ?_
    obtain ⟨v, _, rfl⟩ := List.mem_map.1 hp
    exact constCell_has x v
  · exact constCell_has x v

theorem op_alloc {t : TypeId} {d : Tmp} {cs : List PV} {u : Option TK} {sz bs : Nat} {zv : Value} (ho : o.op = .alloc t) (hd : o.dst = some d) (hd6 : d < 1000000) (ht : tyF P t = (u, some (sz, bs, some zv))) (hz : cellsP (rawPV zv) = some cs) (hk : constOK zv = true) :
    OpOK P ops o s ⟨o.dst, .ptr d 0, [], [d], [(d, some (.cells cs))]⟩ := by
  intro s1 ha hf hn hdb E g a w hr K Qx hK
  unfold Oper.wp
  have hrun : (execOp a.eval o).run P w = .ok (.value (.pointer (some ⟨w.heap.size, 0, none⟩))) (w.alloc (.cells zv.cells t)) := by
    unfold execOp; rw [ho]; simp [Instr.alloc, newVar, newRow, run_zero' ht]
  rw [hrun]
  have hrel := rel_newObj hr (hn d (by simp)) hd6 hz (rawPV_rel _ zv hk) (rawPV_has d zv) t
  refine hK _ _ (g.put d (some w.heap.size) none) ?_
  rw [app_one]
  exact hrel.put (dB_spec hdb) (.ptr (by simp [Gh.put]))

/-! #### stores -/
def wr (cs : List PV) (q : Nat) : List PV → List PV
  | [] => cs
  | p :: r => wr (cs.set q p) (q + 1) r
theorem wr_length : ∀ (news cs : List PV) (q : Nat), (wr cs q news).length = cs.length
  | [], cs, q => rfl
  | p :: r, cs, q => by simp only [wr, wr_length r]; simp
theorem wr_get : ∀ (news cs : List PV) (q j : Nat), q + news.length ≤ cs.length → (wr cs q news)[j]? = if q ≤ j ∧ j < q + news.length then news[j - q]? else cs[j]?
  | [], cs, q, j, h => by
    simp only [wr, List.length_nil, Nat.add_zero]
    rw [if_neg (by omega)]
  | p :: r, cs, q, j, h => by
    simp only [List.length_cons] at h
    simp only [wr]
    rw [wr_get r (cs.set q p) (q + 1) j (by simp; omega)]
    simp only [List.length_cons]
    by_cases h1 : q = j
    · subst h1
      rw [if_neg (by omega), if_pos (by omega), List.getElem?_set]
      simp; omega
    · by_cases h2 : q + 1 ≤ j ∧ j < q + 1 + r.length
      · rw [if_pos h2, if_pos (by omega)]
        rw [show j - q = (j - (q + 1)) + 1 from by omega, List.getElem?_cons_succ]
      · rw [if_neg h2, if_neg (by omega), List.getElem?_set_ne h1]

theorem setRow_frm {E : Env} {w : World} (h : Frm E w) {b : Nat} (hb : E.B ≤ b ∨ E.imp b) (cs : Array Value) : Frm E (w.setRow b cs) :=
  ⟨by rw [setRow_size]; exact h.size, h.os, h.tape, h.output, fun k hk hi => by
    have : k ≠ b := by
      rintro rfl
      rcases hb with hb | hb
      · exact absurd hb (Nat.not_le.2 hk)
      · exact hi hb
    rw [setRow_other w b k cs this]; exact h.block k hk hi, h.gok⟩
theorem setRow_same {M : Nat → Nat → Prop} {w : World} {b : Nat} {old cs : Array Value} {t : TypeId} {fr : Nat × Nat} (hb : w.heap[b]? = some (.cells old t fr)) (h : ∀ o u, old[o]? = some u → ¬ M b o → cs[o]? = some u) : Same M w (w.setRow b cs) := by
  intro b' o u hu hm
  by_cases hbb : b' = b
  · subst hbb
    rw [cell_setRow_same w b' o old cs t fr hb]
    have : old[o]? = some u := by simpa [World.cell?, hb] using hu
    exact h o u this hm
  · rw [cell_setRow_other w b cs _ hbb]; exact hu

theorem op_store {t : TypeId} {x v : Operand} {r : Nat} {q sz bs : Nat} {cs news : List PV} {u : Option TK} {z : Option Value} (ho : o.op = .store t x v) (hx : s.val x = .ptr r q) (hkx : okOp x = true) (hob : s.ob r = some (.cells cs)) (hv : cellsP (s.val v) = some news) (hkv : okOp v = true)
    (ht : tyF P t = (u, some (sz, bs, z))) (hsz : news.length = sz) (hl : q + sz ≤ cs.length) : OpOK P ops o s ⟨o.dst, .tup [], [r], [], [(r, some (.cells (wr cs q news)))]⟩ := by
  intro s1 ha hf hn hdb E g a w hr K Qx hK
  have hag : ∀ x ∈ o.op.operands, s1.val x = s.val x := fun x hx => val_agree ha hx
  have h1 := eval_of (s := s) hr hag (x := x) (by rw [ho]; simp [Op.operands]) hkx hx
  have h2 := eval_of (s := s) hr hag (x := v) (by rw [ho]; simp [Op.operands]) hkv rfl
  have hob1 : s1.ob r = some (.cells cs) := by rw [hf r (by simp)]; exact hob
  obtain ⟨b, hae, hφ⟩ := vrel_ptr h1
  obtain ⟨b', vs, elem, hφ', hb, hlen, hcs⟩ := orel_cells (hr.objs r _ hob1)
  rw [hφ] at hφ'; injection hφ' with hφ'; subst hφ'
  obtain ⟨hvl, hvc⟩ := cellsP_rel hv h2
  have hone : ∀ y ∈ (a.eval v).cells.toList, y.oneCell' = true := by
    intro y hy
    obtain ⟨j, hj⟩ := List.mem_iff_getElem?.1 hy
    have hjl : j < news.length := by have := (List.getElem?_eq_some_iff.1 hj).1; simp at this; omega
    obtain ⟨u', e1, e2, _⟩ := hvc j _ (List.getElem?_eq_getElem hjl)
    have : (a.eval v).cells[j]? = some y := by simpa using hj
    rw [e1] at this; injection this with this; rw [← this]; exact e2
  have hst := run_storeCells_at P b q elem (a.eval v).cells.toList 0 vs w hb (by simp [hvl, hsz, hlen]; omega) hone
  simp only [Nat.add_zero] at hst
  let cells' : Array Value := (vs.toList.take q ++ (a.eval v).cells.toList ++ vs.toList.drop (q + (a.eval v).cells.toList.length)).toArray
  have hget : ∀ j, cells'[j]? = if q ≤ j ∧ j < q + sz then (a.eval v).cells[j - q]? else vs[j]? := by
    intro j
    show (vs.toList.take q ++ (a.eval v).cells.toList ++ vs.toList.drop (q + (a.eval v).cells.toList.length)).toArray[j]? = _
    have hnl : (a.eval v).cells.toList.length = sz := by simp [hvl, hsz]
    rw [hnl]
    simp only [List.getElem?_toArray]
    have htl : (vs.toList.take q).length = q := by rw [List.length_take]; simp [hlen]; omega
    by_cases h3 : j < q
    · rw [List.append_assoc, List.getElem?_append_left (by omega), List.getElem?_take, if_pos h3, if_neg (by omega)]; simp
    · by_cases h4 : j < q + sz
      · rw [List.getElem?_append_left (by simp only [List.length_append, htl, hnl]; omega), List.getElem?_append_right (by omega), htl, if_pos ⟨by omega, h4⟩]; simp
      · rw [List.getElem?_append_right (by simp only [List.length_append, htl, hnl]; omega), List.getElem?_drop, if_neg (by omega)]
        simp only [List.length_append, htl, hnl]
        rw [show q + sz + (j - (q + sz)) = j from by omega]; simp
  have hrun : (execOp a.eval o).run P w = .ok .skip (w.setRow b cells') := by
    unfold execOp
    rw [ho]
    have hsv : (storeVar t ⟨b, q, none⟩ (a.eval v)).run P w = .ok () (w.setRow b cells') := by
      simp [storeVar, run_sizeOf' ht, hvl, hsz, hst, cells']
    simp [Instr.storeAt, hae, Instr.sureAddr, hsv]
  unfold Oper.wp
  rw [hrun]
  have hMr : ∀ q', MM E g s1 b q' := fun q' => .inr ⟨r, _, hob1, hφ⟩
  have hMM : ∀ bb oo, MM E g ⟨s1.n, s1.slots, setOb s1.objs r (some (.cells (wr cs q news)))⟩ bb oo → MM E g s1 bb oo := by
    rintro bb oo (hm | ⟨y, ob, hy, hm⟩)
    · exact .inl hm
    · have hy' : look (setOb s1.objs r (some (.cells (wr cs q news)))) y = some ob := hy
      rw [look_setOb] at hy'
      by_cases hyr : y = r
      · subst hyr
        rw [if_pos rfl] at hy'; injection hy' with hy'; subst hy'
        exact .inr ⟨y, _, hob1, hm⟩
      · rw [if_neg hyr] at hy'; exact .inr ⟨y, ob, hy', hm⟩
  have hsame : Same (MM E g s1) w (w.setRow b cells') := setRow_same hb fun oo uu _ hm => absurd (hMr oo) hm
  have hown := hr.own r _ b hob1 hφ
  have hrel : Rel E g ⟨s1.n, s1.slots, setOb s1.objs r (some (.cells (wr cs q news)))⟩ a (w.setRow b cells') := by
    refine hr.turn r rfl rfl (fun y hy => ?_) (fun y hy => ⟨rfl, rfl⟩) (.inl ⟨rfl, rfl⟩) (fun bb oo _ h => hMM bb oo h) hsame (fun y ob bb hy h3 h4 => ?_) (fun ob h3 => ?_) (fun ob bb h3 h4 => ?_) (setRow_frm hr.fr hown.1 _) (by rw [setRow_size]; exact Nat.le_refl _) (.inr ⟨rfl, rfl⟩)
    · show look _ _ = look _ _
      rw [look_setOb, if_neg hy]
    · refine setRow_other w b bb _ ?_
      rintro rfl
      exact hy (hr.inj y r _ _ _ h3 hob1 h4 hφ)
    · have h3' : look (setOb s1.objs r (some (.cells (wr cs q news)))) r = some ob := h3
      rw [look_setOb, if_pos rfl] at h3'
      injection h3' with h3'; subst h3'
      refine .cells hφ (setRow_heap w b vs cells' elem (0, 0) hb) ?_ fun j p hj => ?_
      · have : cells'.size = vs.size := by
          show (vs.toList.take q ++ (a.eval v).cells.toList ++ vs.toList.drop (q + (a.eval v).cells.toList.length)).toArray.size = _
          simp [hvl, hsz, hlen]; omega
        rw [this, hlen, wr_length]
      · rw [wr_get news cs q j (by omega)] at hj
        rw [hget]
        by_cases hc : q ≤ j ∧ j < q + sz
        · rw [if_pos (by rw [hsz]; exact hc)] at hj
          rw [if_pos hc]
          obtain ⟨u', e1, e2, e3⟩ := hvc _ p hj
          exact ⟨u', e1, e2, e3.move hsame (fun bb oo _ h => hMM bb oo h) fun _ _ => ⟨rfl, rfl⟩⟩
        · rw [if_neg (by rw [hsz]; exact hc)] at hj
          rw [if_neg hc]
          obtain ⟨u', e1, e2, e3⟩ := hcs j p hj
          exact ⟨u', e1, e2, e3.move hsame (fun bb oo _ h => hMM bb oo h) fun _ _ => ⟨rfl, rfl⟩⟩
    · rw [hφ] at h4; injection h4 with h4; subst h4
      refine ⟨fun y ob' hy h5 h6 => hy (hr.inj y r _ _ _ h5 hob1 h6 hφ), hown.1, by rw [setRow_size]; exact hown.2⟩
  refine hK _ _ g ?_
  rw [app_one]
  exact hrel.put (dB_spec hdb) (v := undef) (.tup (vs := []) (cs := []) rfl (by simp))

/-! #### slices of strings and lists -/
theorem op_sliceS {t : TypeId} {x : Operand} {lo hi : Option Operand} {l : Bytes} {i j : Nat} {rr : Option (Nat × Nat × Option Value)} {k k' : IntKind} (ho : o.op = .slice t x lo hi none) (hx : s.val x = .d (.str l)) (hkx : okOp x = true) (ht : tyF P t = (some .string, rr))
    (hlo : match lo with | some y => s.val y = .d (.int k i) ∧ okOp y = true | none => i = 0) (hhi : match hi with | some y => s.val y = .d (.int k' j) ∧ okOp y = true | none => j = l.length) (h1 : i ≤ j) (h2 : j ≤ l.length) :
    OpOK P ops o s ⟨o.dst, .d (.str ((l.drop i).take (j - i))), [], [], []⟩ :=
  op_val fun s1 hv _ E g a w hr => by
    have hx1 := vrel_str (eval_of hr hv (x := x) (by rw [ho]; simp [Op.operands]) hkx hx)
    refine ⟨.string ⟨((l.drop i).take (j - i)).toArray⟩, ?_, .d (.str _)⟩
    have hsz : (⟨l.toArray⟩ : ByteArray).size = l.length := ByteArray.size_mk_toArray l
    have hb1 : (0 : Int) ≤ (j : Int) ∧ (j : Int) ≤ ((l.length : Nat) : Int) := ⟨by omega, by omega⟩
    have hb2 : (0 : Int) ≤ (i : Int) ∧ (i : Int) ≤ ((j : Nat) : Int) := ⟨by omega, by omega⟩
    have key : (Instr.sliceAt t (.string ⟨l.toArray⟩) (lo.map a.eval) (hi.map a.eval) none).run P w = .ok (.string ⟨((l.drop i).take (j - i)).toArray⟩) w := by
      have hh : (Instr.sliceBounds false l.length l.length (lo.map a.eval) (hi.map a.eval) none).run P w = .ok (i, j, l.length) w := by
        have hhi' : (match hi.map a.eval with
          | some v => Instr.sliceBound v l.length .sliceAlen
          | none => (pure l.length : Sem Nat)).run P w = .ok j w := by
          cases hi with
          | none => simp only at hhi; subst hhi; rfl
          | some y =>
            have := vrel_int (eval_of hr hv (x := y) (by rw [ho]; cases lo <;> simp [Op.operands]) hhi.2 hhi.1)
            simp [this, Instr.sliceBound, asIntOf, hb1]
        have hlo' : (match lo.map a.eval with
          | some v => Instr.sliceBound v j .sliceB
          | none => (pure 0 : Sem Nat)).run P w = .ok i w := by
          cases lo with
          | none => simp only at hlo; subst hlo; rfl
          | some y =>
            have := vrel_int (eval_of hr hv (x := y) (by rw [ho]; cases hi <;> simp [Op.operands]) hlo.2 hlo.1)
            simp [this, Instr.sliceBound, asIntOf, hb2]
        cases hi <;> cases lo <;> simp [Instr.sliceBounds] at hhi' hlo' ⊢ <;> simp [hhi', hlo']
      simp only [Instr.sliceAt, Sem.run_bind, run_underlying (tyF_und ht rfl), Result.andThen_ok, Instr.slice, Option.isSome_none, Bool.false_eq_true, if_false, hsz, hh, Sem.run_pure, ByteArray.extract_mk]
    unfold execOp
    rw [ho]
    simp only [hx1, Option.map_none, key, Sem.run_bind, Result.andThen_ok, Sem.run_pure]
end
end Go.Pm

namespace Go.Pm

/-! ### Filling -/
theorem fold_size (off : Nat) : ∀ (l : List (Value × Nat)) (A : Array Value), (l.foldl (fun cs (e : Value × Nat) => cs.setIfInBounds (off + e.2) e.1) A).size = A.size
  | [], A => rfl
  | e :: l, A => by simp only [List.foldl_cons]; rw [fold_size off l]; simp
theorem fold_get (off : Nat) : ∀ (l : List Value) (k : Nat) (A : Array Value) (j : Nat), off + k + l.length ≤ A.size →
    ((l.zipIdx k).foldl (fun cs (e : Value × Nat) => cs.setIfInBounds (off + e.2) e.1) A)[j]? = if off + k ≤ j ∧ j < off + k + l.length then l[j - (off + k)]? else A[j]?
  | [], k, A, j, h => by simp only [List.zipIdx_nil, List.foldl_nil, List.length_nil, Nat.add_zero]; rw [if_neg (by omega)]
  | v :: l, k, A, j, h => by
    simp only [List.length_cons] at h
    simp only [List.zipIdx_cons, List.foldl_cons]
    rw [fold_get off l (k + 1) _ j (by simp; omega)]
    simp only [List.length_cons]
    by_cases h1 : j = off + k
    · subst h1
      rw [if_neg (by omega), if_pos (by omega), Array.getElem?_setIfInBounds]
      simp; omega
    · by_cases h2 : off + (k + 1) ≤ j ∧ j < off + (k + 1) + l.length
      · rw [if_pos h2, if_pos (by omega), show j - (off + k) = (j - (off + (k + 1))) + 1 from by omega, List.getElem?_cons_succ]
      · rw [if_neg h2, if_neg (by omega), Array.getElem?_setIfInBounds_ne (by omega)]

theorem fold_arr (off : Nat) (cs : Array Value) (A : Array Value) : cs.zipIdx.foldl (fun cs (c, j) => cs.setIfInBounds (off + j) c) A = (cs.toList.zipIdx 0).foldl (fun cs (e : Value × Nat) => cs.setIfInBounds (off + e.2) e.1) A := by
  rw [← Array.foldl_toList, Array.toList_zipIdx]

def enumV (k : Nat) : List Value → List (Nat × Value)
  | [] => []
  | v :: r => (k, v) :: enumV (k + 1) r

theorem fill_row (sz : Nat) : ∀ (vs : List Value) (k : Nat) (A : Array Value), (∀ v ∈ vs, v.cells.size = sz) → (k + vs.length) * sz ≤ A.size →
    ∃ B, Instr.fill (fun i => some (i * sz, sz)) A (enumV k vs) = some B ∧ B.size = A.size ∧ (∀ j, j < k * sz → B[j]? = A[j]?) ∧ ∀ (i : Nat) (v : Value), vs[i]? = some v → ∀ (r : Nat), r < sz → B[(k + i) * sz + r]? = v.cells[r]?
  | [], k, A, _, _ => ⟨A, rfl, rfl, fun _ _ => rfl, fun i v h => by simp at h⟩
  | v :: vs, k, A, hv, hA => by
    have hvs := hv v List.mem_cons_self
    have hA' : (k + 1 + vs.length) * sz ≤ A.size := by simpa [Nat.add_assoc, Nat.add_comm 1] using hA
    have hk1 : k * sz + sz ≤ A.size := by
      have : (k + 1) * sz ≤ (k + 1 + vs.length) * sz := Nat.mul_le_mul_right _ (by omega)
      rw [Nat.add_mul] at this; omega
    have hstep : Instr.fill (fun i => some (i * sz, sz)) A (enumV k (v :: vs)) = Instr.fill (fun i => some (i * sz, sz)) (v.cells.zipIdx.foldl (fun cs (c, j) => cs.setIfInBounds (k * sz + j) c) A) (enumV (k + 1) vs) := by
      conv => lhs; unfold enumV Instr.fill
      simp only [hvs]
      rw [if_neg (by simp; omega)]
    have hsize : (v.cells.zipIdx.foldl (fun cs (c, j) => cs.setIfInBounds (k * sz + j) c) A).size = A.size := by rw [fold_arr, fold_size]
    have hget : ∀ j, (v.cells.zipIdx.foldl (fun cs (c, j) => cs.setIfInBounds (k * sz + j) c) A)[j]? = if k * sz ≤ j ∧ j < k * sz + sz then v.cells[j - k * sz]? else A[j]? := by
      intro j
      rw [fold_arr, fold_get (k * sz) v.cells.toList 0 A j (by simp [hvs]; exact hk1)]
      simp [hvs]
    obtain ⟨B, h1, h2, h3, h4⟩ := fill_row sz vs (k + 1) _ (fun u hu => hv u (List.mem_cons_of_mem _ hu)) (by rw [hsize]; exact hA')
    refine ⟨B, by rw [hstep]; exact h1, by rw [h2, hsize], fun j hj => ?_, fun i u hi r hr => ?_⟩
    · rw [h3 j (by rw [Nat.add_mul]; omega), hget, if_neg (by omega)]
    · cases i with
      | zero =>
        simp at hi; subst hi
        rw [Nat.add_zero, h3 _ (by rw [Nat.add_mul]; omega), hget, if_pos (by omega), show k * sz + r - k * sz = r from by omega]
      | succ i =>
        have := h4 i u (by simpa using hi) r hr
        rw [show k + (i + 1) = k + 1 + i from by omega]; exact this

/-! ### Rows of data -/
theorem den_cells {M : Nat → Nat → Prop} {w : World} {d : D} {v : Value} (h : Den M w d v) : v.cells.size = d.cells.length ∧ (∀ u ∈ v.cells.toList, u.oneCell' = true) ∧ (∀ x ∈ d.cells, x.one = true) ∧ ∀ (j : Nat) (x : D), d.cells[j]? = some x → ∃ u, v.cells[j]? = some u ∧ Den M w x u := by
  have one : ∀ {d : D} {v : Value}, Den M w d v → d.one = true → v.cells = #[v] → d.cells = [d] → v.cells.size = d.cells.length ∧ (∀ u ∈ v.cells.toList, u.oneCell' = true) ∧ (∀ x ∈ d.cells, x.one = true) ∧ ∀ (j : Nat) (x : D), d.cells[j]? = some x → ∃ u, v.cells[j]? = some u ∧ Den M w x u := by
    intro d v h ho hc hd
    rw [hc, hd]
    refine ⟨rfl, fun u hu => ?_, fun x hx => ?_, fun j x hj => ?_⟩
    · have : u = v := by simpa using hu
      rw [this]; exact h.one ho
    · rw [List.mem_singleton.1 hx]; exact ho
    · cases j with
      | zero => simp at hj; subst hj; exact ⟨v, by simp, h⟩
      | succ j => simp at hj
  have h0 := h
  cases h with
  | agg cs vs hl hone hh =>
    refine ⟨by simp [Value.cells, D.cells, hl], fun u hu => ?_, hone, fun j x hj => ?_⟩
    · have hu' : u ∈ vs := by simpa [Value.cells] using hu
      obtain ⟨j, hj⟩ := List.mem_iff_getElem?.1 hu'
      have hjl : j < cs.length := by have := (List.getElem?_eq_some_iff.1 hj).1; omega
      have hc := List.getElem?_eq_getElem hjl
      exact (hh j _ hc u hj).one (hone _ (List.getElem_mem hjl))
    · have hjl : j < vs.length := by have := (List.getElem?_eq_some_iff.1 hj).1; simp [D.cells] at this; omega
      have hv := List.getElem?_eq_getElem hjl
      exact ⟨_, by simp [Value.cells, hjl], hh j x hj _ hv⟩
  | _ => exact one h0 rfl rfl rfl

/-- A row of cells that a list's elements fill. -/
structure RowOf (M : Nat → Nat → Prop) (w : World) (sz : Nat) (ds : List D) (cs : List Value) : Prop where
  len : cs.length = ds.length * sz
  one : ∀ u ∈ cs, u.oneCell' = true
  dsz : ∀ d ∈ ds, d.cells.length = sz
  done : ∀ d ∈ ds, ∀ x ∈ d.cells, x.one = true
  den : ∀ (i : Nat) (d : D), ds[i]? = some d → ∀ (j : Nat) (x : D), d.cells[j]? = some x → ∃ u, cs[i * sz + j]? = some u ∧ Den M w x u

theorem row_den {M : Nat → Nat → Prop} {w : World} {sz : Nat} {ds : List D} {cs : List Value} (h : RowOf M w sz ds cs) {b o c : Nat} (hc : ds.length ≤ c) (hw : ∀ (j : Nat) (u : Value), cs[j]? = some u → w.cell? ⟨b, o + j, none⟩ = some u ∧ ¬ M b (o + j)) :
    Den M w (.list ds) (.slice (some ⟨b, o, none⟩) ds.length c) := by
  refine .list ds b o c sz (fun i j => cs.getD (i * sz + j) undef) hc h.dsz h.done (fun i d hi j x hj => ?_) (fun i j hi hj => ?_)
  · obtain ⟨u, h1, h2⟩ := h.den i d hi j x hj
    simp only [List.getD_eq_getElem?_getD, h1, Option.getD_some]; exact h2
  · have hlt : i * sz + j < cs.length := by
      rw [h.len]
      have : (i + 1) * sz ≤ ds.length * sz := Nat.mul_le_mul_right _ hi
      rw [Nat.add_mul] at this; omega
    have := hw _ _ (List.getElem?_eq_getElem hlt)
    rw [← Nat.add_assoc] at this
    simp only [List.getD_eq_getElem?_getD, List.getElem?_eq_getElem hlt, Option.getD_some]
    exact this

theorem den_row {M : Nat → Nat → Prop} {w : World} {sz : Nat} {ds : List D} {v : Value} (h : Den M w (.list ds) v) (hsz : ∀ d ∈ ds, d.cells.length = sz) :
    ∃ a c cs, v = .slice a ds.length c ∧ ds.length ≤ c ∧ RowOf M w sz ds cs ∧ (a = none → ds.length = 0) ∧ ∀ ad, a = some ad → ∀ (j : Nat) (u : Value), cs[j]? = some u → w.cell? (ad.add j) = some u ∧ (0 < cs.length → ad.spot = none ∧ ¬ M ad.block (ad.off + j)) := by
  cases h with
  | nil => exact ⟨none, 0, [], rfl, Nat.le_refl _, ⟨by simp, by simp, by simp, by simp, by simp⟩, fun _ => rfl, fun ad h => by cases h⟩
  | empty a c => exact ⟨some a, c, [], rfl, Nat.zero_le _, ⟨by simp, by simp, by simp, by simp, by simp⟩, fun h => (by cases h), fun ad h j u hj => by simp at hj⟩
  | list ds b o c sz' cell hc hsz' hone hh hw =>
    rcases Nat.eq_zero_or_pos ds.length with h0 | h0
    · have : ds = [] := List.eq_nil_of_length_eq_zero h0
      subst this
      exact ⟨_, c, [], rfl, hc, ⟨by simp, by simp, by simp, by simp, by simp⟩, fun h => (by cases h), fun ad h j u hj => by simp at hj⟩
    · have hszeq : sz' = sz := by
        have hm : ds[0]'h0 ∈ ds := List.getElem_mem h0
        rw [← hsz' _ hm, hsz _ hm]
      subst hszeq
      have hdm : ∀ j, j < ds.length * sz' → j / sz' < ds.length ∧ j % sz' < sz' ∧ j = j / sz' * sz' + j % sz' := by
        intro j hj
        have hp : 0 < sz' := by rcases Nat.eq_zero_or_pos sz' with h | h; · subst h; omega
                                · exact h
        exact ⟨by rw [Nat.div_lt_iff_lt_mul hp]; exact hj, Nat.mod_lt _ hp, by rw [Nat.mul_comm]; exact (Nat.div_add_mod j sz').symm⟩
      refine ⟨_, c, (List.range (ds.length * sz')).map fun j => cell (j / sz') (j % sz'), rfl, hc, ⟨by simp, fun u hu => ?_, hsz', hone, fun i d hi j x hj => ?_⟩, fun h => (by cases h), fun ad he j u hj => ?_⟩
      · obtain ⟨j, hj, rfl⟩ := List.mem_map.1 hu
        obtain ⟨h1, h2, _⟩ := hdm j (List.mem_range.1 hj)
        have hd := List.getElem?_eq_getElem h1
        have hm := List.getElem_mem h1
        have hx := List.getElem?_eq_getElem (l := (ds[j / sz']'h1).cells) (i := j % sz') (by rw [hsz' _ hm]; exact h2)
        exact (hh _ _ hd _ _ hx).one (hone _ hm _ (List.getElem_mem _))
      · have hil := (List.getElem?_eq_some_iff.1 hi).1
        have hm := List.mem_of_getElem? hi
        have hjl : j < sz' := by rw [← hsz' d hm]; exact (List.getElem?_eq_some_iff.1 hj).1
        have hlt : i * sz' + j < ds.length * sz' := by
          have : (i + 1) * sz' ≤ ds.length * sz' := Nat.mul_le_mul_right _ hil
          rw [Nat.add_mul] at this; omega
        refine ⟨cell i j, ?_, hh i d hi j x hj⟩
        have e1 : (i * sz' + j) / sz' = i := by
          rw [Nat.mul_comm, Nat.mul_add_div (by omega), Nat.div_eq_of_lt hjl, Nat.add_zero]
        have e2 : (i * sz' + j) % sz' = j := by
          rw [Nat.mul_comm, Nat.mul_add_mod, Nat.mod_eq_of_lt hjl]
        simp [hlt, e1, e2]
      · injection he with he; subst he
        have hjl : j < ds.length * sz' := by have := (List.getElem?_eq_some_iff.1 hj).1; simpa using this
        obtain ⟨h1, h2, h3⟩ := hdm j hjl
        have := hw _ _ h1 h2
        have hu : u = cell (j / sz') (j % sz') := by simp [hjl] at hj; exact hj.symm
        rw [add_none, hu]
        rw [Nat.add_assoc, ← h3] at this
        exact ⟨this.1, fun _ => ⟨rfl, this.2⟩⟩

def toDl : List PV → Option (List D)
  | [] => some []
  | p :: r => match toD p, toDl r with
    | some x, some xs => some (x :: xs)
    | _, _ => none
theorem toDl_spec : ∀ {ps : List PV} {xs : List D}, toDl ps = some xs → xs.length = ps.length ∧ ∀ (j : Nat) (p : PV), ps[j]? = some p → ∃ x, xs[j]? = some x ∧ toD p = some x
  | [], xs, h => by simp only [toDl] at h; injection h with h; subst h; exact ⟨rfl, by simp⟩
  | p :: r, xs, h => by
    simp only [toDl] at h
    split at h
    · rename_i x xs' h1 h2
      injection h with h; subst h
      obtain ⟨i1, i3⟩ := toDl_spec h2
      refine ⟨by simp [i1], fun j q hj => ?_⟩
      cases j with
      | zero => simp at hj; subst hj; exact ⟨x, by simp, h1⟩
      | succ j => obtain ⟨y, hy1, hy2⟩ := i3 j q (by simpa using hj); exact ⟨y, by simpa using hy1, hy2⟩
    · cases h

def enumO (k : Nat) : List Operand → List (Nat × Operand)
  | [] => []
  | v :: r => (k, v) :: enumO (k + 1) r
theorem enumO_map (f : Operand → Value) : ∀ (xs : List Operand) (k : Nat), (enumO k xs).map (fun (i, x) => (i, f x)) = enumV k (xs.map f)
  | [], _ => rfl
  | x :: xs, k => by simp only [enumO, List.map_cons, enumV, enumO_map f xs]

section
variable {P : Program} {ops : Array Oper} {o : Oper} {s : St}

theorem op_buildSlice {t e : TypeId} {n : Nat} {parts : Array (Nat × Operand)} {xs : List Operand} {ps : List PV} {ds : List D} {rr : Option (Nat × Nat × Option Value)} {u : Option TK} {sz bs : Nat} {zv : Value}
    (ho : o.op = .buildSlice t n parts) (hp : parts.toList = enumO 0 xs) (hn : xs.length = n) (hxs : xs.map s.val = ps) (hds : toDl ps = some ds) (hk : xs.all okOp = true) (ht : tyF P t = (some (.slice e), rr)) (he : tyF P e = (u, some (sz, bs, some zv)))
    (hsz : ds.all (fun d => d.cells.length == sz) = true) (hbig : n * sz ≤ 16777216) : OpOK P ops o s ⟨o.dst, .tl ds none, [], [], []⟩ := by
  intro s1 ha hf hn' hdb E g a w hr K Qx hK
  have hag : ∀ x ∈ o.op.operands, s1.val x = s.val x := fun x hx => val_agree ha hx
  have hmem : ∀ x ∈ xs, x ∈ o.op.operands := by
    intro x hx
    rw [ho]
    simp only [Op.operands]
    have : ∀ (l : List Operand) (k : Nat), x ∈ l → ∃ i, (i, x) ∈ enumO k l := by
      intro l
      induction l with
      | nil => intro k h; cases h
      | cons y l ih =>
        intro k h
        rcases List.mem_cons.1 h with rfl | h
        · exact ⟨k, List.mem_cons_self⟩
        · obtain ⟨i, hi⟩ := ih (k + 1) h; exact ⟨i, List.mem_cons_of_mem _ hi⟩
    obtain ⟨i, hi⟩ := this xs 0 hx
    rw [hp]
    simp only [List.mem_toArray, List.mem_map]
    exact ⟨(i, x), hi, rfl⟩
  obtain ⟨hdl, hdx⟩ := toDl_spec hds
  have hpl : ps.length = n := by rw [← hxs]; simp [hn]
  have hden : ∀ (i : Nat) (d : D), ds[i]? = some d → ∃ x, xs[i]? = some x ∧ Den (MM E g s1) w d (a.eval x) := by
    intro i d hi
    have hil : i < xs.length := by have := (List.getElem?_eq_some_iff.1 hi).1; omega
    have hx := List.getElem?_eq_getElem hil
    have hpi : ps[i]? = some (s.val xs[i]) := by rw [← hxs, List.getElem?_map, hx]; rfl
    obtain ⟨y, hy1, hy2⟩ := hdx i _ hpi
    rw [hi] at hy1; injection hy1 with hy1; subst hy1
    exact ⟨_, hx, toD_den hy2 (eval_of hr hag (hmem _ (List.getElem_mem hil)) (List.all_eq_true.1 hk _ (List.getElem_mem hil)) rfl)⟩
  have hdsz : ∀ d ∈ ds, d.cells.length = sz := fun d hd => by simpa using List.all_eq_true.1 hsz d hd
  have hvsz : ∀ v ∈ xs.map a.eval, v.cells.size = sz := by
    intro v hv
    obtain ⟨x, hx, rfl⟩ := List.mem_map.1 hv
    obtain ⟨i, hi⟩ := List.mem_iff_getElem?.1 hx
    have hil : i < ds.length := by have := (List.getElem?_eq_some_iff.1 hi).1; omega
    obtain ⟨x', hx', hd⟩ := hden i _ (List.getElem?_eq_getElem hil)
    rw [hi] at hx'; injection hx' with hx'; subst hx'
    rw [(den_cells hd).1, hdsz _ (List.getElem_mem hil)]
  generalize hzero : (if n * sz = 0 then #[] else zv.cells : Array Value) = zero
  obtain ⟨B, hB1, hB2, _, hB4⟩ := fill_row sz (xs.map a.eval) 0 ((Array.range (n * sz)).map (zero[· % zero.size]!)) hvsz (by simp [hn])
  have hparts : (parts.map fun (i, x) => (i, a.eval x)).toList = enumV 0 (xs.map a.eval) := by
    rw [Array.toList_map, hp]; exact enumO_map a.eval xs 0
  have hrun : (execOp a.eval o).run P w = .ok (.value (.slice (some ⟨w.heap.size, 0, none⟩) n n)) (w.alloc (.cells B e)) := by
    have key : (Instr.buildSlice t n (parts.map fun (i, x) => (i, a.eval x))).run P w = .ok (.slice (some ⟨w.heap.size, 0, none⟩) n n) (w.alloc (.cells B e)) := by
      unfold Instr.buildSlice
      simp only [Sem.run_bind, run_underlying (tyF_und ht rfl), Result.andThen_ok, run_sizeOf' he]
      rw [if_neg (by show ¬ n * sz > 2 ^ 24; omega)]
      have hB1' := hB1
      rw [← hparts] at hB1'
      by_cases h0 : n * sz = 0
      · rw [if_pos h0] at hzero; subst hzero
        rw [if_pos h0]
        simp only [Sem.run_bind, Sem.run_pure, Result.andThen_ok]
        rw [hB1']
        simp only [Sem.run_bind, newRow, run_newObj, Sem.run_pure, Result.andThen_ok]
        rfl
      · rw [if_neg h0] at hzero; subst hzero
        rw [if_neg h0]
        simp only [Sem.run_bind, Sem.run_pure, Result.andThen_ok, run_zero' he]
        rw [hB1']
        simp only [Sem.run_bind, newRow, run_newObj, Sem.run_pure, Result.andThen_ok]
        rfl
    unfold execOp
    rw [ho]
    simp only [key, Sem.run_bind, Result.andThen_ok, Sem.run_pure]
  unfold Oper.wp
  rw [hrun]
  have hra := hr.alloc_data (.cells B e)
  refine hK _ _ g ?_
  rw [app_nil]
  refine hra.put (dB_spec hdb) ?_
  have hdn : ds.length = n := by omega
  have hrow : RowOf (MM E g s1) (w.alloc (.cells B e)) sz ds B.toList := by
    refine ⟨by simp [hB2, hdn], fun u hu => ?_, hdsz, fun d hd => ?_, fun i d hi j x hj => ?_⟩
    · obtain ⟨q, hq⟩ := List.mem_iff_getElem?.1 hu
      have hql : q < n * sz := by have := (List.getElem?_eq_some_iff.1 hq).1; simpa [hB2] using this
      have hp0 : 0 < sz := by rcases Nat.eq_zero_or_pos sz with h | h; · subst h; simp at hql
                              · exact h
      have h1 : q / sz < ds.length := by rw [Nat.div_lt_iff_lt_mul hp0, hdn]; exact hql
      have h2 := Nat.mod_lt q hp0
      obtain ⟨x', hx', hd⟩ := hden _ _ (List.getElem?_eq_getElem h1)
      obtain ⟨c1, c2, _, _⟩ := den_cells hd
      have := hB4 (q / sz) (a.eval x') (by rw [List.getElem?_map, hx']; rfl) (q % sz) h2
      rw [Nat.zero_add, Nat.mul_comm, Nat.div_add_mod] at this
      have hu' : B[q]? = some u := by simpa using hq
      rw [this] at hu'
      exact c2 u (List.mem_of_getElem? (by simpa using hu'))
    · obtain ⟨i, hi⟩ := List.mem_iff_getElem?.1 hd
      obtain ⟨x', _, hd'⟩ := hden i d hi
      exact (den_cells hd').2.2.1
    · obtain ⟨x', hx', hd⟩ := hden i d hi
      obtain ⟨_, _, _, c4⟩ := den_cells hd
      obtain ⟨u', e1, e2⟩ := c4 j x hj
      have hjl : j < sz := by rw [← hdsz d (List.mem_of_getElem? hi)]; exact (List.getElem?_eq_some_iff.1 hj).1
      refine ⟨u', ?_, e2.mono (Same.alloc _ _ _) (fun _ _ _ h => h)⟩
      have := hB4 i (a.eval x') (by rw [List.getElem?_map, hx']; rfl) j hjl
      rw [Nat.zero_add] at this
      simpa [this] using e1
  have := row_den hrow (b := w.heap.size) (o := 0) (c := n) (by omega) (fun j u' hj => by
    rw [Nat.zero_add]
    refine ⟨?_, fun hm => ?_⟩
    · simpa using hj
    · exact absurd (hr.mm_lt hm) (Nat.lt_irrefl _))
  rw [hdn] at this
  exact .full this
end
end Go.Pm

namespace Go.Pm

/-- An object falls away (or none), a new one comes. -/
theorem Rel.swap {E : Env} {g : Gh} {s s' : St} {a : Act} {w w' : World} (h : Rel E g s a w) (x d : Nat) (hd : Fresh s d) (hd6 : d < 1000000) (bo : Option Nat) (vo : Option Value) (hn : s'.n = s.n) (hslots : s'.slots = s.slots)
    (hob : ∀ y, y ≠ x → y ≠ d → s'.ob y = s.ob y) (hx : x ≠ d → s'.ob x = none)
    (hM : ∀ b o, (w.cell? ⟨b, o, none⟩).isSome = true → MM E (g.put d bo vo) s' b o → MM E g s b o) (hsame : Same (MM E g s) w w')
    (hblk : ∀ y ob b, y ≠ x → y ≠ d → s.ob y = some ob → g.φ y = some b → w'.heap[b]? = w.heap[b]?)
    (hdx : ∀ ob, s'.ob d = some ob → ORel (g.put d bo vo) (MM E (g.put d bo vo) s') w' d ob)
    (hdb : ∀ b, bo = some b → (∀ y ob', y ≠ x → s.ob y = some ob' → g.φ y ≠ some b) ∧ (E.B ≤ b ∨ E.imp b) ∧ b < w'.heap.size)
    (hfr : Frm E w') (hsz : w.heap.size ≤ w'.heap.size) : Rel E (g.put d bo vo) s' a w' := by
  have hput : ∀ y, y ≠ d → (g.put d bo vo).φ y = g.φ y ∧ (g.put d bo vo).τ y = g.τ y := fun y hy => by simp [Gh.put, hy]
  have hgp : ∀ (p : PV), p.has d = false → ∀ y, p.has y = true → (g.put d bo vo).φ y = g.φ y ∧ (g.put d bo vo).τ y = g.τ y := fun p hp y hy =>
    hput y (by rintro rfl; rw [hp] at hy; cases hy)
  have hsl : ∀ i, s'.sl i = s.sl i := fun i => by unfold St.sl; rw [hslots]
  have hob' : ∀ y ob, y ≠ d → s'.ob y = some ob → y ≠ x ∧ s.ob y = some ob := by
    intro y ob hyd hy
    have hyx : y ≠ x := by rintro rfl; rw [hx hyd] at hy; cases hy
    exact ⟨hyx, by rw [← hob y hyx hyd]; exact hy⟩
  refine ⟨by rw [hn]; exact h.size, h.defers, fun i p hi => ?_, fun y ob hy => ?_, fun y z ob ob' b h1 h2 h3 h4 => ?_, fun y ob b h1 h2 => ?_, hfr, h.av, fun y hy => ?_⟩
  · rw [hsl] at hi
    obtain ⟨v, h1, h2⟩ := h.slots i p hi
    exact ⟨v, h1, h2.move hsame hM (hgp p (hd.slots i p hi))⟩
  · by_cases hyd : y = d
    · subst hyd; exact hdx ob hy
    · obtain ⟨hyx, hy'⟩ := hob' y ob hyd hy
      refine (h.objs y ob hy').move hsame hM (fun z hz => hput z ?_) (hput y hyd) (fun b hb => hblk y ob b hyx hyd hy' hb)
      rintro rfl
      rw [hd.objs y ob hy'] at hz; cases hz
  · by_cases hyd : y = d <;> by_cases hzd : z = d
    · rw [hyd, hzd]
    · subst hyd
      obtain ⟨hzx, hz'⟩ := hob' z ob' hzd h2
      rw [(hput z hzd).1] at h4
      have hb : bo = some b := by simpa [Gh.put] using h3
      exact absurd h4 ((hdb b hb).1 z ob' hzx hz')
    · subst hzd
      obtain ⟨hyx, hy'⟩ := hob' y ob hyd h1
      rw [(hput y hyd).1] at h3
      have hb : bo = some b := by simpa [Gh.put] using h4
      exact absurd h3 ((hdb b hb).1 y ob hyx hy')
    · obtain ⟨_, hy'⟩ := hob' y ob hyd h1
      obtain ⟨_, hz'⟩ := hob' z ob' hzd h2
      rw [(hput y hyd).1] at h3
      rw [(hput z hzd).1] at h4
      exact h.inj y z ob ob' b hy' hz' h3 h4
  · by_cases hyd : y = d
    · subst hyd
      have hb : bo = some b := by simpa [Gh.put] using h2
      exact ⟨(hdb b hb).2.1, (hdb b hb).2.2⟩
    · obtain ⟨_, hy'⟩ := hob' y ob hyd h1
      rw [(hput y hyd).1] at h2
      have := h.own y ob b hy' h2
      exact ⟨this.1, by omega⟩
  · rw [(hput y (by omega)).1, (hput y (by omega)).2]; exact h.keep y hy

theorem den_slice {M : Nat → Nat → Prop} {w : World} {ds : List D} {a : Option Addr} {n c sz : Nat} (h : Den M w (.list ds) (.slice a n c)) (hsz : ∀ d ∈ ds, d.cells.length = sz) {i j m : Nat} (h1 : i ≤ j) (h2 : j ≤ ds.length) (h3 : j ≤ m) (h4 : m ≤ c) :
    Den M w (.list ((ds.drop i).take (j - i))) (.slice (if m = i then a else a.map (·.add (i * sz))) (j - i) (m - i)) := by
  have hnil : ∀ (hij : j = i), (ds.drop i).take (j - i) = [] := fun hij => by simp [hij]
  have hemp : ∀ (ad : Addr) (hij : j = i), Den M w (.list ((ds.drop i).take (j - i))) (.slice (if m = i then some ad else (some ad).map (·.add (i * sz))) (j - i) (m - i)) := by
    intro ad hij
    rw [hnil hij, show j - i = 0 from by omega]
    split
    · exact .empty _ _
    · exact .empty _ _
  cases h with
  | nil =>
    simp only [List.length_nil] at h2
    have : j = 0 := by omega
    have : i = 0 := by omega
    have : m = 0 := by omega
    subst_vars
    exact .nil
  | empty ad c =>
    simp only [List.length_nil] at h2
    exact hemp ad (by omega)
  | list ds b o c sz' cell hc hsz' hone hh hw =>
    by_cases hij : j = i
    · exact hemp _ hij
    · have hmi : ¬ m = i := by omega
      have hpos : 0 < ds.length := by omega
      have hszeq : sz' = sz := by
        have hm : ds[0]'hpos ∈ ds := List.getElem_mem hpos
        rw [← hsz' _ hm, hsz _ hm]
      subst hszeq
      rw [if_neg hmi]
      simp only [Option.map_some, add_none]
      have hlen : ((ds.drop i).take (j - i)).length = j - i := by simp; omega
      have hsub : ∀ d ∈ (ds.drop i).take (j - i), d ∈ ds := fun d hd => List.mem_of_mem_drop (List.mem_of_mem_take hd)
      have := Den.list (M := M) (w := w) ((ds.drop i).take (j - i)) b (o + i * sz') (m - i) sz' (fun i' j' => cell (i + i') j') (by rw [hlen]; omega) (fun d hd => hsz' d (hsub d hd)) (fun d hd => hone d (hsub d hd))
        (fun k d hk q x hq => by
          have hkl : k < j - i := by have := (List.getElem?_eq_some_iff.1 hk).1; omega
          rw [List.getElem?_take, if_pos hkl, List.getElem?_drop] at hk
          exact hh _ _ hk _ _ hq)
        (fun k q hk hq => by
          rw [hlen] at hk
          have := hw (i + k) q (by omega) hq
          rw [Nat.add_mul, ← Nat.add_assoc] at this
          exact this)
      rw [hlen] at this
      exact this

theorem run_bounds {l c : Nat} {lo hi mx : Option Value} {i j m : Nat} {w : World} {P : Program}
    (hm : match mx with | some v => ∃ k, v = .int k (m : Int) | none => m = c) (hj : match hi with | some v => ∃ k, v = .int k (j : Int) | none => j = l ∧ mx = none) (hi' : match lo with | some v => ∃ k, v = .int k (i : Int) | none => i = 0)
    (h1 : i ≤ j) (h2 : j ≤ m) (h3 : m ≤ c) : (Instr.sliceBounds true l c lo hi mx).run P w = .ok (i, j, m) w := by
  have hb1 : (0 : Int) ≤ (j : Int) ∧ (j : Int) ≤ ((m : Nat) : Int) := ⟨by omega, by omega⟩
  have hb2 : (0 : Int) ≤ (i : Int) ∧ (i : Int) ≤ ((j : Nat) : Int) := ⟨by omega, by omega⟩
  have hb3 : (0 : Int) ≤ (m : Int) ∧ (m : Int) ≤ ((c : Nat) : Int) := ⟨by omega, by omega⟩
  cases mx with
  | none =>
    simp only at hm; subst hm
    cases hi with
    | none =>
      simp only at hj; obtain ⟨rfl, _⟩ := hj
      cases lo with
      | none => simp only at hi'; subst hi'; simp [Instr.sliceBounds]
      | some v => obtain ⟨k, rfl⟩ := hi'; simp [Instr.sliceBounds, Instr.sliceBound, asIntOf, hb2, h1]
    | some v =>
      obtain ⟨k, rfl⟩ := hj
      cases lo with
      | none => simp only at hi'; subst hi'; simp [Instr.sliceBounds, Instr.sliceBound, asIntOf, hb1, h2]
      | some v => obtain ⟨k', rfl⟩ := hi'; simp [Instr.sliceBounds, Instr.sliceBound, asIntOf, hb1, hb2, h1, h2]
  | some u =>
    obtain ⟨k0, rfl⟩ := hm
    cases hi with
    | none => simp at hj
    | some v =>
      obtain ⟨k, rfl⟩ := hj
      cases lo with
      | none => simp only at hi'; subst hi'; simp [Instr.sliceBounds, Instr.sliceBound, asIntOf, hb1, hb3, h2, h3]
      | some v => obtain ⟨k', rfl⟩ := hi'; simp [Instr.sliceBounds, Instr.sliceBound, asIntOf, hb1, hb2, hb3, h1, h2, h3]

section
variable {P : Program} {ops : Array Oper} {o : Oper} {s : St}

/-- An operand reads as a number. -/
def isN (s : St) (x : Option Operand) (n d : Nat) : Prop := match x with
  | some y => (∃ k, s.val y = .d (.int k (n : Int))) ∧ okOp y = true
  | none => n = d
theorem isN_none {s : St} {n : Nat} : isN s none n n := rfl

theorem run_sliceL {t e : TypeId} {x : Operand} {lo hi mx : Option Operand} {i j m : Nat} {rr : Option (Nat × Nat × Option Value)} {u : Option TK} {sz bs : Nat} {zv : Option Value} {E : Env} {g : Gh} {s1 : St} {a : Act} {w : World} {b : Option Addr} {n c : Nat}
    (hr : Rel E g s1 a w) (hv : ∀ x ∈ o.op.operands, s1.val x = s.val x) (ho : o.op = .slice t x lo hi mx) (hx1 : a.eval x = .slice b n c) (ht : tyF P t = (some (.slice e), rr)) (he : tyF P e = (u, some (sz, bs, zv)))
    (hlo : isN s lo i 0) (hhi : isN s hi j n) (hmx : isN s mx m c) (hhm : hi = none → mx = none) (h1 : i ≤ j) (h2 : j ≤ m) (h3 : m ≤ c) :
    (execOp a.eval o).run P w = .ok (.value (.slice (if m = i then b else b.map (·.add (i * sz))) (j - i) (m - i))) w := by
  have hN : ∀ (y : Operand) (q d : Nat), y ∈ o.op.operands → isN s (some y) q d → ∃ k, a.eval y = .int k (q : Int) := by
    intro y q d hy h
    obtain ⟨⟨k, h⟩, hk⟩ := h
    exact ⟨k, vrel_int (eval_of hr hv hy hk h)⟩
  have hb := run_bounds (P := P) (w := w) (l := n) (c := c) (lo := lo.map a.eval) (hi := hi.map a.eval) (mx := mx.map a.eval) (i := i) (j := j) (m := m)
    (by cases mx with
        | none => exact hmx
        | some y => exact hN y m c (by rw [ho]; cases lo <;> cases hi <;> simp [Op.operands]) hmx)
    (by cases hi with
        | none => exact ⟨hhi, by rw [hhm rfl]; rfl⟩
        | some y => exact hN y j n (by rw [ho]; cases lo <;> cases mx <;> simp [Op.operands]) hhi)
    (by cases lo with
        | none => exact hlo
        | some y => exact hN y i 0 (by rw [ho]; cases hi <;> cases mx <;> simp [Op.operands]) hlo) h1 h2 h3
  unfold execOp
  rw [ho]
  simp only [hx1, Instr.sliceAt, Sem.run_bind, run_underlying (tyF_und ht rfl), Result.andThen_ok, Instr.slice, hb, run_sizeOf' he, Sem.run_pure]

/-- A part of a list, as data. -/
theorem op_sliceL {t e : TypeId} {x : Operand} {lo hi : Option Operand} {ds : List D} {i j : Nat} {rr : Option (Nat × Nat × Option Value)} {u : Option TK} {sz bs : Nat} {zv : Option Value} (ho : o.op = .slice t x lo hi none) (hx : toD (s.val x) = some (.list ds)) (hkx : okOp x = true)
    (ht : tyF P t = (some (.slice e), rr)) (he : tyF P e = (u, some (sz, bs, zv))) (hsz : ∀ d ∈ ds, d.cells.length = sz) (hlo : isN s lo i 0) (hhi : isN s hi j ds.length) (h1 : i ≤ j) (h2 : j ≤ ds.length) :
    OpOK P ops o s ⟨o.dst, .d (.list ((ds.drop i).take (j - i))), [], [], []⟩ :=
  op_val fun s1 hv _ E g a w hr => by
    have hx1 := toD_den hx (eval_of hr hv (x := x) (by rw [ho]; simp [Op.operands]) hkx rfl)
    obtain ⟨b, c, _, hval, hc, _⟩ := den_row hx1 hsz
    rw [hval] at hx1
    exact ⟨_, run_sliceL hr hv ho hval ht he hlo hhi isN_none (fun _ => rfl) h1 (Nat.le_trans h2 hc) (Nat.le_refl _), .d (den_slice hx1 hsz h1 h2 (Nat.le_trans h2 hc) (Nat.le_refl _))⟩

/-- A part of a list without room behind it. -/
theorem op_slice3 {t e : TypeId} {x : Operand} {lo : Option Operand} {hi mx : Operand} {ds : List D} {i j : Nat} {rr : Option (Nat × Nat × Option Value)} {u : Option TK} {sz bs : Nat} {zv : Option Value} (ho : o.op = .slice t x lo (some hi) (some mx)) (hx : toD (s.val x) = some (.list ds)) (hkx : okOp x = true)
    (ht : tyF P t = (some (.slice e), rr)) (he : tyF P e = (u, some (sz, bs, zv))) (hsz : ∀ d ∈ ds, d.cells.length = sz) (hlo : isN s lo i 0) (hhi : isN s (some hi) j 0) (hmx : isN s (some mx) j 0) (h1 : i ≤ j) (h2 : j ≤ ds.length) :
    OpOK P ops o s ⟨o.dst, .tl ((ds.drop i).take (j - i)) none, [], [], []⟩ :=
  op_val fun s1 hv _ E g a w hr => by
    have hx1 := toD_den hx (eval_of hr hv (x := x) (by rw [ho]; simp [Op.operands]) hkx rfl)
    obtain ⟨b, c, _, hval, hc, _⟩ := den_row hx1 hsz
    rw [hval] at hx1
    exact ⟨_, run_sliceL hr hv ho hval ht he hlo hhi hmx (fun h => (by cases h)) h1 (Nat.le_refl _) (Nat.le_trans h2 hc), .full (den_slice hx1 hsz h1 h2 (Nat.le_refl _) (Nat.le_trans h2 hc))⟩
end
end Go.Pm

namespace Go.Pm

theorem RowOf.mono {M M' : Nat → Nat → Prop} {w w' : World} {sz : Nat} {ds : List D} {cs : List Value} (h : RowOf M w sz ds cs) (hs : Same M w w') (hm : ∀ b o, (w.cell? ⟨b, o, none⟩).isSome = true → M' b o → M b o) : RowOf M' w' sz ds cs :=
  ⟨h.len, h.one, h.dsz, h.done, fun i d hi j x hj => by obtain ⟨u, h1, h2⟩ := h.den i d hi j x hj; exact ⟨u, h1, h2.mono hs hm⟩⟩

theorem RowOf.append {M : Nat → Nat → Prop} {w : World} {sz : Nat} {ds ys : List D} {cs us : List Value} (h : RowOf M w sz ds cs) (k : RowOf M w sz ys us) : RowOf M w sz (ds ++ ys) (cs ++ us) := by
  refine ⟨by simp [h.len, k.len, Nat.add_mul], fun u hu => ?_, fun d hd => ?_, fun d hd => ?_, fun i d hi j x hj => ?_⟩
  · rcases List.mem_append.1 hu with hu | hu
    · exact h.one u hu
    · exact k.one u hu
  · rcases List.mem_append.1 hd with hd | hd
    · exact h.dsz d hd
    · exact k.dsz d hd
  · rcases List.mem_append.1 hd with hd | hd
    · exact h.done d hd
    · exact k.done d hd
  · by_cases hil : i < ds.length
    · rw [List.getElem?_append_left hil] at hi
      obtain ⟨u, h1, h2⟩ := h.den i d hi j x hj
      exact ⟨u, by rw [List.getElem?_append_left (List.getElem?_eq_some_iff.1 h1).1]; exact h1, h2⟩
    · rw [List.getElem?_append_right (by omega)] at hi
      obtain ⟨u, h1, h2⟩ := k.den _ d hi j x hj
      have hge : ds.length * sz ≤ i * sz := Nat.mul_le_mul_right _ (by omega)
      refine ⟨u, ?_, h2⟩
      rw [List.getElem?_append_right (by rw [h.len]; omega), h.len, ← h1]
      congr 1
      rw [Nat.sub_mul]; omega

/-- A slice's cells, read. -/
theorem run_first {P : Program} {M : Nat → Nat → Prop} {w : World} {sz : Nat} {ds : List D} {v : Value} (h : Den M w (.list ds) v) (hsz : ∀ d ∈ ds, d.cells.length = sz) :
    ∃ a c cs, v = .slice a ds.length c ∧ ds.length ≤ c ∧ RowOf M w sz ds cs ∧ (a = none → ds.length = 0) ∧ (∀ ad, a = some ad → ∀ (j : Nat) (u : Value), cs[j]? = some u → w.cell? (ad.add j) = some u ∧ (0 < cs.length → ad.spot = none ∧ ¬ M ad.block (ad.off + j))) ∧
      ∀ w1 : World, w1.heap = w.heap → (Builtin.firstCells sz ds.length v).run P w1 = .ok cs.toArray w1 := by
  obtain ⟨a, c, cs, h1, h2, h3, h4, h5⟩ := den_row h hsz
  refine ⟨a, c, cs, h1, h2, h3, h4, h5, fun w1 hw => ?_⟩
  subst h1
  cases a with
  | none =>
    have : cs = [] := List.eq_nil_of_length_eq_zero (by rw [h3.len, h4 rfl]; simp)
    subst this
    rw [run_firstCells_none]
  | some ad =>
    refine run_firstCells_some (P := P) w1 sz ds.length ad ds.length c cs h3.len fun j u hj => ?_
    have := (h5 ad rfl j u hj).1
    simpa [World.cell?, hw] using this

theorem app_gen (s : St) (d : Option Tmp) (p : PV) (f n : List Nat) (u : List (Nat × Option Ob)) : s.app ⟨d, p, f, n, u⟩ = (⟨s.n, s.slots, updOb s.objs u⟩ : St).put d p := by cases d <;> rfl

section
variable {P : Program}
theorem run_append_none {t ty e : TypeId} {rr : Option (Nat × Nat × Option Value)} {u : Option TK} {sz bs : Nat} {zv : Option Value} (ht : tyF P t = (some (.slice e), rr)) (he : tyF P e = (u, some (sz, bs, zv))) {a b : Option Addr} {n c k : Nat} (w : World)
    (hn : n ≤ c) (hf : (Builtin.firstCells sz 0 (.slice b 0 k)).run P w = .ok #[] w) : (Builtin.append_ #[t, t] ty #[.slice a n c, .slice b 0 k]).run P w = .ok (.slice a n c) w := by
  obtain ⟨i, hi, hs, hb, hz⟩ := tyF_info he
  subst hs
  cases a <;> simp [Builtin.append_, run_underlying (tyF_und ht rfl), sizeOf, typeInfo, hi, Builtin.lenOf, hn, hf, storeCells]

theorem run_append_ip {t ty e : TypeId} {rr : Option (Nat × Nat × Option Value)} {u : Option TK} {sz bs : Nat} {zv : Option Value} (ht : tyF P t = (some (.slice e), rr)) (he : tyF P e = (u, some (sz, bs, zv))) {b o n c m k : Nat} {y : Option Addr} {cur : Array Value} {elem : TypeId} {news : List Value} (w : World)
    (hg : w.heap[b]? = some (.cells cur elem (0, 0))) (hn : n + m ≤ c) (hf : (Builtin.firstCells sz m (.slice y m k)).run P w = .ok news.toArray w) (h1 : ∀ u ∈ news, u.oneCell' = true) (hl : o + n * sz + news.length ≤ cur.size) :
    (Builtin.append_ #[t, t] ty #[.slice (some ⟨b, o, none⟩) n c, .slice y m k]).run P w = .ok (.slice (some ⟨b, o, none⟩) (n + m) c) (w.setRow b (cur.toList.take (o + n * sz) ++ news ++ cur.toList.drop (o + n * sz + news.length)).toArray) := by
  obtain ⟨i, hi, hs, hb, hz⟩ := tyF_info he
  subst hs
  have hst := run_storeCells_at P b (o + n * i.size) elem news 0 cur w hg (by simpa using hl) h1
  simp only [Nat.add_zero] at hst
  simp [Builtin.append_, run_underlying (tyF_und ht rfl), sizeOf, typeInfo, hi, Builtin.lenOf, hn, hf, Addr.add_lit, hst]

theorem run_append_new {t ty e : TypeId} {rr : Option (Nat × Nat × Option Value)} {u : Option TK} {sz bs : Nat} {zv : Value} (ht : tyF P t = (some (.slice e), rr)) (he : tyF P e = (u, some (sz, bs, some zv))) {a y : Option Addr} {n c m k : Nat} {olds news : List Value} (w : World)
    (hn : c < n + m) (hfo : (Builtin.firstCells sz n (.slice a n c)).run P w.drew = .ok olds.toArray w.drew) (hf : (Builtin.firstCells sz m (.slice y m k)).run P w.drew = .ok news.toArray w.drew) (h63 : n + m ≤ 4611686018427387904) (hlim : (n + m) * bs ≤ 140737488355328) :
    (Builtin.append_ #[t, t] ty #[.slice a n c, .slice y m k]).run P w = .ok (.slice (some ⟨w.heap.size, 0, none⟩) (n + m) (grownCap w (n + m) c e)) (w.drew.alloc (.cells (olds.toArray ++ news.toArray ++ Builtin.zeroCells zv.cells (grownCap w (n + m) c e - (n + m))) e)) := by
  obtain ⟨i, hi, hs, hb, hz⟩ := tyF_info he
  subst hs; subst hb
  have hfit := growslice_fits (need := n + m) (old := c) hn hlim
  have hn' : ¬ (n + m ≤ c) := by omega
  have h63' : ¬ (9223372036854775807 < ((n : Int) + (m : Int))) := by omega
  have h48' : ¬ (281474976710656 < Builtin.nextslicecap (n + m) c * i.bytes) := by omega
  simp [Builtin.append_, run_underlying (tyF_und ht rfl), sizeOf, typeInfo, zeroValue, hi, hz, Builtin.lenOf, hn', h63', h48', Question.forced, hf, hfo, newRow, grownCap]
  congr 2
  apply Array.ext'
  simp [List.append_assoc]
end

/-- What an append stands on. -/
def Stand (s1 : St) (g : Gh) (v : Value) (sz : Nat) : Option Nat → Prop
  | none => ∃ a n, v = .slice a n n
  | some r => s1.ob r = some (.tail sz) ∧ g.τ r = some v

def putTail (O : List (Nat × Ob)) (d sz : Nat) : Option Nat → List (Nat × Ob)
  | none => setOb O d (some (.tail sz))
  | some r => setOb (setOb O r none) d (some (.tail sz))

theorem look_putTail {O : List (Nat × Ob)} {d sz : Nat} {r : Option Nat} (y : Nat) : look (putTail O d sz r) y = if y = d then some (.tail sz) else if r = some y then none else look O y := by
  cases r with
  | none => simp only [putTail, look_setOb]; simp
  | some r =>
    simp only [putTail, look_setOb, Option.some.injEq]
    by_cases h1 : y = d
    · simp [h1]
    · by_cases h2 : y = r
      · subst h2; simp [h1]
      · rw [if_neg h1, if_neg h1, if_neg h2, if_neg (fun h => h2 h.symm)]

theorem frm_drew {E : Env} {w : World} (h : Frm E w) : Frm E w.drew := ⟨h.size, h.os, h.tape, h.output, h.block, h.gok⟩

theorem append_core {P : Program} {E : Env} {g : Gh} {s1 : St} {a : Act} {w : World} (hr : Rel E g s1 a w) {v y : Value} {ds ys : List D} {bx : Option Nat} {d : Nat} {t ty e : TypeId} {rr : Option (Nat × Nat × Option Value)} {u : Option TK} {sz bs : Nat} {zv : Value}
    (hfr : Fresh s1 d) (hd6 : d < 1000000) (hv : Den (MM E g s1) w (.list ds) v) (hst : Stand s1 g v sz bx) (hy : Den (MM E g s1) w (.list ys) y)
    (ht : tyF P t = (some (.slice e), rr)) (he : tyF P e = (u, some (sz, bs, some zv))) (hzs : zv.cells.size = sz) (hsz : 0 < sz) (hds : ∀ d ∈ ds, d.cells.length = sz) (hys : ∀ d ∈ ys, d.cells.length = sz)
    (h63 : ds.length + ys.length ≤ 4611686018427387904) (hlim : (ds.length + ys.length) * bs ≤ 140737488355328) :
    ∃ v' w' g', (Builtin.append_ #[t, t] ty #[v, y]).run P w = .ok v' w' ∧ Rel E g' ⟨s1.n, s1.slots, putTail s1.objs d sz bx⟩ a w' ∧ Den (MM E g' ⟨s1.n, s1.slots, putTail s1.objs d sz bx⟩) w' (.list (ds ++ ys)) v' ∧ g'.τ d = some v' := by
  obtain ⟨av, cv, olds, hv1, hv2, hv3, hv4, hv5, hv6⟩ := run_first (P := P) hv hds
  obtain ⟨ay, cy, news, hy1, hy2, hy3, hy4, hy5, hy6⟩ := run_first (P := P) hy hys
  have hobs : ∀ z, (⟨s1.n, s1.slots, putTail s1.objs d sz bx⟩ : St).ob z = if z = d then some (.tail sz) else if bx = some z then none else s1.ob z := fun z => look_putTail z
  have hdne : ∀ r, bx = some r → r ≠ d := by
    rintro r rfl rfl
    have := hst.1
    rw [hfr.ob] at this; cases this
  -- what the new set of cells that may be written is
  have hMM : ∀ (bo : Option Nat) (vo : Option Value) (b q : Nat), MM E (g.put d bo vo) ⟨s1.n, s1.slots, putTail s1.objs d sz bx⟩ b q →
      (E.av b q ∨ ∃ z ob, z ≠ d ∧ bx ≠ some z ∧ s1.ob z = some ob ∧ mutAt g z ob b q) ∨ (∃ n c o0, vo = some (.slice (some ⟨b, o0, none⟩) n c) ∧ n < c ∧ o0 + n * sz ≤ q) := by
    rintro bo vo b q (h | ⟨z, ob, hz, hm⟩)
    · exact .inl (.inl h)
    · rw [hobs] at hz
      by_cases hzd : z = d
      · subst hzd
        rw [if_pos rfl] at hz; injection hz with hz; subst hz
        obtain ⟨n, c, o0, h1, h2, h3⟩ := hm
        exact .inr ⟨n, c, o0, by simpa [Gh.put] using h1, h2, h3⟩
      · rw [if_neg hzd] at hz
        by_cases hzb : bx = some z
        · rw [if_pos hzb] at hz; cases hz
        · rw [if_neg hzb] at hz
          refine .inl (.inr ⟨z, ob, hzd, hzb, hz, ?_⟩)
          rw [← mutAt_same (gc := g.put d bo vo) (g := g) ⟨by simp [Gh.put, hzd], by simp [Gh.put, hzd]⟩]; exact hm
  have hMold : ∀ (b q : Nat), (E.av b q ∨ ∃ z ob, z ≠ d ∧ bx ≠ some z ∧ s1.ob z = some ob ∧ mutAt g z ob b q) → MM E g s1 b q := by
    rintro b q (h | ⟨z, ob, _, _, h1, h2⟩)
    · exact .inl h
    · exact .inr ⟨z, ob, h1, h2⟩
  have hob1 : ∀ y, y ≠ bx.getD d → y ≠ d → (⟨s1.n, s1.slots, putTail s1.objs d sz bx⟩ : St).ob y = s1.ob y := by
    intro y h1 h2
    rw [hobs, if_neg h2, if_neg]
    rintro rfl; exact h1 rfl
  have hob2 : bx.getD d ≠ d → (⟨s1.n, s1.slots, putTail s1.objs d sz bx⟩ : St).ob (bx.getD d) = none := by
    intro h
    cases bx with
    | none => exact absurd rfl h
    | some r => rw [hobs, if_neg h]; simp
  have hobd : ∀ ob, (⟨s1.n, s1.slots, putTail s1.objs d sz bx⟩ : St).ob d = some ob → ob = .tail sz := by
    intro ob h
    rw [hobs, if_pos rfl] at h; injection h with h; exact h.symm
  have hrow := hv3.append hy3
  rcases Nat.eq_zero_or_pos ys.length with hm0 | hm0
  · -- nothing is added
    have hys0 : ys = [] := List.eq_nil_of_length_eq_zero hm0
    subst hys0
    have hnews : news = [] := List.eq_nil_of_length_eq_zero (by rw [hy3.len]; simp)
    subst hnews
    refine ⟨v, w, g.put d (bx.bind g.φ) (some v), ?_, ?_, ?_, by simp [Gh.put]⟩
    · rw [hv1, hy1]
      exact run_append_none ht he w hv2 (by have := hy6 w rfl; rw [hy1] at this; exact this)
    · have hM' : ∀ b q, MM E (g.put d (bx.bind g.φ) (some v)) ⟨s1.n, s1.slots, putTail s1.objs d sz bx⟩ b q → MM E g s1 b q := by
        intro b q hm
        rcases hMM _ _ b q hm with h | ⟨n, c, o0, h1, h2, h3⟩
        · exact hMold b q h
        · injection h1 with h1
          cases bx with
          | none =>
            obtain ⟨a', n', h4⟩ := hst
            rw [h1] at h4; injection h4 with _ h5 h6; omega
          | some r => exact .inr ⟨r, _, hst.1, n, c, o0, by rw [hst.2, h1], h2, h3⟩
      refine Rel.swap hr (bx.getD d) d hfr hd6 _ _ rfl rfl hob1 hob2 (fun b q _ => hM' b q) (Same.refl _ _) (fun _ _ _ _ _ _ _ => rfl) (fun ob hob => ?_) (fun b hb => ?_) hr.fr (Nat.le_refl _)
      · rw [hobd ob hob]
        cases bx with
        | none => obtain ⟨a', n', h4⟩ := hst; exact .full (a := a') (n := n') (by simp [Gh.put, h4]) (by simp [Gh.put])
        | some r =>
          have := hr.objs r _ hst.1
          cases this with
          | full hτ hφ =>
            rw [hst.2] at hτ
            exact .full (by simp [Gh.put]; exact Option.some.inj hτ) (by simp [Gh.put, hφ])
          | tail hτ hn hφ hb hl =>
            rw [hst.2] at hτ
            exact .tail (by simp [Gh.put]; exact Option.some.inj hτ) hn (by simp [Gh.put, hφ]) hb hl
      · cases bx with
        | none => cases hb
        | some r =>
          have hb' : g.φ r = some b := hb
          exact ⟨fun z ob' hz h1 h2 => hz (hr.inj z r _ _ b h1 hst.1 h2 hb'), hr.own r _ b hst.1 hb'⟩
    · rw [List.append_nil]
      refine hv.mono (Same.refl _ _) fun b q _ hm => ?_
      rcases hMM _ _ b q hm with h | ⟨n, c, o0, h1, h2, h3⟩
      · exact hMold b q h
      · injection h1 with h1
        cases bx with
        | none =>
          obtain ⟨a', n', h4⟩ := hst
          rw [h1] at h4; injection h4 with _ h5 h6; omega
        | some r => exact .inr ⟨r, _, hst.1, n, c, o0, by rw [hst.2, h1], h2, h3⟩
  · have hnl : news.length = ys.length * sz := hy3.len
    have holl : olds.length = ds.length * sz := hv3.len
    by_cases hroom : ds.length + ys.length ≤ cv
    · -- in place
      cases bx with
      | none =>
        obtain ⟨a', n', h4⟩ := hst
        rw [hv1] at h4; injection h4 with _ h5 h6; omega
      | some r =>
        obtain ⟨hst1, hst2⟩ := hst
        have hor := hr.objs r _ hst1
        cases hor with
        | full hτ hφ =>
          rw [hst2, hv1] at hτ; injection hτ with hτ; injection hτ with _ h5 h6; omega
        | @tail _ b o n c vs elem hτ hn hφ hb hl =>
          rw [hst2, hv1] at hτ; injection hτ with hτ; injection hτ with h4 h5 h6
          subst h4; subst h5; subst h6
          have hsum : ds.length * sz + ys.length * sz ≤ cv * sz := by rw [← Nat.add_mul]; exact Nat.mul_le_mul_right _ hroom
          have hfit : o + ds.length * sz + news.length ≤ vs.size := by rw [hnl]; omega
          let cells' : Array Value := (vs.toList.take (o + ds.length * sz) ++ news ++ vs.toList.drop (o + ds.length * sz + news.length)).toArray
          have hget : ∀ j, cells'[j]? = if o + ds.length * sz ≤ j ∧ j < o + ds.length * sz + news.length then news[j - (o + ds.length * sz)]? else vs[j]? := by
            intro j
            show (vs.toList.take (o + ds.length * sz) ++ news ++ vs.toList.drop (o + ds.length * sz + news.length)).toArray[j]? = _
            simp only [List.getElem?_toArray]
            have htl : (vs.toList.take (o + ds.length * sz)).length = o + ds.length * sz := by rw [List.length_take]; simp; omega
            by_cases h3 : j < o + ds.length * sz
            · rw [List.append_assoc, List.getElem?_append_left (by omega), List.getElem?_take, if_pos h3, if_neg (by omega)]; simp
            · by_cases h4 : j < o + ds.length * sz + news.length
              · rw [List.getElem?_append_left (by simp only [List.length_append, htl]; omega), List.getElem?_append_right (by omega), htl, if_pos ⟨by omega, h4⟩]
              · rw [List.getElem?_append_right (by simp only [List.length_append, htl]; omega), List.getElem?_drop, if_neg (by omega)]
                simp only [List.length_append, htl]
                rw [show o + ds.length * sz + news.length + (j - (o + ds.length * sz + news.length)) = j from by omega]; simp
          have hcsz : cells'.size = vs.size := by
            show (vs.toList.take (o + ds.length * sz) ++ news ++ vs.toList.drop (o + ds.length * sz + news.length)).toArray.size = _
            simp; omega
          have hown := hr.own r _ b hst1 hφ
          have hMr : ∀ q, o + ds.length * sz ≤ q → MM E g s1 b q := fun q hq => .inr ⟨r, _, hst1, _, _, _, by rw [hst2, hv1], by omega, hq⟩
          have hsame : Same (MM E g s1) w (w.setRow b cells') := by
            refine setRow_same hb fun q uu hu hm => ?_
            rw [hget, if_neg]
            · exact hu
            · rintro ⟨h3, _⟩; exact hm (hMr q h3)
          have hM' : ∀ b' q, MM E (g.put d (some b) (some (.slice (some ⟨b, o, none⟩) (ds.length + ys.length) cv))) ⟨s1.n, s1.slots, putTail s1.objs d sz (some r)⟩ b' q → MM E g s1 b' q := by
            intro b' q hm
            rcases hMM _ _ b' q hm with h | ⟨n, c, o0, h1, h2, h3⟩
            · exact hMold b' q h
            · injection h1 with h1; injection h1 with h4 h5 h6; injection h4 with h4; injection h4 with h7 h8 _
              subst h7; subst h8; subst h5; subst h6
              rw [Nat.add_mul] at h3
              exact hMr q (by omega)
          refine ⟨.slice (some ⟨b, o, none⟩) (ds.length + ys.length) cv, w.setRow b cells', g.put d (some b) (some (.slice (some ⟨b, o, none⟩) (ds.length + ys.length) cv)), ?_, ?_, ?_, by simp [Gh.put]⟩
          · rw [hv1, hy1]
            exact run_append_ip ht he w hb hroom (by have := hy6 w rfl; rw [hy1] at this; exact this) hy3.one hfit
          · refine Rel.swap hr r d hfr hd6 _ _ rfl rfl hob1 hob2 (fun b q _ => hM' b q) hsame (fun z ob b' hzr _ h1 h2 => ?_) (fun ob hob => ?_) (fun b' hb' => ?_) (setRow_frm hr.fr hown.1 _) (by rw [setRow_size]; exact Nat.le_refl _)
            · refine setRow_other w b b' _ ?_
              rintro rfl
              exact hzr (hr.inj z r _ _ _ h1 hst1 h2 hφ)
            · rw [hobd ob hob]
              exact .tail (b := b) (o := o) (n := ds.length + ys.length) (c := cv) (by simp [Gh.put]) hroom (by simp [Gh.put]) (setRow_heap w b vs cells' elem (0, 0) hb) (by rw [hcsz]; exact hl)
            · injection hb' with hb'; subst hb'
              exact ⟨fun z ob' hz h1 h2 => hz (hr.inj z r _ _ b h1 hst1 h2 hφ), hown.1, by rw [setRow_size]; exact hown.2⟩
          · have hlen : (ds ++ ys).length = ds.length + ys.length := by simp
            have hden := row_den (b := b) (o := o) (c := cv) (hrow.mono hsame fun b q _ => hM' b q) (by rw [hlen]; exact hroom) fun j uu hj => ?_
            · rw [hlen] at hden; exact hden
            have hjl : j < (ds.length + ys.length) * sz := by
              have := (List.getElem?_eq_some_iff.1 hj).1
              rw [List.length_append, holl, hnl, ← Nat.add_mul] at this; exact this
            refine ⟨?_, fun hm => ?_⟩
            · rw [cell_setRow_same w b (o + j) vs cells' elem (0, 0) hb, hget]
              by_cases hj1 : j < ds.length * sz
              · rw [if_neg (by omega)]
                rw [List.getElem?_append_left (by omega)] at hj
                have := (hv5 _ rfl j uu hj).1
                rw [add_none] at this
                simpa [World.cell?, hb] using this
              · rw [List.getElem?_append_right (by omega)] at hj
                rw [if_pos ⟨by omega, by rw [hnl]; rw [Nat.add_mul] at hjl; omega⟩, ← hj, holl]
                congr 1; omega
            · rcases hMM _ _ b _ hm with h | ⟨n, c, o0, h1, h2, h3⟩
              · rcases h with h | ⟨z, ob, hzd, hzr, h1, h2⟩
                · have := hr.av _ _ h
                  rcases hown.1 with h3 | h3
                  · omega
                  · exact this.2 h3
                · exact hzr (congrArg some (hr.inj z r _ _ b h1 hst1 (hr.mut_own h1 h2) hφ).symm)
              · injection h1 with h1; injection h1 with h4 h5 h6; injection h4 with h4; injection h4 with h7 h8 _
                subst h8; subst h5
                omega
    · -- a new row
      have hge := grownCap_ge w (ds.length + ys.length) cv e
      let G := grownCap w (ds.length + ys.length) cv e
      have hG : ds.length + ys.length ≤ G := hge
      let row : Array Value := olds.toArray ++ news.toArray ++ Builtin.zeroCells zv.cells (G - (ds.length + ys.length))
      have hrowsz : row.size = G * sz := by
        show (olds.toArray ++ news.toArray ++ Builtin.zeroCells zv.cells (G - (ds.length + ys.length))).size = _
        simp only [Array.size_append, List.size_toArray, size_zeroCells, hzs, holl, hnl, ← Nat.add_mul]
        congr 1; omega
      have hM' : ∀ b' q, (w.cell? ⟨b', q, none⟩).isSome = true → MM E (g.put d (some w.heap.size) (some (.slice (some ⟨w.heap.size, 0, none⟩) (ds.length + ys.length) G))) ⟨s1.n, s1.slots, putTail s1.objs d sz bx⟩ b' q → MM E g s1 b' q := by
        intro b' q hc hm
        rcases hMM _ _ b' q hm with h | ⟨n, c, o0, h1, h2, h3⟩
        · exact hMold b' q h
        · injection h1 with h1; injection h1 with h4 h5 h6; injection h4 with h4; injection h4 with h7 h8 _
          subst h7
          exfalso
          simp [World.cell?] at hc
      have hsame : Same (MM E g s1) w (w.drew.alloc (.cells row e)) := fun b' q uu h1 h2 => Same.alloc (MM E g s1) w.drew (.cells row e) b' q uu h1 h2
      refine ⟨.slice (some ⟨w.heap.size, 0, none⟩) (ds.length + ys.length) G, w.drew.alloc (.cells row e), g.put d (some w.heap.size) (some (.slice (some ⟨w.heap.size, 0, none⟩) (ds.length + ys.length) G)), ?_, ?_, ?_, by simp [Gh.put]⟩
      · rw [hv1, hy1]
        exact run_append_new ht he w (by omega) (by have := hv6 w.drew rfl; rw [hv1] at this; exact this) (by have := hy6 w.drew rfl; rw [hy1] at this; exact this) h63 hlim
      · refine Rel.swap hr (bx.getD d) d hfr hd6 _ _ rfl rfl hob1 hob2 hM' hsame (fun z ob b' hzr hzd h1 h2 => ?_) (fun ob hob => ?_) (fun b' hb' => ?_) ((frm_drew hr.fr).alloc _) (by simp)
        · exact RowKit.Below.heap_alloc w.drew _ _ (hr.own z ob b' h1 h2).2
        · rw [hobd ob hob]
          exact .tail (b := w.heap.size) (o := 0) (n := ds.length + ys.length) (c := G) (by simp [Gh.put]) hG (by simp [Gh.put]) (heap_alloc_new w.drew _) (by rw [hrowsz]; omega)
        · injection hb' with hb'; subst hb'
          refine ⟨fun z ob' hz h1 h2 => absurd (hr.own z ob' _ h1 h2).2 (Nat.lt_irrefl _), .inl hr.fr.size, by simp⟩
      · have hlen : (ds ++ ys).length = ds.length + ys.length := by simp
        have hden := row_den (b := w.heap.size) (o := 0) (c := G) (hrow.mono hsame hM') (by rw [hlen]; exact hG) fun j uu hj => ?_
        · rw [hlen] at hden; exact hden
        have hjl : j < (ds.length + ys.length) * sz := by
          have := (List.getElem?_eq_some_iff.1 hj).1
          rw [List.length_append, holl, hnl, ← Nat.add_mul] at this; exact this
        rw [Nat.zero_add]
        refine ⟨?_, fun hm => ?_⟩
        · rw [cell_of_row (w.drew.alloc (.cells row e)) w.heap.size j row e (0, 0) (heap_alloc_new w.drew _)]
          show (olds.toArray ++ news.toArray ++ Builtin.zeroCells zv.cells (G - (ds.length + ys.length)))[j]? = _
          rw [Array.getElem?_append_left (by simp [holl, hnl, ← Nat.add_mul]; exact hjl)]
          simpa using hj
        · rcases hMM _ _ _ _ hm with h | ⟨n, c, o0, h1, h2, h3⟩
          · have := hr.mm_lt (hMold _ _ h); omega
          · injection h1 with h1; injection h1 with h4 h5 h6; injection h4 with h4; injection h4 with h7 h8 _
            subst h8; subst h5
            omega
end Go.Pm

namespace Go.Pm

/-- What an operand of an append must be. -/
def baseOf : PV → Option (List D × Option Nat)
  | .nils => some ([], none)
  | .tl ds r => some (ds, r)
  | _ => none
def tailAt (s : St) (sz : Nat) : Option Nat → Bool
  | none => true
  | some r => match s.ob r with
    | some (.tail k) => k == sz
    | _ => false
theorem tailAt_spec {s : St} {sz r : Nat} (h : tailAt s sz (some r) = true) : s.ob r = some (.tail sz) := by
  simp only [tailAt] at h
  split at h
  · rename_i k hk; simp at h; rw [hk, h]
  · cases h

theorem updOb_putTail (O : List (Nat × Ob)) (d sz : Nat) (r : Option Nat) : updOb O ((r.toList.map fun x => (x, none)) ++ [(d, some (.tail sz))]) = putTail O d sz r := by cases r <;> rfl

section
variable {P : Program} {ops : Array Oper} {o : Oper} {s : St}

theorem op_append {t e : TypeId} {x y : Operand} {ds ys : List D} {bx : Option Nat} {d : Tmp} {rr : Option (Nat × Nat × Option Value)} {u : Option TK} {sz bs : Nat} {zv : Value}
    (ho : o.op = .call { callee := .builtin .append, args := #[x, y], argTypes := #[t, t] }) (hd : o.dst = some d) (hd6 : d < 1000000) (hx : baseOf (s.val x) = some (ds, bx)) (hkx : okOp x = true) (hy : toD (s.val y) = some (.list ys)) (hky : okOp y = true)
    (ht : tyF P t = (some (.slice e), rr)) (he : tyF P e = (u, some (sz, bs, some zv))) (hzs : zv.cells.size = sz) (hsz : 0 < sz) (hob : tailAt s sz bx = true) (hds : ∀ d ∈ ds, d.cells.length = sz) (hys : ∀ d ∈ ys, d.cells.length = sz)
    (h63 : ds.length + ys.length ≤ 4611686018427387904) (hlim : (ds.length + ys.length) * bs ≤ 140737488355328) :
    OpOK P ops o s ⟨o.dst, .tl (ds ++ ys) (some d), bx.toList, [d], (bx.toList.map fun x => (x, none)) ++ [(d, some (.tail sz))]⟩ := by
  intro s1 ha hf hn hdb E g a w hr K Qx hK
  have hag : ∀ x ∈ o.op.operands, s1.val x = s.val x := fun x hx => val_agree ha hx
  have h1 := eval_of (s := s) hr hag (x := x) (by rw [ho]; simp [Op.operands, Call.operands]) hkx rfl
  have h2 := toD_den hy (eval_of (s := s) hr hag (x := y) (by rw [ho]; simp [Op.operands, Call.operands]) hky rfl)
  have hden : Den (MM E g s1) w (.list ds) (a.eval x) ∧ Stand s1 g (a.eval x) sz bx := by
    generalize s.val x = p at hx h1
    cases p with
    | nils =>
      simp only [baseOf] at hx; injection hx with hx; injection hx with e1 e2; subst e1; subst e2
      cases hv : a.eval x <;> rw [hv] at h1 <;> cases h1
      exact ⟨.nil, none, 0, rfl⟩
    | tl ds' r =>
      simp only [baseOf] at hx; injection hx with hx; injection hx with e1 e2; subst e1; subst e2
      cases r with
      | none =>
        generalize a.eval x = vv at h1
        cases h1 with
        | full h => exact ⟨h, _, _, rfl⟩
      | some r =>
        cases h1 with
        | tail h ht => exact ⟨h, by rw [hf r (by simp)]; exact tailAt_spec hob, ht⟩
    | _ => cases hx
  obtain ⟨v', w', g', e1, e2, e3, e4⟩ := append_core (ty := o.type) hr (hn d (by simp)) hd6 hden.1 hden.2 h2 ht he hzs hsz hds hys h63 hlim
  unfold Oper.wp execOp
  simp only [ho, resolve, invoke, builtin, Sem.run_bind, Sem.run_pure, Result.andThen_ok, List.map_toArray, List.map_cons, List.map_nil, e1]
  refine hK _ _ g' ?_
  rw [app_gen, updOb_putTail]
  exact e2.put (dB_spec hdb) (.tail e3 e4)

/-- A list from a place on, with the room behind it. -/
theorem op_sliceT {t e : TypeId} {x y : Operand} {ds : List D} {r : Nat} {d : Tmp} {i : Nat} {rr : Option (Nat × Nat × Option Value)} {u : Option TK} {sz bs : Nat} {zv : Option Value} (ho : o.op = .slice t x (some y) none none) (hd : o.dst = some d) (hd6 : d < 1000000) (hx : s.val x = .tl ds (some r)) (hkx : okOp x = true)
    (ht : tyF P t = (some (.slice e), rr)) (he : tyF P e = (u, some (sz, bs, zv))) (hsz : ∀ d ∈ ds, d.cells.length = sz) (hlo : isN s (some y) i 0) (hob : tailAt s sz (some r) = true) (h1 : i ≤ ds.length) :
    OpOK P ops o s ⟨o.dst, .tl (ds.drop i) (some d), [r], [d], [(r, none), (d, some (.tail sz))]⟩ := by
  intro s1 ha hf hn hdb E g a w hr K Qx hK
  have hag : ∀ x ∈ o.op.operands, s1.val x = s.val x := fun x hx => val_agree ha hx
  have hv := eval_of (s := s) hr hag (x := x) (by rw [ho]; simp [Op.operands]) hkx hx
  have hst1 : s1.ob r = some (.tail sz) := by rw [hf r (by simp)]; exact tailAt_spec hob
  have hfr := hn d (by simp)
  have hrd : r ≠ d := by rintro rfl; rw [hfr.ob] at hst1; cases hst1
  obtain ⟨hden, hτ⟩ : Den (MM E g s1) w (.list ds) (a.eval x) ∧ g.τ r = some (a.eval x) := by
    generalize a.eval x = vv at hv
    cases hv with
    | tail h ht => exact ⟨h, ht⟩
  obtain ⟨b, c, _, hval, hc, _⟩ := den_row hden hsz
  have hrun := run_sliceL (P := P) hr hag ho hval ht he hlo (isN_none (n := ds.length)) (isN_none (n := c)) (fun _ => rfl) h1 hc (Nat.le_refl _)
  unfold Oper.wp
  rw [hrun]
  rw [hval] at hden hτ
  generalize hv' : (if c = i then b else b.map (·.add (i * sz))) = b' at hrun ⊢
  have hor := hr.objs r _ hst1
  have hobs : ∀ z, (⟨s1.n, s1.slots, putTail s1.objs d sz (some r)⟩ : St).ob z = if z = d then some (.tail sz) else if r = z then none else s1.ob z := fun z => by
    have := look_putTail (O := s1.objs) (d := d) (sz := sz) (r := some r) z
    simp only [Option.some.injEq] at this; exact this
  have hmut : ∀ (bo : Option Nat) (b1 q : Nat), MM E (g.put d bo (some (.slice b' (ds.length - i) (c - i)))) ⟨s1.n, s1.slots, putTail s1.objs d sz (some r)⟩ b1 q → MM E g s1 b1 q := by
    rintro bo b1 q (h | ⟨z, ob, hz, hm⟩)
    · exact .inl h
    · rw [hobs] at hz
      by_cases hzd : z = d
      · subst hzd
        rw [if_pos rfl] at hz; injection hz with hz; subst hz
        obtain ⟨n, c', o0, e1, e2, e3⟩ := hm
        simp only [Gh.put, if_pos rfl] at e1
        injection e1 with e1; injection e1 with e4 e5 e6
        subst e5; subst e6; subst e4
        have hci : ¬ c = i := by omega
        rw [if_neg hci] at hv'
        cases b with
        | none => cases hv'
        | some ad =>
          simp only [Option.map_some] at hv'
          injection hv' with hv'
          have hnn : ad = ⟨ad.block, ad.off, none⟩ := by
            cases hor with
            | full hτ' _ => rw [hτ] at hτ'; injection hτ' with hτ'; injection hτ' with _ e5 e6; omega
            | tail hτ' _ _ _ _ => rw [hτ] at hτ'; injection hτ' with hτ'; injection hτ' with e5 _ _; injection e5 with e5; subst e5; rfl
          rw [hnn, add_none] at hv'
          injection hv' with e7 e8 _
          refine .inr ⟨r, _, hst1, ds.length, c, ad.off, by rw [hτ, hnn, e7], by omega, ?_⟩
          have : i * sz + (ds.length - i) * sz = ds.length * sz := by rw [← Nat.add_mul]; congr 1; omega
          omega
      · rw [if_neg hzd] at hz
        by_cases hzr : r = z
        · rw [if_pos hzr] at hz; cases hz
        · rw [if_neg hzr] at hz
          refine .inr ⟨z, ob, hz, ?_⟩
          rw [← mutAt_same (gc := g.put d bo (some (.slice b' (ds.length - i) (c - i)))) (g := g) ⟨by simp [Gh.put, hzd], by simp [Gh.put, hzd]⟩]; exact hm
  have hD : ∀ bo, Den (MM E (g.put d bo (some (.slice b' (ds.length - i) (c - i)))) ⟨s1.n, s1.slots, putTail s1.objs d sz (some r)⟩) w (.list (ds.drop i)) (.slice b' (ds.length - i) (c - i)) := by
    intro bo
    have := den_slice hden hsz (i := i) (j := ds.length) (m := c) h1 (Nat.le_refl _) hc (Nat.le_refl _)
    rw [hv', List.take_of_length_le (by simp)] at this
    exact this.mono (Same.refl _ _) fun b1 q _ => hmut bo b1 q
  have fin : ∀ bo, (∀ ob, ob = Ob.tail sz → ORel (g.put d bo (some (.slice b' (ds.length - i) (c - i)))) (MM E (g.put d bo (some (.slice b' (ds.length - i) (c - i)))) ⟨s1.n, s1.slots, putTail s1.objs d sz (some r)⟩) w d ob) → (∀ b1, bo = some b1 → g.φ r = some b1) →
      K (a.put o.dst (.slice b' (ds.length - i) (c - i))) w := by
    intro bo h3 h4
    refine hK _ _ (g.put d bo (some (.slice b' (ds.length - i) (c - i)))) ?_
    rw [app_gen]
    have : updOb s1.objs [(r, none), (d, some (.tail sz))] = putTail s1.objs d sz (some r) := rfl
    rw [this]
    have hrel : Rel E (g.put d bo (some (.slice b' (ds.length - i) (c - i)))) ⟨s1.n, s1.slots, putTail s1.objs d sz (some r)⟩ a w := ?_
    · exact hrel.put (dB_spec hdb) (.tail (hD bo) (by simp [Gh.put]))
    refine Rel.swap hr r d hfr hd6 _ _ rfl rfl (fun y e1 e2 => by rw [hobs, if_neg e2, if_neg (fun e => e1 e.symm)]) (fun h => by rw [hobs, if_neg h, if_pos rfl]) (fun b1 q _ => hmut bo b1 q) (Same.refl _ _) (fun _ _ _ _ _ _ _ => rfl) (fun ob hob => h3 ob ?_) (fun b1 hb => ?_) hr.fr (Nat.le_refl _)
    · rw [hobs, if_pos rfl] at hob; injection hob with hob; exact hob.symm
    · have hb' := h4 b1 hb
      exact ⟨fun z ob' hz e1 e2 => hz (hr.inj z r _ _ b1 e1 hst1 e2 hb'), hr.own r _ b1 hst1 hb'⟩
  cases hor with
  | full hτ' hφ =>
    rw [hτ] at hτ'; injection hτ' with hτ'; injection hτ' with _ e5 e6; subst e5; subst e6
    refine fin none (fun ob hob => ?_) (fun b1 h => by cases h)
    subst hob
    exact .full (a := b') (n := ds.length - i) (by simp [Gh.put]) (by simp [Gh.put])
  | @tail _ bb oo nn cc vs elem hτ' hn' hφ hb hl =>
    rw [hτ] at hτ'; injection hτ' with hτ'; injection hτ' with e4 e5 e6
    subst e5; subst e6; subst e4
    by_cases hci : c = i
    · refine fin none (fun ob hob => ?_) (fun b1 h => by cases h)
      subst hob
      have e1 : ds.length - i = 0 := by omega
      have e2 : c - i = 0 := by omega
      exact .full (a := b') (n := 0) (by simp [Gh.put, e1, e2]) (by simp [Gh.put])
    · rw [if_neg hci] at hv'
      simp only [Option.map_some, add_none] at hv'
      refine fin (some bb) (fun ob hob => ?_) (fun b1 h => by injection h with h; subst h; exact hφ)
      subst hob
      refine .tail (b := bb) (o := oo + i * sz) (n := ds.length - i) (c := c - i) (vs := vs) (elem := elem) (by simp [Gh.put, ← hv']) (by omega) (by simp [Gh.put]) hb ?_
      have : i * sz + (c - i) * sz = c * sz := by rw [← Nat.add_mul]; congr 1; omega
      omega
end
end Go.Pm
