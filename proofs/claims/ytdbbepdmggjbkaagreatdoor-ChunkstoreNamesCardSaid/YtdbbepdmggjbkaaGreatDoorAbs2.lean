/- The evaluator and its proof, part 2 of 3. -/
import Derived.Test.YtdbbepdmggjbkaaGreatDoorAbs1
import Derived.IntWalk
import Derived.Laws.IdiomStrings
import Derived.Laws.AppendOwn
import Derived.Orders
set_option linter.unusedSectionVars false

section
/- A holder's block is written. -/
namespace Go.Abs
open Go
set_option linter.unusedSimpArgs false
set_option linter.unusedVariables false
set_option linter.unusedSectionVars false

/-- a memory in which one block has turned -/
structure Upd (b : Nat) (w w' : World) : Prop where
  oth : ∀ b', b' ≠ b → w'.heap[b']? = w.heap[b']?
  size : w'.heap.size = w.heap.size
  os : w'.os = w.os
  tape : w'.tape = w.tape
  output : w'.output = w.output

section
variable {B d b : Nat} {g : G} {w w' : World} {H : Heap} {h : Holder}
theorem Upd.chg (u : Upd b w w') (hc : ∀ i, i < g.ext b → w'.cell? ⟨b, i, none⟩ = w.cell? ⟨b, i, none⟩) : Chg b g w g w' :=
  ⟨⟨fun _ _ h => h, fun _ => Nat.le_refl _, fun b' i hb => by
    by_cases e : b' = b
    · subst e; exact hc i hb
    · exact cell_old (u.oth b' e)⟩, fun b' hne _ => ⟨u.oth b' hne, rfl, rfl⟩, by rw [u.size]; exact Nat.le_refl _, u.os, u.tape, u.output, fun _ _ h => .inl h⟩
theorem Upd.inv (u : Upd b w w') (hi : Inv B g w H) (ho : g.ow b = some h) (hcell : ∀ id off, h ≠ .cell id off) (hc : ∀ i, i < g.ext b → w'.cell? ⟨b, i, none⟩ = w.cell? ⟨b, i, none⟩) : Inv B g w' H where
  rho id b' hr := by have := hi.rho id b' hr; rw [u.size]; exact this
  inj := hi.inj
  ext b' hb := by rw [u.size]; exact hi.ext b' hb
  ow b' o' h' := by rw [u.size]; exact hi.ow b' o' h'
  obj id ob b' hg hr := by
    have hne : b' ≠ b := by rintro rfl; exact hi.ow_rho ho id hr
    exact (hi.obj id ob b' hg hr).chg hi (u.chg hc) (u.oth b' hne) fun off e => by rw [ho] at e; cases e; exact hcell _ _ rfl
  base := by rw [u.size]; exact hi.base
theorem Upd.post (u : Upd b w w') (hi : Inv B g w H) (ho : g.ow b = some h) (hf : ¬ Foreign d (some h)) (hcell : ∀ id off, h ≠ .cell id off) (hc : ∀ i, i < g.ext b → w'.cell? ⟨b, i, none⟩ = w.cell? ⟨b, i, none⟩) : Post d B g w H g w' H [] nobody :=
  ⟨(u.chg hc).step (.inr (.inr (by rw [ho]; exact hf))), u.inv hi ho hcell hc, Nat.le_refl _, fun _ _ hr _ => ⟨hr, rfl⟩, fun id b' hr _ => u.oth b' (by rintro rfl; exact hi.ow_rho ho id hr)⟩
theorem EnvOK.upd {env : Env} {tm : Nat → Option Value} (he : EnvOK g w d env tm) (u : Upd b w w') (hi : Inv B g w H) (ho : g.ow b = some h) (h1 : ∀ i, h ≠ .slot d i) (h2 : ∀ i j, h ≠ .comp d i j) (hc : ∀ i, i < g.ext b → w'.cell? ⟨b, i, none⟩ = w.cell? ⟨b, i, none⟩) : EnvOK g w' d env tm :=
  he.chg hi (u.chg hc) (fun i e => by rw [ho] at e; cases e; exact h1 _ rfl) fun i j e => by rw [ho] at e; cases e; exact h2 _ _ rfl

theorem Upd.refl (b : Nat) (w : World) : Upd b w w := ⟨fun _ _ => rfl, rfl, rfl, rfl, rfl⟩
theorem Upd.trans {w1 w2 : World} (h : Upd b w w1) (k : Upd b w1 w2) : Upd b w w2 :=
  ⟨fun b' e => (k.oth b' e).trans (h.oth b' e), k.size.trans h.size, k.os.trans h.os, k.tape.trans h.tape, k.output.trans h.output⟩
theorem modify_upd (w : World) (b : Nat) (f : Obj → Obj) : Upd b w { w with heap := w.heap.modify b f } :=
  ⟨fun b' e => by rw [Array.getElem?_modify, if_neg (Ne.symm e)], by simp, rfl, rfl, rfl⟩
theorem setCell_upd (w : World) (b o : Nat) (v : Value) : Upd b w (w.setCell ⟨b, o, none⟩ v) := modify_upd w b _
theorem setCell_at {w : World} {b : Nat} {c : Array Value} {e : TypeId} {fr : Nat × Nat} (h : w.heap[b]? = some (.cells c e fr)) (o : Nat) (v : Value) : (w.setCell ⟨b, o, none⟩ v).heap[b]? = some (.cells (c.setIfInBounds o v) e fr) := by
  simp only [World.setCell]
  rw [Array.getElem?_modify, if_pos rfl, h]
  rfl
theorem Calm.setCell {w : World} {b : Nat} (h : Calm w b) (o : Nat) (v : Value) : Calm (w.setCell ⟨b, o, none⟩ v) b := by
  obtain ⟨c, e, fr, h1, h2, h3⟩ := h
  exact ⟨_, e, fr, setCell_at h1 o v, fun j hj => h2 j (by simpa using hj), h3⟩
/-- cells stored one after the other -/
theorem setCells_upd : ∀ (vs : List Value) (w : World) (b o : Nat), Upd b w (w.setCells b o vs)
  | [], w, b, _ => .refl b w
  | v :: vs, w, b, o => (setCell_upd w b o v).trans (setCells_upd vs _ b (o + 1))
theorem Calm.setCells : ∀ (vs : List Value) {w : World} {b : Nat} (o : Nat), Calm w b → Calm (w.setCells b o vs) b
  | [], _, _, _, h => h
  | v :: vs, w, b, o, h => Calm.setCells vs (o + 1) (h.setCell o v)
theorem Room.setCells {w : World} {b o n : Nat} (h : Room w b o n) (p : Nat) (vs : List Value) : Room (w.setCells b p vs) b o n := ⟨World.there_setCells h.1 b p vs, h.2.setCells vs p⟩
/-- a block that is marked as a string's bytes, behind its end -/
theorem freeze_end {w : World} {b : Nat} {c : Array Value} {e : TypeId} {fr : Nat × Nat} (h : w.heap[b]? = some (.cells c e fr)) (hu : unfrozen c fr) (hf : fr.1 ≤ fr.2) :
    Upd b w (w.freeze ⟨b, c.size, none⟩ 1) ∧ ∃ fr', (w.freeze ⟨b, c.size, none⟩ 1).heap[b]? = some (.cells c e fr') ∧ unfrozen c fr' ∧ fr'.1 ≤ fr'.2 := by
  unfold World.freeze
  rw [if_neg (by decide)]
  refine ⟨modify_upd w b _, ?_⟩
  obtain ⟨lo, hi⟩ := fr
  refine ⟨if lo == hi then (c.size, c.size + 1) else (min lo c.size, max hi (c.size + 1)), ?_, ?_, ?_⟩
  · simp only []
    rw [Array.getElem?_modify, if_pos rfl, h]
    rfl
  · split
    · intro j hj hh; simp only at hh; omega
    · rename_i hne
      have hne : lo ≠ hi := by simpa using hne
      have : c.size ≤ lo := by
        rcases Nat.lt_or_ge lo c.size with h2 | h2
        · exact absurd ⟨Nat.le_refl _, by simp only at hf ⊢; omega⟩ (hu lo h2)
        · exact h2
      intro j hj hh
      simp only at hh
      omega
  · split
    · simp
    · simp only; omega
theorem there_of_calm {w w' : World} {b o n : Nat} {c : Array Value} {e : TypeId} {fr fr' : Nat × Nat} (h : w.heap[b]? = some (.cells c e fr)) (h' : w'.heap[b]? = some (.cells c e fr')) (hu : unfrozen c fr') (ht : w.there b o n) : w'.there b o n := by
  intro j hj
  have := (ht j hj).1
  simp only [World.cell?, h] at this
  refine ⟨by simp only [World.cell?, h']; exact this, ?_⟩
  have hlt : o + j < c.size := by
    rcases Nat.lt_or_ge (o + j) c.size with h2 | h2
    · exact h2
    · simp [Array.getElem?_eq_none h2] at this
  simp only [World.frozen?, h']
  have := hu _ hlt
  simp only [Bool.and_eq_false_iff, decide_eq_false_iff_not]
  exact Classical.not_and_iff_not_or_not.1 this
theorem range_of_cells {w w' : World} {b o : Nat} {c : Array Value} {e : TypeId} {fr fr' : Nat × Nat} {vs : List Value} (h : w.heap[b]? = some (.cells c e fr)) (h' : w'.heap[b]? = some (.cells c e fr')) (hr : w.rangeAt b o vs) : w'.rangeAt b o vs := by
  intro j v hj
  have := hr j v hj
  simp only [World.cell?, h] at this
  simp only [World.cell?, h']
  exact this
end
end Go.Abs
end

section
/- Operations that lay a new block. -/
namespace Go.Abs
open Go
set_option linter.unusedSimpArgs false
set_option linter.unusedVariables false
set_option linter.unusedSectionVars false

theorem newW_push (w : World) (o : Obj) : NewW w { w with heap := w.heap.push o } o := ⟨rfl, rfl, rfl, rfl⟩

section
variable {P : Program} {d B : Nat} {env e : Env} {g : G} {w : World} {H : Heap} {a : Act}

theorem zero_value {t : TypeId} {z : AVal} (h : zeroOf P t = some z) : ∃ zv, (∀ w, (zeroValue t).run P w = .ok zv w) ∧ ofV zv = some z := by
  unfold zeroOf at h
  split at h
  · rename_i zv hz
    obtain ⟨i, h1, h2⟩ := Option.bind_eq_some_iff.1 hz
    refine ⟨zv, fun w => ?_, h⟩
    unfold zeroValue typeInfo
    simp [h1, h2]
  · cases h
theorem ofV_cells {zv : Value} {z : AVal} (h : ofV zv = some z) (hn : ∀ vs, z ≠ .tup vs) (g : G) (w : World) : RelL g w (z.cells.map ro1) zv.cells.toList ∧ One zv.cells.toList := by
  have hr := @ofV_rel g w _ _ h
  exact ⟨hr.cells.map fun _ _ k => k.ro1, hr.one_cells hn⟩

variable (hi : Inv B g w H) (he : EnvOK g w d env (tmOf a)) (hs : Sub e env)
include hi he hs

theorem makeMap_ok {o : Oper} {t : TypeId} (ho : o.op = .makeMap t none) : OpOK P d B env g w H a o ⟨⟨[], [], .map (some H.length), none⟩, .map [] ⟨[], 0⟩ :: H, []⟩ nobody := by
  have hn := newW_push w (.map #[] 0)
  refine ⟨g.name H.length w.heap.size, _, .map (some w.heap.size), .inl (by simp only [execOp, ho]; rfl), ?_, he.name hi hn hi.rho_len, fun t ht => ?_, fun id off h => by cases h⟩
  · have := post_name (d := d) hi hn hi.rho_len (H' := .map [] ⟨[], 0⟩ :: H) (by simp) (by simp) (fun i hne hlt => by rw [hget_cons, if_neg hne]) (fun ob hob => by
      rw [hget_cons, if_pos rfl] at hob
      cases hob
      exact ⟨#[], 0, hn.new, ⟨rfl, rfl, rfl⟩, fun j e h => by simp at h⟩)
    exact ⟨this.step, this.inv, this.len, fun id hl hr hb => this.pend id hl hr (by omega), this.kept⟩
  · exact slot_ro (.map (by simp [G.name])) (by simp) (by simp) (by simp) (by simp) (by simp)

theorem box_okE {o : Oper} {t : TypeId} {x : Operand} {c : OutC} (ho : o.op = .box t x) (h : boxE e H x = some c) : OpOK P d B env g w H a o c nobody := by
  unfold boxE at h
  split at h
  case h_2 => cases h
  rename_i v hv
  cases h
  rw [esc_sub hs hv]
  have hv' := ev_sub hs hv
  have fr := frees_esc env x
  obtain ⟨g1, f, k1, k2⟩ := freeze_ups he hi (.refl env) fr
  have hro := read_frozen fr k1 k2 hv' fun _ h => h
  have hcells : RelL g1 w (v.cells.map ro1) (a.eval x).cells.toList := by
    have := hro.cells
    rcases @ro_cells v with e3 | ⟨l, e3⟩
    · rwa [e3] at this
    · exact absurd e3 (ev_noTup hv' l)
  have hone : One (a.eval x).cells.toList := by
    refine hro.one_cells fun vs e3 => ?_
    exact (ro_plain (ev_noTup hv') (ev_noBor hv') (ev_noSptr hv')).1 vs e3
  have hn := newW_push w (.cells (a.eval x).cells t)
  have hroc : (ro v).cells = v.cells.map ro1 := by
    rcases @ro_cells v with e3 | ⟨l, e3⟩
    · exact e3
    · exact absurd e3 (ev_noTup hv' l)
  refine ⟨g1.name H.length w.heap.size, _, .pointer (some ⟨w.heap.size, 0, none⟩), .inl ?_, ?_, k1.name f.inv hn f.inv.rho_len, fun t ht => ?_, fun id off h => by cases h⟩
  · simp only [execOp, ho, Instr.box, newVar, newRow]
    rfl
  · have := post_name (d := d) f.inv hn f.inv.rho_len (H' := .box (ro v).cells :: H) (by simp) (by simp) (fun i hne hlt => by rw [hget_cons, if_neg hne]) (fun ob hob => by
      rw [hget_cons, if_pos rfl] at hob
      cases hob
      rw [hroc]
      exact box_ok hn.new (unfrozen_zero _) (hcells.le (chg_name f.inv hn f.inv.rho_len).le) hone)
    have p := f.post.trans this
    exact ⟨p.step, p.inv, p.len, fun id hl hr hb => p.pend id hl hr (by
      rintro (hb | hb)
      · exact hb
      · omega), fun id b hr hw => p.kept id b hr (by simp)⟩
  · exact slot_ro (.ptr 0 (by simp [G.name])) (by simp) (by simp) (by simp) (by simp) (by simp)

theorem alloc_ok {o : Oper} {t : TypeId} {id : Nat} {z : AVal} (ho : o.op = .alloc t) (hz : zeroOf P t = some z) (hzt : ∀ vs, z ≠ .tup vs) (hid : g.rho id = none) (hg : hget H id = some (.box (z.cells.map ro1))) :
    OpOK P d B env g w H a o ⟨⟨[], [], .ptr (some (id, 0)), none⟩, H, []⟩ (fun i => i = id) := by
  obtain ⟨zv, hzv, hof⟩ := zero_value hz
  have hn := newW_push w (.cells zv.cells t)
  refine ⟨g.name id w.heap.size, _, .pointer (some ⟨w.heap.size, 0, none⟩), .inl ?_, ?_, he.name hi hn hid, fun t ht => ?_, fun id off h => by cases h⟩
  · simp only [execOp, ho, Instr.alloc, newVar, newRow]
    simp [hzv]
  · have := post_name (d := d) hi hn hid (H' := H) (Nat.le_refl _) (hget_lt hg) (fun i hne hlt => rfl) (fun ob hob => by
      rw [hg] at hob
      cases hob
      obtain ⟨c1, c2⟩ := ofV_cells hof hzt (g.name id w.heap.size) { w with heap := w.heap.push (.cells zv.cells t) }
      exact box_ok hn.new (unfrozen_zero _) c1 c2)
    exact this
  · exact slot_ro (.ptr 0 (by simp [G.name])) (by simp) (by simp) (by simp) (by simp) (by simp)
end
end Go.Abs
end

section
/- New slices. -/
namespace Go.Abs
open Go
set_option linter.unusedSimpArgs false
set_option linter.unusedVariables false
set_option linter.unusedSectionVars false

theorem strip_cells {v : AVal} (h : ∀ vs, v ≠ .tup vs) : (strip v).cells = v.cells.map strip1 := by
  cases v with
  | tup vs => exact absurd rfl (h vs)
  | vec l o => cases o <;> rfl
  | _ => rfl
theorem strip1_ro1 (v : AVal) : strip1 (ro1 v) = strip1 v := by
  cases v with
  | vec l o => cases o with
    | tip k => cases k <;> rfl
    | _ => rfl
  | _ => rfl
theorem strip_ro {v : AVal} (h : ∀ vs, v ≠ .tup vs) : strip (ro v) = strip v := by
  cases v with
  | tup vs => exact absurd rfl (h vs)
  | agg cs => simp only [ro, strip, List.map_map]; congr 1; apply List.map_congr_left; intro x _; exact strip1_ro1 x
  | vec l o => cases o with
    | tip k => cases k <;> rfl
    | _ => rfl
  | _ => rfl
theorem strip_len {v : AVal} (h : ∀ vs, v ≠ .tup vs) : (strip v).cells.length = v.cells.length := by rw [strip_cells h]; simp

theorem flat_replicate {v : AVal} {k n : Nat} (hk : v.cells.length = k) {j : Nat} (hj : j < n * k) : ((List.replicate n v).flatMap AVal.cells)[j]? = v.cells[j % k]? := by
  have hk0 : 0 < k := by
    rcases Nat.eq_zero_or_pos k with h | h
    · subst h; omega
    · exact h
  have hu : ∀ e ∈ List.replicate n v, e.cells.length = k := fun e he => by rw [List.eq_of_mem_replicate he]; exact hk
  have hq : j / k < n := Nat.div_lt_of_lt_mul (by rw [Nat.mul_comm]; exact hj)
  have hget : (List.replicate n v)[j / k]? = some v := by rw [List.getElem?_replicate, if_pos hq]
  have := flat_get hu hget
  rw [this, List.getElem?_take, if_pos (Nat.mod_lt j hk0), List.getElem?_drop]
  congr 1
  rw [Nat.mul_comm]
  exact (Nat.div_add_mod j k).symm
theorem putAt_mid : ∀ (vs p c r : List AVal), c.length = vs.length → putAt (p ++ (c ++ r)) p.length vs = p ++ (vs ++ r)
  | [], p, [], r, _ => rfl
  | [], _, _ :: _, _, h => by simp at h
  | _ :: _, _, [], _, h => by simp at h
  | v :: vs, p, u :: c, r, h => by
    have ih := putAt_mid vs (p ++ [v]) c r (by simpa using h)
    simp only [List.length_append, List.length_cons, List.length_nil, List.append_assoc, List.singleton_append] at ih
    rw [putAt]
    have : (p ++ (u :: c ++ r)).set p.length v = p ++ (v :: (c ++ r)) := by
      rw [List.set_append_right _ _ (Nat.le_refl _)]
      simp
    rw [this]
    simpa using ih
theorem flat_set {l : List AVal} {k : Nat} (hu : ∀ e ∈ l, e.cells.length = k) {i : Nat} {v : AVal} (hv : v.cells.length = k) (hi : i < l.length) : (l.set i v).flatMap AVal.cells = putAt (l.flatMap AVal.cells) (i * k) v.cells := by
  have hl : l = l.take i ++ l[i] :: l.drop (i + 1) := by
    rw [← List.drop_eq_getElem_cons hi, List.take_append_drop]
  have hlen : ((l.take i).flatMap AVal.cells).length = i * k := by
    rw [flat_length (fun e he => hu e (List.mem_of_mem_take he)), List.length_take]
    congr 1; omega
  have hset : l.set i v = l.take i ++ v :: l.drop (i + 1) := by
    rw [List.set_eq_take_append_cons_drop, if_pos hi]
  rw [hset]
  conv => rhs; rw [hl]
  simp only [List.flatMap_append, List.flatMap_cons]
  rw [← hlen]
  exact (putAt_mid v.cells _ _ _ (by rw [hv, hu _ (List.getElem_mem hi)])).symm

section
variable {P : Program} {d B : Nat} {env e : Env} {g : G} {w : World} {H : Heap} {a : Act}

/-- cells laid over and over -/
theorem zero_row {z : AVal} {zv : Value} {k : Nat} (hr : ofV zv = some z) (ht : ∀ vs, z ≠ .tup vs) (hk : z.cells.length = k) (n : Nat) (g : G) (w : World) :
    RelL g w ((List.replicate n (strip z)).flatMap AVal.cells) (((List.range (n * k)).map fun i => zv.cells[i % zv.cells.size]!)) ∧ One ((List.range (n * k)).map fun i => zv.cells[i % zv.cells.size]!) := by
  have hrel := @ofV_rel g w _ _ hr
  have hc : RelL g w (z.cells.map strip1) zv.cells.toList := hrel.cells.map fun _ _ k => k.strip1
  have hsz : zv.cells.size = k := by
    have := hc.length
    simp only [List.length_map, Array.length_toList] at this
    omega
  have hone := hrel.one_cells ht
  have hsc := strip_cells ht
  have hu : ∀ e ∈ List.replicate n (strip z), e.cells.length = k := fun e he => by rw [List.eq_of_mem_replicate he, strip_len ht]; exact hk
  have get : ∀ j, j < n * k → ∃ x, zv.cells[j % zv.cells.size]! = x ∧ zv.cells.toList[j % k]? = some x := by
    intro j hj
    have hk0 : 0 < k := by
      rcases Nat.eq_zero_or_pos k with h | h
      · subst h; omega
      · exact h
    have hlt : j % zv.cells.size < zv.cells.size := by rw [hsz]; exact Nat.mod_lt j hk0
    refine ⟨_, rfl, ?_⟩
    rw [Array.getElem?_toList, ← hsz, Array.getElem?_eq_getElem hlt]
    congr 1
    exact (getElem!_pos zv.cells (j % zv.cells.size) hlt).symm
  refine ⟨.mk (by rw [flat_length hu]; simp) fun j v x hv hx => ?_, fun x hx => ?_⟩
  · have hj : j < n * k := by
      rcases Nat.lt_or_ge j (n * k) with h | h
      · exact h
      · rw [List.getElem?_eq_none (by simpa using h)] at hx; cases hx
    rw [flat_replicate (by rw [strip_len ht]; exact hk) hj, hsc] at hv
    rw [List.getElem?_map, List.getElem?_range hj] at hx
    obtain ⟨y, hy1, hy2⟩ := get j hj
    simp only [Option.map_some, Option.some.injEq] at hx
    rw [hy1] at hx; subst hx
    obtain ⟨y', hy', hr'⟩ := hc.get hv
    rw [hy2] at hy'; cases hy'
    exact hr'
  · obtain ⟨j, hj, rfl⟩ := List.mem_map.1 hx
    obtain ⟨y, hy1, hy2⟩ := get j (List.mem_range.1 hj)
    rw [hy1]
    exact hone.get hy2
theorem range_row (zero : Array Value) (n : Nat) : ((Array.range n).map fun i => zero[i % zero.size]!).toList = (List.range n).map fun i => zero[i % zero.size]! := by simp

variable (hi : Inv B g w H) (he : EnvOK g w d env (tmOf a)) (hs : Sub e env)
include hi he hs

theorem makeSlice_ok {o : Oper} {t : TypeId} {l c : Operand} {out : Out} (ho : o.op = .makeSlice t l c) (h : makeSliceE P e t l c = some out) : OpOK P d B env g w H a o ⟨out, H, []⟩ nobody := by
  unfold makeSliceE at h
  split at h
  case h_2 => cases h
  rename_i elem k1 n k2 m hu hl hc
  split at h
  case h_2 => cases h
  rename_i z hz
  split at h
  case isFalse => cases h
  rename_i hcond
  obtain ⟨h0, hnm, hb, hm, hk, hk0, hzt⟩ := hcond
  cases h
  have hzt : ∀ vs, z ≠ .tup vs := fun vs e3 => by subst e3; cases hzt
  have e1 := ev_rel he (ev_sub hs hl) (by simp)
  have e2 := ev_rel he (ev_sub hs hc) (by simp)
  generalize hzl : a.eval l = zl at e1
  generalize hzc : a.eval c = zc at e2
  cases e1; cases e2
  obtain ⟨zv, hzv, hof⟩ := zero_value hz
  obtain ⟨inf, hinf⟩ := info_of_cells hk0
  have hwrap : ∀ i : Int, 0 ≤ i → i ≤ 2 ^ 47 → IntKind.i64.wrap i = i := by
    intro i h1 h2
    exact IntWalk.i64_in i ⟨by omega, by omega⟩
  have hwn := hwrap n h0 (by omega)
  have hwm := hwrap m (by omega) hm
  have hbytes : P.bytesOf elem = inf.bytes := by simp [Program.bytesOf, hinf]
  obtain ⟨zr, zo⟩ := zero_row hof hzt hk m.toNat g w
  let cells : Array Value := (Array.range (m.toNat * P.cellsOf elem)).map fun i => zv.cells[i % zv.cells.size]!
  have hcl : cells.toList = ((List.range (m.toNat * P.cellsOf elem)).map fun i => zv.cells[i % zv.cells.size]!) := range_row _ _
  have hn := newW_push w (.cells cells elem)
  have run : (execOp a.eval o).run P w = .ok (.value (.slice (some ⟨w.heap.size, 0, none⟩) n.toNat m.toNat)) { w with heap := w.heap.push (.cells cells elem) } := by
    have hb1 : ¬ ((inf.bytes : Int) * m > 2 ^ 48) := by rw [← hbytes]; omega
    simp only [execOp, ho, hzl, hzc, Instr.makeSlice, asInt, asIntOf]
    simp only [Sem.run_bind, run_underlying hu, Result.andThen_ok, Sem.run_pure, run_typeInfo w hinf, hwn, hwm]
    have hcnd : ((decide (m < 0) || decide ((inf.bytes : Int) * m > 2 ^ 48)) || decide (n < 0) || decide (n > m)) = false := by
      simp only [Bool.or_eq_false_iff, decide_eq_false_iff_not]
      omega
    simp only [Sem.run_ite, hcnd]
    simp [run_sizeOf w hinf, hzv, newRow]
    split
    · rename_i hz0
      have hce : cells = #[] := by simp only [cells]; rw [hz0]; simp
      rw [hz0, hce, show (Array.map (fun x => default) (Array.range 0) : Array Value) = #[] by simp]
    · rfl
  refine ⟨g.own w.heap.size (.slot d (o.dst.getD 0)), _, _, .inl run, post_own hi hn _, he.own hi hn _, fun t ht => ?_, fun id off h => by cases h⟩
  have e3 : o.dst.getD 0 = t := by rw [ht]; rfl
  rw [e3]
  have hlen : (List.replicate n.toNat (strip z)).length = n.toNat := by simp
  have hsplit : (List.replicate m.toNat (strip z)) = List.replicate n.toNat (strip z) ++ List.replicate (m.toNat - n.toNat) (strip z) := by
    rw [List.replicate_append_replicate]; congr 1; omega
  have hu' : ∀ e ∈ List.replicate n.toNat (strip z), e.cells.length = P.cellsOf elem := fun e he => by rw [List.eq_of_mem_replicate he, strip_len hzt]; exact hk
  have := ex_new hi hn (.slot d t) (l := List.replicate n.toNat (strip z)) (k := P.cellsOf elem) (cap := m.toNat) (vs := cells.toList.take (n.toNat * P.cellsOf elem)) (rest := cells.toList.drop (n.toNat * P.cellsOf elem)) hk0 hu' ?_ ?_ (List.take_append_drop _ _).symm (by simp; omega) (by simp [cells]) (unfrozen_zero _) (Nat.le_refl _)
  · rw [hlen] at this
    exact hold_slot this
  · rw [hcl]
    have h5 := zr.take (n.toNat * P.cellsOf elem)
    have hfl : ((List.replicate n.toNat (strip z)).flatMap AVal.cells).length = n.toNat * P.cellsOf elem := by rw [flat_length hu', hlen]
    rw [hsplit, List.flatMap_append, ← hfl, List.take_left] at h5
    rw [← hfl]
    exact h5
  · rw [hcl]
    exact fun x hx => zo x (List.mem_of_mem_take hx)

theorem fold_sets : ∀ (ps : List (Nat × AVal)) (L : List AVal), (ps.foldl (fun l p => l.set p.1 (strip p.2)) L).length = L.length
  | [], _ => rfl
  | p :: ps, L => by rw [List.foldl_cons, fold_sets ps]; simp
omit hi he hs in
/-- the parts of a slice's literal -/
theorem fill_row {g' : G} {k n : Nat} : ∀ {ps : List (Nat × AVal)} {xs : List (Nat × Value)} {L : List AVal} {vs : Array Value},
    xs.length = ps.length → (∀ (j : Nat) (p : Nat × AVal), ps[j]? = some p → ∃ x, xs[j]? = some (p.1, x) ∧ RelV g' w (ro p.2) x ∧ ∀ l, p.2 ≠ .tup l) →
    (∀ p ∈ ps, p.2.cells.length = k ∧ p.1 < n) → L.length = n → (∀ e ∈ L, e.cells.length = k) → RelL g' w (L.flatMap AVal.cells) vs.toList → One vs.toList →
    ∃ us, Instr.fill (fun i => some (i * k, k)) vs xs = some us ∧ RelL g' w ((ps.foldl (fun l p => l.set p.1 (strip p.2)) L).flatMap AVal.cells) us.toList ∧ One us.toList ∧ us.size = vs.size ∧ ∀ e ∈ ps.foldl (fun l p => l.set p.1 (strip p.2)) L, e.cells.length = k
  | [], [], L, vs, _, _, _, _, hu, hl, h1 => ⟨vs, rfl, hl, h1, rfl, hu⟩
  | [], _ :: _, _, _, h, _, _, _, _, _, _ => by simp at h
  | _ :: _, [], _, _, h, _, _, _, _, _, _ => by simp at h
  | p :: ps, x :: xs, L, vs, hlen, hp, hk, hL, hu, hl, h1 => by
    obtain ⟨x', hx', hr, hnt⟩ := hp 0 p rfl
    cases hx'
    obtain ⟨i, v⟩ := p
    obtain ⟨hvk, hin⟩ := hk (i, v) (by simp)
    simp only at hvk hin hnt hr
    have hrs : RelV g' w (strip v) x' := by rw [← strip_ro hnt]; exact hr.strip
    have hrt : ∀ l, strip v ≠ .tup l := by
      intro l e3
      cases v with
      | tup l' => exact absurd rfl (hnt l')
      | vec l' o' => cases o' <;> simp [strip, strip1] at e3
      | _ => simp [strip, strip1] at e3
    have hcell := hrs.cells
    have hsl : (strip v).cells.length = k := by rw [strip_len hnt]; exact hvk
    have hsz : x'.cells.size = k := by
      have := hcell.length
      simp only [Array.length_toList] at this
      omega
    have hvs : vs.size = n * k := by
      have := hl.length
      rw [flat_length hu, hL] at this
      simpa using this.symm
    have hik : i * k + k ≤ n * k := by
      have := Nat.mul_le_mul_right k (show i + 1 ≤ n from hin)
      rw [Nat.add_mul] at this; omega
    have hc' : ¬ (x'.cells.size ≠ k || i * k + x'.cells.size > vs.size) = true := by
      simp only [Bool.or_eq_true, decide_eq_true_eq, bne_iff_ne, ne_eq]
      omega
    simp only [Instr.fill]
    rw [if_neg hc']
    have hset := flat_set hu hsl (i := i) (by omega)
    have hl2 : RelL g' w ((L.set i (strip v)).flatMap AVal.cells) (x'.cells.zipIdx.foldl (fun cs (p : Value × Nat) => cs.setIfInBounds (i * k + p.2) p.1) vs).toList := by
      rw [fill_step, hset]
      exact hl.putAt _ hcell
    have ho2 : One (x'.cells.zipIdx.foldl (fun cs (p : Value × Nat) => cs.setIfInBounds (i * k + p.2) p.1) vs).toList := by
      rw [fill_step]; exact h1.putL _ (hrs.one_cells hrt)
    have hu2 : ∀ e ∈ L.set i (strip v), e.cells.length = k := by
      intro e he
      rcases List.mem_or_eq_of_mem_set he with he | he
      · exact hu e he
      · subst he; exact hsl
    obtain ⟨us, u1, u2, u3, u4, u5⟩ := fill_row (k := k) (n := n) (by simpa using hlen) (fun j p hj => by simpa using hp (j + 1) p (by simpa using hj)) (fun p hp' => hk p (List.mem_cons_of_mem _ hp')) (by simpa using hL) hu2 hl2 ho2
    refine ⟨us, u1, u2, u3, ?_, u5⟩
    rw [u4]
    have := congrArg List.length (fill_step vs (i * k) x'.cells)
    rw [putL_length] at this
    simpa using this

theorem buildSlice_ok {o : Oper} {t : TypeId} {n : Nat} {parts : Array (Nat × Operand)} {out : Out} (ho : o.op = .buildSlice t n parts) (h : buildSliceE P e t n parts.toList = some out) : OpOK P d B env g w H a o ⟨out, H, []⟩ nobody := by
  unfold buildSliceE at h
  split at h
  case h_2 => cases h
  rename_i elem hu
  split at h
  case h_2 => cases h
  rename_i z ps hz hp
  split at h
  case isFalse => cases h
  rename_i hcond
  obtain ⟨hsz, hall, hk, hk0, hzt⟩ := hcond
  cases h
  have hzt : ∀ vs, z ≠ .tup vs := fun vs e3 => by subst e3; cases hzt
  have hall : ∀ p ∈ ps, p.2.cells.length = P.cellsOf elem ∧ p.1 < n := by
    intro p hp'
    have := List.all_eq_true.1 hall p hp'
    simpa using this
  obtain ⟨inf, hinf⟩ := info_of_cells hk0
  obtain ⟨zv, hzv, hof⟩ := zero_value hz
  obtain ⟨hsub, hparts⟩ := parts_frozen hi he hs hp
  have fr := frees_escL env (parts.toList.map (·.2))
  obtain ⟨g1, f, k1, k2⟩ := freeze_ups he hi (.refl env) fr
  obtain ⟨j1, j2⟩ := hparts g1 k1 k2
  obtain ⟨zr, zo⟩ := zero_row hof hzt hk n g1 w
  let zcells : Array Value := (Array.range (n * P.cellsOf elem)).map fun i => zv.cells[i % zv.cells.size]!
  have hzc : zcells.toList = ((List.range (n * P.cellsOf elem)).map fun i => zv.cells[i % zv.cells.size]!) := range_row _ _
  obtain ⟨us, u1, u2, u3, u4, u5⟩ := fill_row (g' := g1) (w := w) (k := P.cellsOf elem) (n := n) (vs := zcells) (L := List.replicate n (strip z)) j1 j2 hall (by simp) (fun e he => by rw [List.eq_of_mem_replicate he, strip_len hzt]; exact hk) (by rw [hzc]; exact zr) (by rw [hzc]; exact zo)
  have hn := newW_push w (.cells us elem)
  have run : (execOp a.eval o).run P w = .ok (.value (.slice (some ⟨w.heap.size, 0, none⟩) n n)) { w with heap := w.heap.push (.cells us elem) } := by
    simp only [execOp, ho, Instr.buildSlice]
    simp only [Sem.run_bind, run_underlying hu, Result.andThen_ok, Sem.run_pure, run_sizeOf w hinf]
    rw [if_neg (by omega)]
    have hlist : (parts.map fun p => (p.1, a.eval p.2)).toList = parts.toList.map fun p => (p.1, a.eval p.2) := by simp
    by_cases hz0 : n * P.cellsOf elem = 0
    · have hzce : zcells = #[] := by simp only [zcells]; rw [hz0]; simp
      rw [hzce] at u1
      rw [if_pos hz0, Sem.run_bind]
      simp only [Sem.run_pure, Result.andThen_ok]
      rw [hlist, hz0, show ((Array.range 0).map fun x => (#[] : Array Value)[x % (#[] : Array Value).size]!) = #[] by simp, u1]
      rfl
    · rw [if_neg hz0]
      simp only [Sem.run_bind, hzv, Result.andThen_ok, Sem.run_pure]
      rw [hlist, show ((Array.range (n * P.cellsOf elem)).map fun x => zv.cells[x % zv.cells.size]!) = zcells from rfl, u1]
      rfl
  have hlen : (ps.foldl (fun l p => l.set p.1 (strip p.2)) (List.replicate n (strip z))).length = n := by rw [fold_sets hi he hs]; simp
  refine ⟨g1.own w.heap.size (.slot d (o.dst.getD 0)), _, _, .inl run, ?_, ?_, fun t ht => ?_, fun id off h => by cases h⟩
  · have p := f.post.trans (post_own (d := d) f.inv hn (.slot d (o.dst.getD 0)))
    exact p.mono (by simp) (by simp [nobody])
  · rw [hsub]; exact k1.own f.inv hn _
  · have e3 : o.dst.getD 0 = t := by rw [ht]; rfl
    rw [e3]
    have husz : us.size = n * P.cellsOf elem := by
      rw [u4]; simp [zcells]
    have := ex_new f.inv hn (.slot d t) (l := ps.foldl (fun l p => l.set p.1 (strip p.2)) (List.replicate n (strip z))) (k := P.cellsOf elem) (cap := n) (vs := us.toList) (rest := []) hk0 u5 u2 u3 (by simp) (by omega) husz (unfrozen_zero _) (Nat.le_refl _)
    rw [hlen] at this
    exact hold_slot this
end
end Go.Abs
end

section
/- Conversions. -/
namespace Go.Abs
open Go
set_option linter.unusedSimpArgs false
set_option linter.unusedVariables false
set_option linter.unusedSectionVars false

theorem isU8_iff {P : Program} {t : TypeId} (h : isU8 P t = true) : P.underlying t = some (.int .u8) := by
  unfold isU8 at h
  split at h
  · assumption
  · cases h
section
variable {P : Program} {d B : Nat} {env e : Env} {g : G} {w : World} {H : Heap} {a : Act}
theorem bytes_rel (s : List UInt8) (g : G) (w : World) : RelL g w ((bytesE s).flatMap AVal.cells) (s.map fun b => Value.int .u8 b.toNat) ∧ One (s.map fun b => Value.int .u8 b.toNat) ∧ ∀ e ∈ bytesE s, e.cells.length = 1 := by
  refine ⟨?_, ?_, ?_⟩
  · induction s with
    | nil => exact .nil
    | cons b r ih => exact .cons (.int _ _) ih
  · intro x hx
    obtain ⟨b, _, rfl⟩ := List.mem_map.1 hx
    rfl
  · intro x hx
    obtain ⟨b, _, rfl⟩ := List.mem_map.1 hx
    rfl
theorem bytesE_flat (s : List UInt8) : (bytesE s).flatMap AVal.cells = bytesE s := by
  induction s with
  | nil => rfl
  | cons b r ih =>
    simp only [bytesE, List.map_cons, List.flatMap_cons] at ih ⊢
    rw [ih]; rfl
theorem bytesE_length (s : List UInt8) : (bytesE s).length = s.length := by simp [bytesE]
theorem byteOf_some {v : AVal} {b : UInt8} (h : byteOf v = some b) : v = .int .u8 b.toNat := by
  unfold byteOf at h
  split at h
  · split at h
    · rename_i n hc
      cases h
      congr 1
      have : n.toNat < 256 := by omega
      simp [UInt8.toNat_ofNat, Nat.mod_eq_of_lt this]
      omega
    · cases h
  · cases h
theorem bytes_back {l : List AVal} {bs : List UInt8} (h : mapO byteOf l = some bs) : l = bytesE bs := by
  obtain ⟨h1, h2⟩ := mapO_some h
  refine List.ext_getElem? fun j => ?_
  by_cases hj : j < l.length
  · obtain ⟨b, hb, hf⟩ := h2 j _ (List.getElem?_eq_getElem hj)
    rw [List.getElem?_eq_getElem hj, byteOf_some hf, bytesE, List.getElem?_map, hb]
    rfl
  · rw [List.getElem?_eq_none (by omega), List.getElem?_eq_none (by simp [bytesE]; omega)]

variable (hi : Inv B g w H) (he : EnvOK g w d env (tmOf a)) (hs : Sub e env)
include hi he hs

theorem convert_ok {o : Oper} {src dst : TypeId} {x : Operand} {out : Out} (ho : o.op = .convert src dst x) (h : convertE P e src dst x = some out) : OpOK P d B env g w H a o ⟨out, H, []⟩ nobody := by
  have run : ∀ z w', (convert src dst (a.eval x)).run P w = .ok z w' → (execOp a.eval o).run P w = .ok (.value z) w' := by
    intro z w' hz
    simp only [execOp, ho, Sem.run_bind, hz]
    rfl
  unfold convertE at h
  split at h
  · rename_i s e' hx hd hsrc
    split at h
    case isFalse => cases h
    rename_i hu8
    cases h
    have hu8 := isU8_iff hu8
    have e1 := ev_rel he (ev_sub hs hx) (by simp)
    generalize hz : a.eval x = z at e1
    cases e1
    have hrun := run_bytes_of_string (P := P) w src dst e' ⟨s.toArray⟩ hsrc hd hu8
    rw [← hz] at hrun
    have hge := grownCap_ge w (⟨s.toArray⟩ : ByteArray).size 0 e'
    have hsz : (⟨s.toArray⟩ : ByteArray).size = s.length := rfl
    generalize hcap : grownCap w (⟨s.toArray⟩ : ByteArray).size 0 e' = cap at hrun hge
    let c := bytesRow ⟨s.toArray⟩ cap
    have hn : NewW w (w.drew.alloc (.cells c e' (c.size, c.size + 1))) (.cells c e' (c.size, c.size + 1)) := ⟨rfl, rfl, rfl, rfl⟩
    have hcl : c.toList = (s.map fun b => Value.int .u8 b.toNat) ++ List.replicate (cap - s.length) (.int .u8 0) := by
      simp [c, bytesRow, hsz]
    obtain ⟨b1, b2, b3⟩ := bytes_rel s g w
    refine ⟨g.own w.heap.size (.slot d (o.dst.getD 0)), _, _, .inl (run _ _ hrun), post_own hi hn _, he.own hi hn _, fun t ht => ?_, fun id off h => by cases h⟩
    have e3 : o.dst.getD 0 = t := by rw [ht]; rfl
    rw [e3]
    have hcs : c.size = cap * 1 := by
      have := congrArg List.length hcl
      simp at this
      omega
    have := ex_new hi hn (.slot d t) (l := bytesE s) (k := 1) (cap := cap) (vs := s.map fun b => Value.int .u8 b.toNat) (rest := List.replicate (cap - s.length) (.int .u8 0)) (by omega) b3 b1 b2 hcl (by rw [bytesE_length]; omega) hcs (fun j hj hf => by omega) (Nat.le_succ _)
    rw [bytesE_length] at this
    exact hold_slot this
  · rename_i l ow e' hx hd hsrc
    split at h
    case isFalse => cases h
    rename_i hu8
    have hu8 := isU8_iff hu8
    split at h
    case h_2 => cases h
    rename_i bs hbs
    have hl := bytes_back hbs
    subst hl
    have e1 := ev_read he (ev_sub hs hx)
    have hrun : (convert src dst (a.eval x)).run P w = .ok (.string ⟨bs.toArray⟩) w := by
      rcases e1 with ⟨h0, ad, cap, hz⟩ | ⟨b, p, cap, k, vs, hz, hu, hrel, h1, hh, hc⟩
      · have hb0 : bs = [] := by
          cases bs with
          | nil => rfl
          | cons b r => simp [bytesE] at h0
        subst hb0
        rw [hz]
        cases ad with
        | none => rw [run_convert_bytes_string w src dst e' none 0 cap hsrc hu8 hd]; rfl
        | some ad => exact run_convert_bytes_back w src dst e' ad cap [] hsrc hu8 hd (by simp)
      · rw [hz, bytesE_length]
        obtain ⟨_, _, b3⟩ := bytes_rel bs g w
        have hfl := bytesE_flat bs
        rw [hfl] at hrel
        refine run_convert_bytes_back w src dst e' _ cap bs hsrc hu8 hd fun j hj => ?_
        obtain ⟨y, hy, hr⟩ := hrel.get (j := j) (v := .int .u8 (bs[j].toNat : Int)) (by simp [bytesE, List.getElem?_eq_getElem hj])
        cases hr
        rw [Addr.add_mid]
        exact hh j _ hy
    exact pure_ok hi he h (run _ _ hrun) fun t => slot_ro (.str _) (by simp) (by simp) (by simp) (by simp) (by simp)
  · rename_i l k e' sl hx hd hsrc
    cases x with
    | tmp j =>
      simp only [] at h
      split at h
      case isFalse => cases h
      rename_i hc
      obtain ⟨rfl, hne, hu8⟩ := hc
      cases h
      have hu8 := isU8_iff hu8
      have hx' := rawv_sub hs hx
      obtain ⟨hx1, _⟩ := rawv_slot he hx'
      obtain ⟨g1, y, k1, k2, k3, k4, _⟩ := take_ex he hi hx' (.slot (d + 1) 0)
      rw [k1] at hx1; cases hx1
      obtain ⟨ad, cap, hz, hcase⟩ := k4
      rcases hcase with ⟨rfl, _⟩ | ⟨hk, hcap, b, p, vs, rfl, how, hext, hun, hrel, h1, hr, ht⟩
      · cases hne
      obtain ⟨ht1, cc, el, fr, hb, huf, hfr⟩ := ht
      obtain ⟨hupd, fr', hb', huf', hfr'⟩ := freeze_end hb huf hfr
      have hcell0 : ∀ i, i < g1.ext b → (w.freeze ⟨b, cc.size, none⟩ 1).cell? ⟨b, i, none⟩ = w.cell? ⟨b, i, none⟩ := fun i hi => by rw [hext] at hi; omega
      have hnf : ¬ Foreign d (some (Holder.slot (d + 1) 0)) := by
        rintro (h | ⟨d', i', hd', h | ⟨j', h⟩⟩)
        · cases h
        · cases h; omega
        · cases h
      have hpost := hupd.post (d := d) k2.inv how hnf (by simp) hcell0
      have henv := k3.upd hupd k2.inv how (by simp) (by simp) hcell0
      have hrun : (convert src src (a.eval (.tmp j))).run P w = .ok (a.eval (.tmp j)) (w.freeze ⟨b, cc.size, none⟩ 1) := by
        have hsh : w.shape? b = some (el, cc.size) := by simp [World.shape?, hb]
        rw [hz]
        simp [convert, run_underlying hd, run_underlying hu8, markStringish, hsh]
      let σ := give1to (.slot (d + 1) 0) (.slot d (o.dst.getD 0))
      have hσf : ∀ o', Foreign d (some o') → σ o' = o' := give_foreign hnf
      refine ⟨g1.remap σ, _, _, .inl (run _ _ hrun), ?_, ?_, fun t htt => ?_, fun id off h => by cases h⟩
      · have p := (k2.post.trans hpost).trans (turn_remap (d := d) (σ := σ) hpost.inv (fun id off => give_ne (by simp)) hσf).post
        exact p.mono (by simp) (by simp [nobody])
      · exact henv.remap (fun i v _ => .inl (give_ne (by simp))) fun i vs' _ j' v' _ => .inl (give_ne (by simp))
      · have e3 : o.dst.getD 0 = t := by rw [htt]; rfl
        have hex : ExOK g1 (w.freeze ⟨b, cc.size, none⟩ 1) (.slot (d + 1) 0) l k (a.eval (.tmp j)) :=
          ⟨_, cap, hz, .inr ⟨hk, hcap, b, p, vs, rfl, how, hext, hun, hrel.le hpost.step.le, h1, range_of_cells hb hb' hr, there_of_calm hb hb' huf' ht1, cc, el, fr', hb', huf', hfr'⟩⟩
        have := hex.remap (σ := σ)
        rw [show σ (.slot (d + 1) 0) = .slot d (o.dst.getD 0) from give_same _ _, e3] at this
        exact hold_slot this
    | _ => cases h
  · rename_i u hx h1 h2 h3
    split at h
    case h_2 => cases h
    rename_i uv hu
    split at h
    case h_2 => cases h
    rename_i v hv
    obtain ⟨z, hz, hvz⟩ := Option.bind_eq_some_iff.1 hv
    have := toV_read (ev_read he (ev_sub hs hx)) hu
    exact pure_ok hi he h (run z w (by rw [this]; exact pureRun_run hz w)) fun t => slot_ofV hvz
  · cases h
end
end Go.Abs
end

section
/- Appending. -/
namespace Go.Abs
open Go
set_option linter.unusedSimpArgs false
set_option linter.unusedVariables false
set_option linter.unusedSectionVars false

section
variable {P : Program} {d B : Nat} {env e : Env} {g : G} {w : World} {H : Heap} {a : Act} {tm : Nat → Option Value}

/-- what is appended: so many elements, of these cells -/
structure Src (P : Program) (g : G) (w : World) (k : Nat) (xs : List AVal) (x : Value) (news : List Value) : Prop where
  len : (Builtin.lenOf x).run P w = .ok xs.length w
  cells : ∀ w', w'.heap = w.heap → (Builtin.firstCells k xs.length x).run P w' = .ok news.toArray w'
  rel : RelL g w (xs.flatMap AVal.cells) news
  one : One news
  uni : ∀ e ∈ xs, e.cells.length = k
theorem Src.length {k : Nat} {xs : List AVal} {x : Value} {news : List Value} (s : Src P g w k xs x news) : news.length = xs.length * k := by
  rw [← s.rel.length, flat_length s.uni]
theorem src_ok {v : AVal} {x : Value} {xs : List AVal} {k : Nat} (hr : ReadV g w v x) (hx : elemsOf v = some xs) (hk : headOk k xs = true) (hne : xs ≠ []) : ∃ news, Src P g w k xs x news := by
  cases v with
  | vec l o =>
    simp only [elemsOf] at hx
    cases hx
    rcases hr with ⟨rfl, _⟩ | ⟨b, p, cap, k', vs, rfl, hu, hl, h1, hh, hc⟩
    · exact absurd rfl hne
    · have hu := headOk_uni hu hk
      refine ⟨vs, rfl, ?_, hl, h1, hu⟩
      have : vs.length = xs.length * k := by rw [← hl.length, flat_length hu]
      intro w' hw
      simp only [Builtin.firstCells]
      rw [← this]
      exact run_loadCells_list (P := P) w' ⟨b, p, none⟩ vs fun j u hj => by rw [Addr.add_mid, cell_old (w := w) (by rw [hw])]; exact hh j u hj
  | str s =>
    simp only [elemsOf] at hx
    cases hx
    have hr := hr.plain (by simp)
    cases hr
    obtain ⟨b1, b2, b3⟩ := bytes_rel s g w
    have hk1 := headOk_uni b3 hk
    have hlen := bytesE_length s
    refine ⟨_, ?_, ?_, b1, b2, hk1⟩
    · rw [hlen]; rfl
    · intro w' hw
      rw [hlen]
      simp only [Builtin.firstCells, Sem.run_pure]
      congr 1
      have : (⟨s.toArray⟩ : ByteArray).extract 0 s.length = ⟨s.toArray⟩ := by
        apply ByteArray.ext
        rw [ByteArray.data_extract]
        apply Array.ext'
        simp
      rw [this]
      apply Array.ext'
      simp
  | _ => cases hx

/-- what is known of a slice that has been taken -/
def HoldT (g : G) (w : World) (h : Holder) (l : List AVal) : Own → Value → Prop
  | .ex k, x => ExOK g w h l k x
  | .tip k, x => RelV g w (.vec l (.tip k)) x ∧ TipOK g w h l k x
  | .ro, x => RelV g w (.vec l .ro) x
  | .nul, x => RelV g w (.vec l .nul) x

/-- the second argument of 'append' is a row of values: its type is nothing to the run -/
theorem append_types {c : Call} {t : TypeId} {r : List TypeId} (ha : c.argTypes.toList = t :: r) (hr : rowArg P r = true) (ty : TypeId) (s x : Value) (w : World) :
    (Builtin.append_ c.argTypes ty #[s, x]).run P w = (Builtin.append_ #[t] ty #[s, x]).run P w := by
  obtain ⟨h0, h1⟩ := types_head ha
  have e0 : (#[t] : Array TypeId)[0]? = some t := rfl
  have e1 : (#[t] : Array TypeId)[1]? = none := rfl
  unfold Builtin.append_
  simp only [h0, e0, e1]
  rw [h1]
  cases r with
  | nil => rfl
  | cons rt r =>
    simp only [rowArg] at hr
    cases hrt : P.underlying rt with
    | none => rw [hrt] at hr; cases hr
    | some rd =>
      rw [hrt] at hr
      simp only [List.getElem?_toArray, List.getElem?_cons_zero, List.getElem?_cons_succ, List.head?_cons]
      rw [Sem.run_bind, Sem.run_bind]
      congr 1
      funext td w1
      cases td <;> try rfl
      cases s <;> try rfl
      simp only [Sem.run_bind, run_underlying hrt, Sem.run_pure, Result.andThen_ok]
      congr 1
      funext size w2
      cases rd <;> first | (cases hr; done) | rfl
theorem append_room_run {t elem : TypeId} {n sLen sCap b o : Nat} {dd : TypeDesc} {xv : Value} {news : List Value} (hu : P.underlying t = some (.slice elem)) (hue : P.underlying elem = some dd)
    (hn : (Builtin.lenOf xv).run P w = .ok n w) (hf : (Builtin.firstCells (P.cellsOf elem) n xv).run P w = .ok news.toArray w) (hroom : sLen + n ≤ sCap) (h1 : One news) (ht : w.there b (o + sLen * P.cellsOf elem) news.length) (ty : TypeId) :
    (Builtin.append_ #[t] ty #[.slice (some ⟨b, o, none⟩) sLen sCap, xv]).run P w = .ok (.slice (some ⟨b, o, none⟩) (sLen + n) sCap) (w.setCells b (o + sLen * P.cellsOf elem) news) := by
  have h0 : (#[t] : Array TypeId)[0]? = some t := rfl
  have h1' : (#[t] : Array TypeId)[1]? = none := rfl
  have hst := run_storeCells_cells (P := P) b (o + sLen * P.cellsOf elem) news 0 w (fun j hj => by simpa using (ht j hj).1) (fun j hj => by simpa using (ht j hj).2) h1
  simp only [Nat.add_zero] at hst
  unfold Builtin.append_
  simp only [h0, List.getElem?_toArray, List.getElem?_cons_zero, List.getElem?_cons_succ, Sem.run_bind, run_underlying hu, Result.andThen_ok, sizeOf_run hue]
  simp [hn, hroom, hf, Addr.add_mid, hst]
/-- nothing is appended -/
theorem append_none_run {t elem : TypeId} {sLen sCap : Nat} {base : Option Addr} {dd : TypeDesc} {xv : Value} (hu : P.underlying t = some (.slice elem)) (hue : P.underlying elem = some dd)
    (hn : (Builtin.lenOf xv).run P w = .ok 0 w) (hf : (Builtin.firstCells (P.cellsOf elem) 0 xv).run P w = .ok #[] w) (hroom : sLen ≤ sCap) (ty : TypeId) :
    (Builtin.append_ #[t] ty #[.slice base sLen sCap, xv]).run P w = .ok (.slice base sLen sCap) w := by
  have h0 : (#[t] : Array TypeId)[0]? = some t := rfl
  have h1' : (#[t] : Array TypeId)[1]? = none := rfl
  unfold Builtin.append_
  simp only [h0, List.getElem?_toArray, List.getElem?_cons_zero, List.getElem?_cons_succ, Sem.run_bind, run_underlying hu, Result.andThen_ok, sizeOf_run hue]
  cases base <;> simp [hn, hroom, hf, storeCells]
theorem append_grow_run {t elem : TypeId} {n sLen sCap : Nat} {base : Option Addr} {dd : TypeDesc} {xv zv : Value} {olds news : List Value} (hu : P.underlying t = some (.slice elem)) (hue : P.underlying elem = some dd)
    (hn : (Builtin.lenOf xv).run P w = .ok n w) (hf : ∀ w', w'.heap = w.heap → (Builtin.firstCells (P.cellsOf elem) n xv).run P w' = .ok news.toArray w') (ho : ∀ w', w'.heap = w.heap → (Builtin.firstCells (P.cellsOf elem) sLen (.slice base sLen sCap)).run P w' = .ok olds.toArray w')
    (hroom : sCap < sLen + n) (hb : (sLen + n) * P.bytesOf elem ≤ 140737488355328) (hm : sLen + n ≤ 140737488355328) (hz : ∀ w, (zeroValue elem).run P w = .ok zv w) (ty : TypeId) :
    (Builtin.append_ #[t] ty #[.slice base sLen sCap, xv]).run P w = .ok (.slice (some ⟨w.heap.size, 0, none⟩) (sLen + n) (grownCap w (sLen + n) sCap elem))
      (w.drew.alloc (.cells (olds.toArray ++ (news.toArray ++ Builtin.zeroCells zv.cells (grownCap w (sLen + n) sCap elem - (sLen + n)))) elem)) := by
  have h0 : (#[t] : Array TypeId)[0]? = some t := rfl
  have h1' : (#[t] : Array TypeId)[1]? = none := rfl
  obtain ⟨i, hi⟩ := info_of_underlying hue
  have hby : P.bytesOf elem = i.bytes := by simp [Program.bytesOf, hi]
  rw [hby] at hb
  have hfit := growslice_fits (bytes := i.bytes) hroom hb
  have hng : ¬ (sLen + n ≤ sCap) := by omega
  have h63 : ¬ (((sLen + n : Nat) : Int) > IntKind.i64.max) := by
    have h3 : IntKind.i64.max = 9223372036854775807 := by decide
    rw [h3]; omega
  have hfit' : ¬ (281474976710656 < Builtin.nextslicecap (sLen + n) sCap * i.bytes) := by omega
  have hti : ∀ w, (typeInfo elem).run P w = .ok i w := fun w => run_typeInfo w hi
  have hf' := hf w.drew rfl
  have ho' := ho w.drew rfl
  have h63'' : ¬ ((9223372036854775807 : Int) < (sLen : Int) + (n : Int)) := by omega
  unfold Builtin.append_
  simp only [h0, List.getElem?_toArray, List.getElem?_cons_zero, List.getElem?_cons_succ, Sem.run_bind, run_underlying hu, Result.andThen_ok, sizeOf_run hue]
  simp [hn, hng, hti, h63'', hfit', hf', ho', hz, newRow, Question.forced, grownCap]

theorem HoldT.read {h : Holder} {l : List AVal} {ow : Own} {x : Value} (t : HoldT g w h l ow x) : ReadV g w (.vec l .ro) x := by
  cases ow with
  | ro => exact RelV.read t
  | nul => exact (RelV.own t .ro).read
  | tip k => exact (t.1.own .ro).read
  | ex k => exact ExOK.read t _
theorem HoldT.hold {h : Holder} {l : List AVal} {ow : Own} {x : Value} (t : HoldT g w h l ow x) : HoldOK g w h (.vec l ow) x := by
  cases ow with
  | ro => exact t
  | nul => exact t
  | tip k => exact t
  | ex k => exact t
theorem ReadV.slice {l : List AVal} {x : Value} (t : ReadV g w (.vec l .ro) x) : ∃ base cap, x = .slice base l.length cap ∧ l.length ≤ cap := by
  rcases t.1 with ⟨rfl, ad, cap, rfl⟩ | ⟨b, o, cap, k, vs, rfl, _, _, _, _, hc⟩
  · exact ⟨ad, cap, rfl, by simp⟩
  · exact ⟨_, cap, rfl, hc⟩

/-- a block of another holder's is fixed further -/
theorem HoldOK.fixed {g' : G} {h o : Holder} {v : AVal} {x : Value} (hle : Le g w g' w) (how : g'.ow = g.ow) (hx : ∀ b, g'.ext b ≠ g.ext b → g.ow b = some h) (hne : h ≠ o) (t : HoldOK g w o v x) : HoldOK g' w o v x := by
  have he : ∀ b, g.ow b = some o → g'.ext b = g.ext b := fun b hb => by
    apply Classical.byContradiction
    intro hc
    have := hx b hc
    rw [hb] at this; cases this; exact hne rfl
  have tip : ∀ {l k}, TipOK g w o l k x → TipOK g' w o l k x := by
    rintro l k ⟨a, n, cap, hx, t⟩
    refine ⟨a, n, cap, hx, ?_⟩
    rcases t with t | ⟨hk, b, p, ha, hb, hu, hext, ht⟩
    · exact .inl t
    · exact .inr ⟨hk, b, p, ha, by rw [how]; exact hb, hu, (he b hb).trans hext, ht⟩
  unfold HoldOK at *
  split
  · rename_i l k
    obtain ⟨a, cap, hx, t⟩ := t
    refine ⟨a, cap, hx, ?_⟩
    rcases t with t | ⟨hk, hc, b, p, vs, ha, hb, hext, hu, hl, h1, hr, ht⟩
    · exact .inl t
    · exact .inr ⟨hk, hc, b, p, vs, ha, by rw [how]; exact hb, (he b hb).trans hext, hu, hl.le hle, h1, hr, ht⟩
  · exact ⟨t.1.le hle, tip t.2⟩
  · exact RelV.le hle (by simpa using t)
theorem EnvOK.fixed {g' : G} {h : Holder} (he : EnvOK g w d env tm) (f : Fix d B g g' w H) (hx : ∀ b, g'.ext b ≠ g.ext b → g.ow b = some h) (h1 : ∀ i, h ≠ .slot d i) (h2 : ∀ i j, h ≠ .comp d i j) : EnvOK g' w d env tm := by
  intro i v hv
  obtain ⟨x, hx', hs⟩ := he i v hv
  refine ⟨x, hx', ?_⟩
  unfold SlotOK at *
  split
  · rcases hs with hs | ⟨xs, e, hz, hc⟩
    · exact .inl hs
    · refine .inr ⟨xs, e, hz, fun j v' hj => ?_⟩
      obtain ⟨y, hy, hk⟩ := hc j v' hj
      exact ⟨y, hy, hk.imp id fun hk => hk.fixed f.step.le f.ow hx (h2 i j)⟩
  · exact hs
  · exact hs
  · exact HoldOK.fixed f.step.le f.ow hx (h1 i) (by simpa using hs)

theorem not_foreign_tmp {d : Nat} : ¬ Foreign d (some (Holder.slot (d + 1) 0)) := by
  rintro (h | ⟨d', i', hd', h | ⟨j', h⟩⟩)
  · cases h
  · cases h; omega
  · cases h

theorem range_append {w : World} {b o : Nat} {vs us : List Value} (h : w.rangeAt b o vs) (k : w.rangeAt b (o + vs.length) us) : w.rangeAt b o (vs ++ us) := by
  intro j v hj
  rcases Nat.lt_or_ge j vs.length with hlt | hge
  · rw [List.getElem?_append_left hlt] at hj
    exact h j v hj
  · rw [List.getElem?_append_right hge] at hj
    have := k (j - vs.length) v hj
    rwa [show o + vs.length + (j - vs.length) = o + j by omega] at this
/-- WHAT IS TAKEN, with what is appended. -/
theorem grow_ok {t : TypeId} {l xs : List AVal} {ow : Own} {v : AVal} {sv xv xe : Value} (hi : Inv B g w H) (he : EnvOK g w d env tm) (hT : HoldT g w (.slot (d + 1) 0) l ow sv) (hv : growE P t l ow xs = some v) {u : AVal} (hru : ReadV g w u xv) (hxs : elemsOf u = some xs) (ty : TypeId) :
    ∃ g2 w2 x2, (Builtin.append_ #[t] ty #[sv, xv]).run P w = .ok x2 w2 ∧ Post d B g w H g2 w2 H [] nobody ∧ EnvOK g2 w2 d env tm ∧ HoldOK g2 w2 (.slot (d + 1) 0) v x2 := by
  unfold growE at hv
  split at hv
  case h_2 => cases hv
  rename_i elem hu
  split at hv
  case h_2 => cases hv
  rename_i dd z hue hz
  obtain ⟨base, cap, rfl, hcap⟩ := hT.read.slice
  split at hv
  · rename_i hemp
    cases hv
    have hx0 : xs = [] := List.isEmpty_iff.1 hemp
    subst hx0
    have hn : (Builtin.lenOf xv).run P w = .ok 0 w ∧ (Builtin.firstCells (P.cellsOf elem) 0 xv).run P w = .ok #[] w := by
      cases u with
      | vec l' o' =>
        simp only [elemsOf] at hxs
        cases hxs
        obtain ⟨b', c', rfl, _⟩ := ReadV.slice (hru.own .ro)
        refine ⟨rfl, ?_⟩
        cases b' with
        | none => rfl
        | some ad => simp [Builtin.firstCells, loadCells, loadCellsFrom]
      | str s =>
        have hr := hru.plain (by simp)
        cases hr
        simp only [elemsOf] at hxs
        have : s = [] := by
          cases s with
          | nil => rfl
          | cons b r => simp [bytesE] at hxs
        subst this
        exact ⟨rfl, by simp [Builtin.firstCells]⟩
      | _ => cases hxs
    exact ⟨g, w, _, append_none_run hu hue hn.1 hn.2 hcap ty, .refl hi, he, hT.hold⟩
  · rename_i hemp
    have hxne : xs ≠ [] := fun e3 => hemp (by rw [e3]; rfl)
    have hx1 : 0 < xs.length := by
      cases xs with
      | nil => exact absurd rfl hxne
      | cons _ _ => simp
    split at hv
    case isFalse => cases hv
    rename_i hcond
    obtain ⟨hk1, hk2, hk0, hb, hm, hfit, hzk⟩ := hcond
    cases hv
    obtain ⟨news, hsrc⟩ := src_ok (P := P) hru hxs hk2 hxne
    have hnl := hsrc.length
    rcases Nat.lt_or_ge cap (l.length + xs.length) with hgrow | hroom
    · -- a new array
      obtain ⟨zv, hzv, hof⟩ := zero_value hz
      have holds : ∃ olds, (∀ w', w'.heap = w.heap → (Builtin.firstCells (P.cellsOf elem) l.length (.slice base l.length cap)).run P w' = .ok olds.toArray w') ∧ RelL g w (l.flatMap AVal.cells) olds ∧ One olds ∧ ∀ e ∈ l, e.cells.length = P.cellsOf elem := by
        rcases hT.read with ⟨rfl, ad, c0, e3⟩ | ⟨b, o, c0, k', vs, e3, hun, hl, h1, hh, hc⟩
        · refine ⟨[], fun w' _ => ?_, .nil, (by intro x hx; cases hx), by simp⟩
          cases base with
          | none => rfl
          | some ad => simp [Builtin.firstCells, loadCells, loadCellsFrom]
        · cases e3
          have hun := headOk_uni hun hk1
          refine ⟨vs, fun w' hw => ?_, hl, h1, hun⟩
          have : vs.length = l.length * P.cellsOf elem := by rw [← hl.length, flat_length hun]
          simp only [Builtin.firstCells]
          rw [← this]
          exact run_loadCells_list (P := P) w' ⟨b, o, none⟩ vs fun j u hj => by rw [Addr.add_mid, cell_old (w := w) (by rw [hw])]; exact hh j u hj
      obtain ⟨olds, ho1, ho2, ho3, ho4⟩ := holds
      have hrun := append_grow_run (P := P) hu hue hsrc.len hsrc.cells ho1 hgrow hb hm hzv ty
      have hge := grownCap_ge w (l.length + xs.length) cap elem
      generalize grownCap w (l.length + xs.length) cap elem = cap' at hrun hge
      let c : Array Value := olds.toArray ++ (news.toArray ++ Builtin.zeroCells zv.cells (cap' - (l.length + xs.length)))
      have hn : NewW w (w.drew.alloc (.cells c elem)) (.cells c elem) := ⟨rfl, rfl, rfl, rfl⟩
      have hzsz : zv.cells.size = P.cellsOf elem := by
        have := (@ofV_rel g w _ _ hof).cells.length
        simp only [Array.length_toList] at this
        omega
      have hol : olds.length = l.length * P.cellsOf elem := by rw [← ho2.length, flat_length ho4]
      have hcl : c.toList = (olds ++ news) ++ (Builtin.zeroCells zv.cells (cap' - (l.length + xs.length))).toList := by simp [c]
      have hcs : c.size = cap' * P.cellsOf elem := by
        have h1 : c.size = olds.length + (news.length + (Builtin.zeroCells zv.cells (cap' - (l.length + xs.length))).size) := by simp [c]
        rw [h1, size_zeroCells, hzsz, hol, hnl, ← Nat.add_mul, ← Nat.add_mul]
        congr 1; omega
      have hone : One (olds ++ news) := fun x hx => by
        rcases List.mem_append.1 hx with hx | hx
        · exact ho3 x hx
        · exact hsrc.one x hx
      have hun2 : ∀ e ∈ l ++ xs, e.cells.length = P.cellsOf elem := fun e he => by
        rcases List.mem_append.1 he with he | he
        · exact ho4 e he
        · exact hsrc.uni e he
      have hex := ex_new hi hn (.slot (d + 1) 0) (l := l ++ xs) (k := P.cellsOf elem) (cap := cap') (vs := olds ++ news) hk0 hun2 (by rw [List.flatMap_append]; exact ho2.append hsrc.rel) hone hcl (by simp; omega) hcs (unfrozen_zero _) (Nat.le_refl _)
      have hp := post_own (d := d) hi hn (.slot (d + 1) 0)
      have hee := he.own hi hn (.slot (d + 1) 0)
      rw [List.length_append] at hex
      have hgo : grownOwn (P.cellsOf elem) ow = .ex (P.cellsOf elem) ∨ grownOwn (P.cellsOf elem) ow = .tip (P.cellsOf elem) := by
        cases ow with
        | ro => cases hfit
        | nul => cases hfit
        | tip k => cases k with
          | zero => exact .inl rfl
          | succ k => exact .inr rfl
        | ex k => exact .inl rfl
      rcases hgo with hgo | hgo
      · rw [hgo]
        exact ⟨_, _, _, hrun, hp, hee, hex⟩
      · rw [hgo]
        obtain ⟨g3, f, fe, fr, ft⟩ := freeze_hold (d := d) hp.inv not_foreign_tmp (by simp) hex
        refine ⟨g3, _, _, hrun, (hp.trans f.post).mono (by simp) (by simp [nobody]), ?_, ⟨fr, ft⟩⟩
        exact hee.fixed f fe (by simp) (by simp)
    · -- in place
      have hlt : l.length < cap := by omega
      cases ow with
      | ro => cases hfit
      | nul => cases hfit
      | ex m =>
        obtain ⟨ad, c0, e3, hcase⟩ := hT
        cases e3
        rcases hcase with ⟨rfl, rfl⟩ | ⟨hm0, hc, b, o, vs, rfl, how, hext, hun, hl, h1, hr, ht⟩
        · simp at hlt
        · have hmk : m = P.cellsOf elem := by
            cases m with
            | zero => exact absurd rfl hm0
            | succ m => simpa [fitsOwn] using hfit
          subst hmk
          have hvl : vs.length = l.length * P.cellsOf elem := by rw [← hl.length, flat_length hun]
          have hcapk : (l.length + xs.length) * P.cellsOf elem ≤ cap * P.cellsOf elem := Nat.mul_le_mul_right _ hroom
          rw [Nat.add_mul] at hcapk
          have hth := there_sub ht.1 (l.length * P.cellsOf elem) news.length (by omega)
          have hrun := append_room_run (P := P) hu hue hsrc.len (hsrc.cells w rfl) hroom hsrc.one hth ty
          have hupd := setCells_upd news w b (o + l.length * P.cellsOf elem)
          have hcc : ∀ i, i < g.ext b → (w.setCells b (o + l.length * P.cellsOf elem) news).cell? ⟨b, i, none⟩ = w.cell? ⟨b, i, none⟩ := fun i hi => by rw [hext] at hi; omega
          have hpost := hupd.post (d := d) hi how not_foreign_tmp (by simp) hcc
          refine ⟨g, _, _, hrun, hpost, he.upd hupd hi how (by simp) (by simp) hcc, ?_⟩
          refine ⟨_, cap, by rw [List.length_append], .inr ⟨hm0, by rw [List.length_append]; exact hroom, b, o, vs ++ news, rfl, how, hext, fun e he => ?_, ?_, fun x hx => ?_, ?_, ht.setCells _ _⟩⟩
          · rcases List.mem_append.1 he with he | he
            · exact hun e he
            · exact hsrc.uni e he
          · rw [List.flatMap_append]
            exact (hl.append hsrc.rel).le hpost.step.le
          · rcases List.mem_append.1 hx with hx | hx
            · exact h1 x hx
            · exact hsrc.one x hx
          · exact range_append (World.rangeAt_setCells_apart hr b _ news (.inr (.inl (by omega)))) (by rw [hvl]; exact World.rangeAt_setCells_same w b _ news hth)
      | tip m =>
        obtain ⟨hrel, ad, n0, c0, e3, hcase⟩ := hT
        cases e3
        rcases hcase with hcase | ⟨hm0, b, o, rfl, how, hun, hext, hth0⟩
        · omega
        · have hmk : m = P.cellsOf elem := by
            cases m with
            | zero => exact absurd rfl hm0
            | succ m => simpa [fitsOwn] using hfit
          subst hmk
          have hcapk : (cap - l.length) * P.cellsOf elem = (cap - l.length) * P.cellsOf elem := rfl
          have hxk : xs.length * P.cellsOf elem ≤ (cap - l.length) * P.cellsOf elem := Nat.mul_le_mul_right _ (by omega)
          have hth := there_sub hth0 0 news.length (by omega)
          rw [Nat.add_zero] at hth
          have hrun := append_room_run (P := P) hu hue hsrc.len (hsrc.cells w rfl) hroom hsrc.one hth ty
          have hupd := setCells_upd news w b (o + l.length * P.cellsOf elem)
          have hcc : ∀ i, i < g.ext b → (w.setCells b (o + l.length * P.cellsOf elem) news).cell? ⟨b, i, none⟩ = w.cell? ⟨b, i, none⟩ := fun i hi => by
            rw [hext] at hi
            exact World.cell?_setCells_out b news _ w ⟨b, i, none⟩ fun _ _ => .inl hi
          have hpost := hupd.post (d := d) hi how not_foreign_tmp (by simp) hcc
          have hee := he.upd hupd hi how (by simp) (by simp) hcc
          have hge' : g.ext b ≤ o + (l.length + xs.length) * P.cellsOf elem := by rw [hext, Nat.add_mul]; omega
          have hgo : grownOwn (P.cellsOf elem) (.tip (P.cellsOf elem)) = .tip (P.cellsOf elem) := by
            cases hkk : P.cellsOf elem with
            | zero => exact absurd hkk hk0
            | succ k => rfl
          rw [hgo]
          have hf : Fix d B g (g.fix b (o + (l.length + xs.length) * P.cellsOf elem)) (w.setCells b (o + l.length * P.cellsOf elem) news) H :=
            ⟨(chg_fix hge').step (.inr (.inr (by rw [how]; exact not_foreign_tmp))), hpost.inv.fix hge' how (by simp), rfl, rfl⟩
          have hext' : (g.fix b (o + (l.length + xs.length) * P.cellsOf elem)).ext b = o + (l.length + xs.length) * P.cellsOf elem := by simp [G.fix]
          have hun2 : ∀ e ∈ l ++ xs, e.cells.length = P.cellsOf elem := fun e he => by
            rcases List.mem_append.1 he with he | he
            · exact hun e he
            · exact hsrc.uni e he
          have hold : ∃ vs, RelL g w (l.flatMap AVal.cells) vs ∧ One vs ∧ w.rangeAt b o vs ∧ vs.length = l.length * P.cellsOf elem := by
            generalize hsv : Value.slice (some ⟨b, o, none⟩) l.length cap = sv' at hrel
            cases hrel with
            | vecE _ _ _ _ => exact ⟨[], .nil, (by intro x hx; cases hx), (by intro j v hj; simp at hj), by simp⟩
            | vec _ hk' hl h1 hh _ _ _ _ =>
              cases hsv
              exact ⟨_, hl, h1, hh, by rw [← hl.length, flat_length hun]⟩
          obtain ⟨vs, hl, h1, hr, hvl⟩ := hold
          refine ⟨g.fix b (o + (l.length + xs.length) * P.cellsOf elem), _, _, hrun, (hpost.trans hf.post).mono (by simp) (by simp [nobody]), hee.fixed hf (h := .slot (d + 1) 0) (fun b' hb' => ?_) (by simp) (by simp), ?_, ?_⟩
          · by_cases e4 : b' = b
            · subst e4; exact how
            · exact absurd (by simp [G.fix, e4]) hb'
          · have := RelV.vec (g := g.fix b (o + (l.length + xs.length) * P.cellsOf elem)) (w := w.setCells b (o + l.length * P.cellsOf elem) news) (l := l ++ xs) (.tip (P.cellsOf elem)) (b := b) (o := o) (cap := cap) (k := P.cellsOf elem) (vs := vs ++ news) hun2
              (by rw [List.flatMap_append]; exact (hl.append hsrc.rel).le (hpost.step.le.trans hf.step.le))
              (fun x hx => by
                rcases List.mem_append.1 hx with hx | hx
                · exact h1 x hx
                · exact hsrc.one x hx)
              (range_append (World.rangeAt_setCells_apart hr b _ news (.inr (.inl (by omega)))) (by rw [hvl]; exact World.rangeAt_setCells_same w b _ news hth))
              (by rw [hext', List.length_append, Nat.add_mul]; omega) (by rw [List.length_append]; exact hroom) (fun e4 => by injection e4 with e4; exact absurd e4 hk0)
            rwa [List.length_append] at this
          · refine ⟨_, _, cap, rfl, .inr ⟨hk0, b, o, rfl, how, hun2, hext', ?_⟩⟩
            have h5 := World.there_setCells (there_sub hth0 (xs.length * P.cellsOf elem) ((cap - (l.length + xs.length)) * P.cellsOf elem) (by
              rw [← Nat.add_mul]; exact Nat.mul_le_mul_right _ (by omega))) b (o + l.length * P.cellsOf elem) news
            rwa [show o + l.length * P.cellsOf elem + xs.length * P.cellsOf elem = o + (l.length + xs.length) * P.cellsOf elem by rw [Nat.add_mul]; omega] at h5
end
end Go.Abs
end

section
/- Appending and copying, as operations. -/
namespace Go.Abs
open Go
set_option linter.unusedSimpArgs false
set_option linter.unusedVariables false
set_option linter.unusedSectionVars false

section
variable {P : Program} {d B : Nat} {env e : Env} {g : G} {w : World} {H : Heap} {a : Act} {tm : Nat → Option Value}
theorem ReadV.le {g' : G} {v : AVal} {x : Value} (h : Le g w g' w) (t : ReadV g w v x) : ReadV g' w v x := by
  cases v with
  | vec l o =>
    obtain ⟨t, hz⟩ := t
    rcases t with t | ⟨b, o, cap, k, vs, h1, h2, h3, h4, h5, h6⟩
    · exact ⟨.inl t, hz⟩
    · exact ⟨.inr ⟨b, o, cap, k, vs, h1, h2, h3.le h, h4, h5, h6⟩, hz⟩
  | _ => exact RelV.le h t

variable (hi : Inv B g w H) (he : EnvOK g w d env (tmOf a)) (hs : Sub e env)
include hi he hs

theorem takeN_ok {s : Operand} {l : List AVal} {ow : Own} {ups : List (Nat × AVal)} {gone : List Nat} (h : takeN e s = some (l, ow, ups, gone)) :
    ∃ g1, Turn d B g g1 w H ∧ EnvOK g1 w d (esets (kills gone env) ups) (tmOf a) ∧ HoldT g1 w (.slot (d + 1) 0) l ow (a.eval s) := by
  unfold takeN at h
  split at h
  · rename_i l0 hr
    cases h
    have hrel := rawv_rel he (rawv_sub hs hr) trivial (by simp) (by simp) (by simp)
    refine ⟨g, .refl hi, he, hrel, ?_⟩
    have := @RelV.hold g w (.slot (d + 1) 0) _ _ hrel (by simp) (by simp)
    exact this.2
  · rename_i l0 hr
    cases h
    have hrel := rawv_rel he (rawv_sub hs hr) trivial (by simp) (by simp) (by simp)
    refine ⟨g, .refl hi, he, ?_⟩
    generalize a.eval s = z at hrel
    cases hrel with
    | vecE _ ad cap hc hz =>
      obtain ⟨rfl, rfl⟩ := hz rfl
      exact ⟨.vecE _ _ _ fun _ => rfl, none, 0, 0, rfl, .inl rfl⟩
    | vec _ _ _ _ _ _ _ _ hz => exact absurd rfl hz
  · rename_i l0 k hr
    cases s with
    | tmp j =>
      simp only [] at h
      cases h
      have hr' := rawv_sub hs hr
      obtain ⟨hx1, _⟩ := rawv_slot he hr'
      obtain ⟨g1, y, k1, k2, k3, k4, _⟩ := take_ex he hi hr' (.slot (d + 1) 0)
      rw [k1] at hx1; cases hx1
      exact ⟨g1, k2, k3, k4⟩
    | _ => cases h
  · rename_i l0 k hne hr
    cases s with
    | tmp j =>
      simp only [] at h
      cases h
      have hr' := rawv_sub hs hr
      obtain ⟨hx1, _⟩ := rawv_slot he hr'
      obtain ⟨g1, y, k1, k2, k3, k4, k5⟩ := take_tip he hi hr' (.slot (d + 1) 0)
      rw [k1] at hx1; cases hx1
      exact ⟨g1, k2, k3, k4, k5⟩
    | _ => cases h
  · rename_i i hr
    cases s with
    | tmp j =>
      have hr' := rawv_sub hs hr
      obtain ⟨hx1, l1, o1, hs1, hs2⟩ := rawv_slot he hr'
      split at h
      · rename_i l0 k hl
        cases h
        obtain ⟨g1, y, k1, k2, k3, k4, _⟩ := take_ex he hi (hs i _ hl) (.slot (d + 1) 0)
        rw [k1] at hs2; cases hs2
        exact ⟨g1, k2, k3, k4⟩
      · rename_i l0 k hl
        cases h
        obtain ⟨g1, y, k1, k2, k3, k4, k5⟩ := take_tip he hi (hs i _ hl) (.slot (d + 1) 0)
        rw [k1] at hs2; cases hs2
        exact ⟨g1, k2, k3, k4, k5⟩
      · cases h
    | _ => exact absurd (rawv_const (g := g) (w := w) (a := a) (by simp) (rawv_sub hs hr)).noBor.1 (by simp)
  · cases h

omit hs in
/-- the last step: what was taken goes to the operation's slot -/
theorem settle {o : Oper} {H' : Heap} {wr : List Nat} {g2 : G} {w2 : World} {ups : List (Nat × AVal)} {gone : List Nat} {v : AVal} {x : Value} (hr : (execOp a.eval o).run P w = .ok (.value x) w2) (hp : Post d B g w H g2 w2 H' wr nobody) (h2 : EnvOK g2 w2 d (esets (kills gone env) ups) (tmOf a))
    (hv : HoldOK g2 w2 (.slot (d + 1) 0) v x) (h3 : ∀ vs, v ≠ .tup vs) (h4 : ∀ j, v ≠ .bor j) (h5 : ∀ j p q, v ≠ .sptr j p q) : OpOK P d B env g w H a o ⟨⟨ups, gone, v, none⟩, H', wr⟩ nobody := by
  refine ⟨g2.remap (give1to (.slot (d + 1) 0) (.slot d (o.dst.getD 0))), w2, x, .inl hr, ?_, ?_, fun t ht => ?_, fun id off h => by cases h⟩
  · have q := hp.trans (turn_remap (d := d) (σ := give1to (.slot (d + 1) 0) (.slot d (o.dst.getD 0))) hp.inv (fun id off => give_ne (by simp)) (give_foreign not_foreign_tmp)).post
    exact q.mono (by simp) (by simp [nobody])
  · exact h2.remap (fun i v _ => .inl (give_ne (by simp))) fun i vs' _ j' v' _ => .inl (give_ne (by simp))
  · have e3 : o.dst.getD 0 = t := by rw [ht]; rfl
    have := hv.remap (σ := give1to (.slot (d + 1) 0) (.slot d (o.dst.getD 0)))
    rw [give_same, e3] at this
    rw [e3]
    cases v with
    | tup vs => exact absurd rfl (h3 _)
    | bor j => exact absurd rfl (h4 _)
    | sptr j p q => exact absurd rfl (h5 _ _ _)
    | _ => exact this

theorem appendN_ok {o : Oper} {c : Call} {out : Out} (ho : o.op = .call c) (hb : c.callee = .builtin .append) (h : appendN P e c = some out) : OpOK P d B env g w H a o ⟨out, H, []⟩ nobody := by
  obtain ⟨cs0, hrun⟩ := execOp_builtin (a := a) (P := P) ho hb w
  unfold appendN at h
  split at h
  case h_2 => cases h
  rename_i s x t r hargs htypes
  split at h
  · cases h
  · rename_i hrow
    have hrow : rowArg P r = true := by simpa using hrow
    split at h
    case h_2 => cases h
    rename_i xs l ow ups gone hx htk
    obtain ⟨u, hu, hxs⟩ := Option.bind_eq_some_iff.1 hx
    split at h
    case h_2 => cases h
    rename_i v hv
    cases h
    obtain ⟨g1, t1, e1, ht⟩ := takeN_ok hi he hs htk
    have hread := (ev_read he (ev_sub hs hu)).le t1.step.le
    obtain ⟨g2, w2, x2, hr2, p2, e2, hh⟩ := grow_ok (P := P) (xe := undef) t1.inv e1 ht hv hread hxs o.type
    rw [args_two hargs] at hrun
    simp only [builtin] at hrun
    have hrun' : (execOp a.eval o).run P w = .ok (.value x2) w2 := by
      rw [hrun, Sem.run_bind, append_types htypes hrow, hr2]
      rfl
    have hvv : ∃ l' ow', v = .vec l' ow' := by
      unfold growE at hv
      split at hv
      · split at hv
        · split at hv
          · cases hv; exact ⟨_, _, rfl⟩
          · split at hv
            · cases hv; exact ⟨_, _, rfl⟩
            · cases hv
        · cases hv
      · cases hv
    obtain ⟨l', ow', rfl⟩ := hvv
    exact settle hi he hrun' ((t1.post.trans p2).mono (by simp) (by simp [nobody])) e2 hh (by simp) (by simp) (by simp)
end
end Go.Abs
end

section
/- An object is written. -/
namespace Go.Abs
open Go
set_option linter.unusedSimpArgs false
set_option linter.unusedVariables false
set_option linter.unusedSectionVars false

theorem hset_length (H : Heap) (id : Nat) (o : AObj) : (hset H id o).length = H.length := by simp [hset]
theorem hget_hset {H : Heap} {id : Nat} (h : id < H.length) (o : AObj) (i : Nat) : hget (hset H id o) i = if i = id then some o else hget H i := by
  unfold hget hset
  simp only [List.length_set]
  by_cases hi : i < H.length
  · rw [if_pos hi]
    by_cases e : i = id
    · subst e
      rw [if_pos rfl, List.getElem?_set_self (by omega)]
    · rw [if_neg e, List.getElem?_set_ne (by omega), if_pos hi]
  · rw [if_neg hi, if_neg hi]
    split
    · omega
    · rfl

section
variable {P : Program} {d B b : Nat} {env e : Env} {g : G} {w w' : World} {H : Heap} {a : Act} {tm : Nat → Option Value}
/-- AN OBJECT's BLOCK TURNS. -/
theorem obj_upd (hi : Inv B g w H) {id : Nat} (hr : g.rho id = some b) (u : Upd b w w') {ob : AObj} (hob : ObjOK g w' id b ob) :
    Post d B g w H g w' (hset H id ob) [id] nobody ∧ ∀ {env : Env} {tm : Nat → Option Value}, EnvOK g w d env tm → EnvOK g w' d env tm := by
  obtain ⟨hlt, hB, hbs, hext, how⟩ := hi.rho id b hr
  have hcc : ∀ i, i < g.ext b → w'.cell? ⟨b, i, none⟩ = w.cell? ⟨b, i, none⟩ := fun i hi => by rw [hext] at hi; omega
  have hchg := u.chg hcc
  refine ⟨⟨hchg.step (.inr (.inl ⟨id, hr⟩)), ?_, by rw [hset_length]; exact Nat.le_refl _, fun i hl hn _ => ⟨hn, ?_⟩, fun i b' hr' hw => ?_⟩, fun he => he.chg hi hchg (fun i e => by rw [how] at e; cases e) fun i j e => by rw [how] at e; cases e⟩
  · exact {
      rho := fun i b' h => by have := hi.rho i b' h; rw [u.size, hset_length]; exact this
      inj := hi.inj
      ext := fun b' h => by rw [u.size]; exact hi.ext b' h
      ow := fun b' o' h => by rw [u.size]; exact hi.ow b' o' h
      obj := fun i ob' b' hg hr' => by
        rw [hget_hset hlt] at hg
        split at hg
        · rename_i e; subst e
          cases hg
          rw [hr] at hr'; cases hr'
          exact hob
        · rename_i e
          have hne : b' ≠ b := by rintro rfl; exact e (hi.inj _ _ _ hr' hr)
          exact (hi.obj i ob' b' hg hr').chg hi hchg (u.oth b' hne) fun off e => by rw [how] at e; cases e
      base := by rw [u.size]; exact hi.base }
  · rw [hget_hset hlt, if_neg]
    rintro rfl; rw [hr] at hn; cases hn
  · refine u.oth b' ?_
    rintro rfl
    exact hw (by rw [hi.inj _ _ _ hr' hr]; simp)
theorem hset_same {H : Heap} {id : Nat} {o : AObj} (h : hget H id = some o) : hset H id o = H := by
  have hlt := hget_lt h
  unfold hget at h
  rw [if_pos hlt] at h
  unfold hset
  obtain ⟨h1, h2⟩ := List.getElem?_eq_some_iff.1 h
  rw [← h2]
  exact List.set_getElem_self h1
theorem isEmpty_toList (es : Array MapEntry) : es.isEmpty = es.toList.isEmpty := by cases es; simp
theorem EntsOK.erase {es : List (AVal × AVal)} {ms : List MapEntry} (h : EntsOK g w es ms) (i : Nat) : EntsOK g w (es.eraseIdx i) (ms.eraseIdx i) := by
  refine ⟨by simp [List.length_eraseIdx, h.1], fun j e hj => ?_⟩
  rw [List.getElem?_eraseIdx] at hj ⊢
  split at hj
  · rename_i hlt; rw [if_pos hlt]; exact h.2 j e hj
  · rename_i hlt; rw [if_neg hlt]; exact h.2 (j + 1) e hj
theorem setObj_run {r : Nat} {es : Array MapEntry} {clock : Nat} (o : Obj) (hb : w.heap[r]? = some (.map es clock)) : (setObj r o).run P w = .ok () { w with heap := w.heap.setIfInBounds r o } := by
  simp [setObj, Sem.run, hb]
theorem setObj_upd {r : Nat} {o' : Obj} (hb : w.heap[r]? = some o') (o : Obj) : Upd r w { w with heap := w.heap.setIfInBounds r o } ∧ (w.heap.setIfInBounds r o)[r]? = some o := by
  have hlt : r < w.heap.size := (Array.getElem?_eq_some_iff.1 hb).1
  exact ⟨⟨fun b' e => by rw [Array.getElem?_setIfInBounds_ne (Ne.symm e)], by simp, rfl, rfl, rfl⟩, by simp [hlt]⟩

variable (hi : Inv B g w H) (he : EnvOK g w d env (tmOf a)) (hs : Sub e env)
include hi he hs
theorem delete_ok {o : Oper} {c : Call} {oc : OutC} (ho : o.op = .call c) (hb : c.callee = .builtin .delete) (h : deleteE P e H c = some oc) : OpOK P d B env g w H a o oc nobody := by
  obtain ⟨cs0, hrun⟩ := execOp_builtin (a := a) (P := P) ho hb w
  unfold deleteE at h
  split at h
  case h_2 => cases h
  rename_i t r id ka htypes hargs
  obtain ⟨k1, k2⟩ := evAll_get hargs
  have hargs' : ∃ x y, c.args.toList = [x, y] := by
    match hl : c.args.toList, k1 with
    | [x, y], _ => exact ⟨x, y, rfl⟩
  obtain ⟨x, y, hxy⟩ := hargs'
  rw [hxy] at k2
  obtain ⟨v1, hv1, hx⟩ := k2 0 x rfl
  obtain ⟨v2, hv2, hy⟩ := k2 1 y rfl
  cases hv1; cases hv2
  split at h
  case h_2 => cases h
  rename_i kt et kv es st hu hkv hg
  have e1 := ev_rel he (ev_sub hs hx) (by simp)
  have hk := toV_read (ev_read he (ev_sub hs hy)) hkv
  generalize hz : a.eval x = z at e1
  cases e1 with
  | map hr =>
    rename_i b
    obtain ⟨ents, hbm, hents, hborn⟩ := map_ents (hi.obj _ _ _ hg hr)
    obtain ⟨h0, _⟩ := types_head htypes
    rw [args_two hxy] at hrun
    simp only [builtin] at hrun
    have fin : ∀ (es' : List (AVal × AVal)) (bs' : List Nat) (ents' : Array MapEntry), EntsOK g w es' ents'.toList → ents'.toList.map MapEntry.born = bs' →
        (Builtin.delete_ c.argTypes o.type #[a.eval x, a.eval y]).run P w = .ok (.tuple #[]) { w with heap := w.heap.setIfInBounds b (.map ents' st.cl) } → OpOK P d B env g w H a o ⟨⟨[], [], deadV, none⟩, hset H id (.map es' ⟨bs', st.cl⟩), [id]⟩ nobody := by
      intro es' bs' ents' hes hbs hr'
      obtain ⟨u, hat⟩ := setObj_upd hbm (.map ents' st.cl)
      have hle : Le g w g { w with heap := w.heap.setIfInBounds b (.map ents' st.cl) } := (u.chg fun i hi' => by
        rw [(hi.rho id b hr).2.2.2.1] at hi'; omega).le
      obtain ⟨p, q⟩ := obj_upd (d := d) hi hr u (ob := .map es' ⟨bs', st.cl⟩) ⟨ents', st.cl, hat, ⟨by have := hes.1; simpa using this, rfl, hbs⟩, fun j e' hj => by
        obtain ⟨m, hm, m1, m2⟩ := hes.2 j e' hj
        exact ⟨m, by rw [← Array.getElem?_toList]; exact hm, m1.le hle, m2.le hle⟩⟩
      exact ⟨g, _, .tuple #[], .inl (by rw [hrun, Sem.run_bind, hr']; rfl), p, q he, fun t _ => dead_slot, fun id off h => by cases h⟩
    split at h
    · rename_i i hf
      cases h
      obtain ⟨hc, q, hq, m, hm, rfl⟩ := find_ok (P := P) hents hf
      refine fin (es.eraseIdx i) (st.bs.eraseIdx i) (ents.eraseIdxIfInBounds i) ?_ ?_ ?_
      · rw [Array.toList_eraseIdxIfInBounds]
        exact hents.erase i
      · rw [Array.toList_eraseIdxIfInBounds, ← hborn]
        refine List.ext_getElem? fun j => ?_
        rw [List.getElem?_map, List.getElem?_eraseIdx, List.getElem?_eraseIdx, List.getElem?_map, List.getElem?_map]
        split <;> rfl
      · unfold Builtin.delete_
        simp only [h0, hz, hk, List.getElem?_toArray, List.getElem?_cons_zero, List.getElem?_cons_succ, Sem.run_bind, run_underlying hu, Result.andThen_ok, getMap_run hbm, isEmpty_toList, hc, hq, setObj_run _ hbm, Sem.run_pure]
    · rename_i hf
      cases h
      obtain ⟨hc, q, hq, rfl⟩ := find_ok (P := P) hents hf
      have := fin es st.bs ents hents hborn (by
        unfold Builtin.delete_
        simp only [h0, hz, hk, List.getElem?_toArray, List.getElem?_cons_zero, List.getElem?_cons_succ, Sem.run_bind, run_underlying hu, Result.andThen_ok, getMap_run hbm, isEmpty_toList, hc, hq, setObj_run _ hbm, Sem.run_pure])
      rwa [hset_same hg] at this
    · cases h
end
end Go.Abs
end

section
/- Maps and variables are written. -/
namespace Go.Abs
open Go
set_option linter.unusedSimpArgs false
set_option linter.unusedVariables false
set_option linter.unusedSectionVars false

section
variable {P : Program} {d B b : Nat} {env e : Env} {g : G} {w w' : World} {H : Heap} {a : Act} {tm : Nat → Option Value}
theorem EntsOK.le {g' : G} {es : List (AVal × AVal)} {ms : List MapEntry} (hle : Le g w g' w') (h : EntsOK g w es ms) : EntsOK g' w' es ms :=
  ⟨h.1, fun j e hj => by obtain ⟨m, h1, h2, h3⟩ := h.2 j e hj; exact ⟨m, h1, h2.le hle, h3.le hle⟩⟩
theorem EntsOK.set {es : List (AVal × AVal)} {ms : List MapEntry} (h : EntsOK g w es ms) (i : Nat) {ka v : AVal} {m : MapEntry} (hk : RelV g w ka m.key) (hv : RelV g w v m.val) : EntsOK g w (es.set i (ka, v)) (ms.set i m) := by
  refine ⟨by simp [h.1], fun j e hj => ?_⟩
  rw [List.getElem?_set] at hj ⊢
  rw [h.1]
  split at hj
  · rename_i e3; rw [if_pos e3]
    split at hj
    · rename_i hl; rw [if_pos hl]; cases hj; exact ⟨m, rfl, hk, hv⟩
    · cases hj
  · rename_i e3; rw [if_neg e3]; exact h.2 j e hj
theorem EntsOK.push {es : List (AVal × AVal)} {ms : List MapEntry} (h : EntsOK g w es ms) {ka v : AVal} {m : MapEntry} (hk : RelV g w ka m.key) (hv : RelV g w v m.val) : EntsOK g w (es ++ [(ka, v)]) (ms ++ [m]) := by
  refine ⟨by simp [h.1], fun j e hj => ?_⟩
  rcases Nat.lt_or_ge j es.length with hlt | hge
  · rw [List.getElem?_append_left hlt] at hj
    rw [List.getElem?_append_left (by rw [h.1]; exact hlt)]
    exact h.2 j e hj
  · rw [List.getElem?_append_right hge] at hj
    rw [List.getElem?_append_right (by rw [h.1]; exact hge), h.1]
    cases hjj : j - es.length with
    | zero => rw [hjj] at hj; cases hj; exact ⟨m, rfl, hk, hv⟩
    | succ n => rw [hjj] at hj; simp at hj

variable (hi : Inv B g w H) (he : EnvOK g w d env (tmOf a)) (hs : Sub e env)
include hi he hs
theorem mapPut_ok {o : Oper} {t : TypeId} {m k x : Operand} {oc : OutC} (ho : o.op = .mapUpdate t m k x ∨ o.op = .insert t m k x) (h : mapPutE P e H t m k x = some oc) : OpOK P d B env g w H a o oc nobody := by
  have hrun : (execOp a.eval o).run P w = ((Instr.mapUpdate t (a.eval m) (a.eval k) (a.eval x)).run P w).andThen fun _ w' => .ok .skip w' := by
    rcases ho with ho | ho <;> (simp only [execOp, ho, Sem.run_bind, Sem.run_pure])
  unfold mapPutE at h
  split at h
  case h_2 => cases h
  rename_i kt et id ka v hu hm hk hx
  split at h
  case h_2 => cases h
  rename_i kv es st hkv hg
  rw [esc_sub hs hx] at h
  have hx' := ev_sub hs hx
  have fr := frees_esc env x
  obtain ⟨g1, f, k1, k2⟩ := freeze_ups he hi (.refl env) fr
  have hro := read_frozen fr k1 k2 hx' fun _ h => h
  have hval : RelV g1 w (strip v) (a.eval x) := by rw [← strip_ro (ev_noTup hx')]; exact hro.strip
  have e1 := (ev_rel he (ev_sub hs hm) (by simp)).le f.step.le
  have hkr := ev_read he (ev_sub hs hk)
  have hkey := toV_read hkr hkv
  have hkn : ∀ l o, ka ≠ .vec l o := fun l o e3 => by subst e3; cases hkv
  have hkrel : RelV g1 w ka kv := by have := (hkr.plain hkn).le f.step.le; rwa [hkey] at this
  generalize hz : a.eval m = z at e1
  cases e1 with
  | map hr =>
    rename_i b
    obtain ⟨ents, hbm, hents, hborn⟩ := map_ents (f.inv.obj _ _ _ hg hr)
    have fin : ∀ (es' : List (AVal × AVal)) (st' : Stamp) (ents' : Array MapEntry), EntsOK g1 w es' ents'.toList → ents'.toList.map MapEntry.born = st'.bs →
        (Instr.mapUpdate t (a.eval m) (a.eval k) (a.eval x)).run P w = .ok () { w with heap := w.heap.setIfInBounds b (.map ents' st'.cl) } → OpOK P d B env g w H a o ⟨⟨esc env x, [], deadV, none⟩, hset H id (.map es' st'), [id]⟩ nobody := by
      intro es' st' ents' hes hbs hr'
      obtain ⟨u, hat⟩ := setObj_upd hbm (.map ents' st'.cl)
      have hle : Le g1 w g1 { w with heap := w.heap.setIfInBounds b (.map ents' st'.cl) } := (u.chg fun i hi' => by
        rw [(f.inv.rho id b hr).2.2.2.1] at hi'; omega).le
      obtain ⟨p, q⟩ := obj_upd (d := d) f.inv hr u (ob := .map es' st') ⟨ents', st'.cl, hat, ⟨by have := hes.1; simpa using this, rfl, hbs⟩, fun j e' hj => by
        obtain ⟨m, hm, m1, m2⟩ := hes.2 j e' hj
        exact ⟨m, by rw [← Array.getElem?_toList]; exact hm, m1.le hle, m2.le hle⟩⟩
      exact ⟨g1, _, undef, .inr ⟨by rw [hrun, hr']; rfl, rfl⟩, (f.post.trans p).mono (by simp) (by simp [nobody]), q k1, fun t _ => dead_slot, fun id off h => by cases h⟩
    split at h
    · rename_i i hf
      split at h
      case h_2 => cases h
      rename_i ke hke
      split at h
      case isFalse => cases h
      rename_i hsame
      cases h
      obtain ⟨en, hen, hke⟩ := Option.bind_eq_some_iff.1 hke
      obtain ⟨hc, q, hq, mm, hmm, rfl⟩ := find_okE (P := P) hents hf
      obtain ⟨m', hm', hk', _⟩ := hents.2 i en hen
      rw [hmm] at hm'; cases hm'
      have hold : mm.key = ke := toV_rel hk' hke
      have hset' : (ents.modify i fun e => { e with key := kv, val := a.eval x }).toList = ents.toList.set i { mm with key := kv, val := a.eval x } := by
          rw [Array.toList_modify]
          refine List.ext_getElem? fun j => ?_
          rw [List.getElem?_modify, List.getElem?_set]
          by_cases e3 : i = j
          · subst e3
            have hlt := (List.getElem?_eq_some_iff.1 hmm).1
            rw [if_pos rfl, if_pos hlt, hmm]
            simp
          · rw [if_neg e3]; simp [e3]
      refine fin _ st (ents.modify i fun e => { e with key := kv, val := a.eval x }) ?_ ?_ ?_
      · rw [hset']
        exact hents.set i hkrel hval
      · rw [hset', List.map_set, ← hborn]
        refine List.ext_getElem? fun j => ?_
        rw [List.getElem?_set]
        split
        · rename_i e3
          subst e3
          have hlt := (List.getElem?_eq_some_iff.1 hmm).1
          rw [if_pos (by simpa using hlt), List.getElem?_map, hmm]
          rfl
        · rfl
      · have hei : (ents[i]?.map (·.key)).getD kv = ke := by
          rw [← Array.getElem?_toList, hmm]; exact hold
        unfold Instr.mapUpdate
        simp only [Sem.run_bind, run_underlying hu, Result.andThen_ok, hz, hkey, getMap_run hbm, hc, hq, hei, Instr.keyThatStays, hsame, if_true, Sem.run_pure, setObj_run _ hbm]
    · rename_i hf
      cases h
      obtain ⟨hc, q, hq, rfl⟩ := find_okE (P := P) hents hf
      refine fin _ ⟨st.bs ++ [st.cl], st.cl + 1⟩ (ents.push { key := kv, val := a.eval x, born := st.cl }) ?_ ?_ ?_
      · rw [Array.toList_push]
        exact hents.push hkrel hval
      · rw [Array.toList_push, List.map_append, hborn]
        rfl
      · unfold Instr.mapUpdate
        simp only [Sem.run_bind, run_underlying hu, Result.andThen_ok, hz, hkey, getMap_run hbm, hc, hq, setObj_run _ hbm]
    · cases h
end
end Go.Abs
end

section
/- Elements are written in place. -/
namespace Go.Abs
open Go
set_option linter.unusedSimpArgs false
set_option linter.unusedVariables false
set_option linter.unusedSectionVars false

section
variable {P : Program} {d B b : Nat} {env e : Env} {g : G} {w w' : World} {H : Heap} {a : Act} {tm : Nat → Option Value}
/-- Cells of a slot's own slice are written. -/
theorem write_slot (he : EnvOK g w d env tm) (hi : Inv B g w H) {i : Nat} {l l' : List AVal} {k o q : Nat} {cap : Nat} {us news : List Value} {x : Value} (hgi : eget env i = some (.vec l (.ex k))) (hx : tm i = some x)
    (hxe : x = .slice (some ⟨b, o, none⟩) l.length cap) (hk : k ≠ 0) (hcap : l.length ≤ cap) (how : g.ow b = some (.slot d i)) (hext : g.ext b = 0) (hlen : l'.length = l.length) (hu : ∀ e ∈ l, e.cells.length = k) (hu' : ∀ e ∈ l', e.cells.length = k)
    (hl : RelL g w (l'.flatMap AVal.cells) us) (h1 : One us) (hr : (w.setCells b q news).rangeAt b o us) (ht : Room w b o (cap * k)) :
    Post d B g w H g (w.setCells b q news) H [] nobody ∧ EnvOK g (w.setCells b q news) d (eset env i (.vec l' (.ex k))) tm := by
  have hupd := setCells_upd news w b q
  have hcc : ∀ j, j < g.ext b → (w.setCells b q news).cell? ⟨b, j, none⟩ = w.cell? ⟨b, j, none⟩ := fun j hj => by rw [hext] at hj; omega
  have hp := hupd.post (d := d) hi how not_foreign_slot (by simp) hcc
  refine ⟨hp, he.turn hi (hupd.chg hcc) (fun j hj e3 => by rw [how] at e3; cases e3; exact hj rfl) (fun j p e3 => by rw [how] at e3; cases e3) hgi hx hlen (fun m hm e' he' => ?_) ?_⟩
  · cases l with
    | nil =>
      have : l' = [] := List.eq_nil_of_length_eq_zero (by simpa using hlen)
      subst this; cases he'
    | cons v r => rw [hu' e' he', ← hm v (by simp), hu v (by simp)]
  · exact ⟨_, cap, by rw [hxe, hlen], .inr ⟨hk, by omega, b, o, us, rfl, how, hext, hu', hl.le hp.step.le, h1, hr, ht.setCells _ _⟩⟩

/-- the first elements of what is copied -/
theorem src_first {v : AVal} {x : Value} {xs : List AVal} {k : Nat} (hr : ReadV g w v x) (hx : elemsOf v = some xs) (hk : headOk k xs = true) (n : Nat) (hn : n ≤ xs.length) :
    ∃ news, (Builtin.lenOf x).run P w = .ok xs.length w ∧ (Builtin.firstCells k n x).run P w = .ok news.toArray w ∧ RelL g w ((xs.take n).flatMap AVal.cells) news ∧ One news ∧ (∀ e ∈ xs, e.cells.length = k) ∧ news.length = n * k := by
  cases v with
  | vec l o =>
    simp only [elemsOf] at hx
    cases hx
    rcases hr with ⟨rfl, ad, cap, rfl⟩ | ⟨b, p, cap, k', vs, rfl, hu, hl, h1, hh, hc⟩
    · have : n = 0 := by simpa using hn
      subst this
      refine ⟨[], rfl, ?_, .nil, (by intro x hx; cases hx), by simp, by simp⟩
      cases ad with
      | none => rfl
      | some ad => simp [Builtin.firstCells, loadCells, loadCellsFrom]
    · have hu := headOk_uni hu hk
      have hvl : vs.length = xs.length * k := by rw [← hl.length, flat_length hu]
      have hnk : n * k ≤ xs.length * k := Nat.mul_le_mul_right k hn
      have hlen : (vs.take (n * k)).length = n * k := by rw [List.length_take]; omega
      refine ⟨vs.take (n * k), rfl, ?_, ?_, fun x hx => h1 x (List.mem_of_mem_take hx), hu, hlen⟩
      · simp only [Builtin.firstCells]
        have := run_loadCells_list (P := P) w ⟨b, p, none⟩ (vs.take (n * k)) fun j u hj => by
          rw [Addr.add_mid]
          rw [List.getElem?_take] at hj
          split at hj
          · exact hh j u hj
          · cases hj
        rwa [hlen] at this
      · rw [flat_take hu]; exact hl.take _
  | str s =>
    simp only [elemsOf] at hx
    cases hx
    have hr := hr.plain (by simp)
    cases hr
    obtain ⟨b1, b2, b3⟩ := bytes_rel s g w
    have hk1 := headOk_uni b3 hk
    have hlen := bytesE_length s
    rw [hlen] at hn
    refine ⟨(s.take n).map fun b => Value.int .u8 b.toNat, ?_, ?_, ?_, fun x hx => ?_, hk1, ?_⟩
    · rw [hlen]; rfl
    · simp only [Builtin.firstCells, Sem.run_pure]
      congr 1
      have : (⟨s.toArray⟩ : ByteArray).extract 0 n = ⟨(s.take n).toArray⟩ := by
        apply ByteArray.ext
        rw [ByteArray.data_extract]
        apply Array.ext'
        simp
      rw [this]
      apply Array.ext'
      simp
    · have := bytes_rel (s.take n) g w
      have e3 : (bytesE s).take n = bytesE (s.take n) := by simp [bytesE, List.map_take]
      rw [e3]
      exact this.1
    · obtain ⟨b, _, rfl⟩ := List.mem_map.1 hx
      rfl
    · rw [List.length_map, List.length_take]
      cases hs0 : s with
      | nil => subst hs0; simp at hn; subst hn; simp
      | cons b r =>
        have := hk1 (.int .u8 b.toNat) (by rw [hs0]; simp [bytesE])
        simp only [AVal.cells, List.length_cons, List.length_nil] at this
        subst hs0
        rw [← this]; omega
  | _ => cases hx

variable (hi : Inv B g w H) (he : EnvOK g w d env (tmOf a)) (hs : Sub e env)
include hi he hs
theorem copy_ok {o : Oper} {c : Call} {out : Out} (ho : o.op = .call c) (hb : c.callee = .builtin .copy) (h : copyE P e c = some out) : OpOK P d B env g w H a o ⟨out, H, []⟩ nobody := by
  obtain ⟨cs0, hrun⟩ := execOp_builtin (a := a) (P := P) ho hb w
  unfold copyE at h
  split at h
  case h_2 => cases h
  rename_i s x t r hargs htypes
  split at h
  case h_2 => cases h
  rename_i elem i xs hu hsr hx
  obtain ⟨u, huv, hxs⟩ := Option.bind_eq_some_iff.1 hx
  split at h
  case h_2 => cases h
  rename_i l m rr hl hrr
  split at h
  case isFalse => cases h
  rename_i hcond
  obtain ⟨rfl, hk1, hk2, _, _, hue⟩ := hcond
  obtain ⟨dd, hue⟩ := Option.isSome_iff_exists.1 hue
  cases h
  rw [args_two hargs] at hrun
  simp only [builtin] at hrun
  cases s with
  | tmp j =>
    obtain ⟨hx1, l1, o1, hs1, hs2⟩ := rawv_slot he (rawv_sub hs hsr)
    have hl' := hs i _ hl
    obtain ⟨y, hy, hsl⟩ := he i _ hl'
    rw [hs2] at hy; cases hy
    have hex : ExOK g w (.slot d i) l (P.cellsOf elem) (a.eval (.tmp j)) := by simpa [SlotOK, HoldOK] using hsl
    have hread := ev_read he (ev_sub hs huv)
    obtain ⟨news, n1, n2, n3, n4, n5, n6⟩ := src_first (P := P) hread hxs hk2 (min xs.length l.length) (Nat.min_le_left _ _)
    obtain ⟨h0, _⟩ := types_head htypes
    obtain ⟨ad, cap, hz, hcase⟩ := hex
    have hmin : Nat.min xs.length l.length = min xs.length l.length := rfl
    rcases hcase with ⟨rfl, rfl⟩ | ⟨hk0, hc, b, p, vs, rfl, how, hext, hun, hrel, h1, hr, ht⟩
    · have hn0 : min xs.length ([] : List AVal).length = 0 := by simp
      rw [hn0] at n2
      have hnews : news = [] := by
        have : news.length = 0 := by rw [n6]; simp
        exact List.eq_nil_of_length_eq_zero this
      subst hnews
      have hr' : (execOp a.eval o).run P w = .ok (.value (.int .i64 (0 : Nat))) w := by
        rw [hrun, hz]
        unfold Builtin.copy_
        simp only [h0, List.getElem?_toArray, List.getElem?_cons_zero, List.getElem?_cons_succ, Sem.run_bind, run_underlying hu, Result.andThen_ok, n1, sizeOf_run hue, List.length_nil]
        rw [show Nat.min xs.length 0 = 0 from Nat.min_zero _, n2]
        cases ad <;> rfl
      rw [← hn0] at hr'
      refine ⟨g, w, _, .inl hr', .refl hi, he.ext fun q => ?_, fun t _ => slot_ro (.int _ _) (by simp) (by simp) (by simp) (by simp) (by simp), fun id off h => by cases h⟩
      simp only [esets, kills_nil]
      rw [eget_eset]
      split
      · rename_i e3; subst e3; rw [hl']; simp
      · rfl
    · have hmle : min xs.length l.length ≤ l.length := Nat.min_le_right _ _
      have hvl : vs.length = l.length * P.cellsOf elem := by rw [← hrel.length, flat_length hun]
      have hmk : min xs.length l.length * P.cellsOf elem ≤ l.length * P.cellsOf elem := Nat.mul_le_mul_right _ hmle
      have hck : l.length * P.cellsOf elem ≤ cap * P.cellsOf elem := Nat.mul_le_mul_right _ hc
      have hth := there_sub ht.1 0 news.length (by omega)
      rw [Nat.add_zero] at hth
      have hst := run_storeCells_cells (P := P) b p news 0 w (fun j hj => by simpa using (hth j hj).1) (fun j hj => by simpa using (hth j hj).2) n4
      simp only [Nat.add_zero] at hst
      have hr' : (execOp a.eval o).run P w = .ok (.value (.int .i64 (min xs.length l.length : Nat))) (w.setCells b p news) := by
        rw [hrun, hz]
        unfold Builtin.copy_
        simp only [h0, List.getElem?_toArray, List.getElem?_cons_zero, List.getElem?_cons_succ, Sem.run_bind, run_underlying hu, Result.andThen_ok, n1, sizeOf_run hue]
        rw [show Nat.min xs.length l.length = min xs.length l.length from rfl, n2]
        simp only [Result.andThen_ok, hst]
        rfl
      have hlen' : (xs.take (min xs.length l.length) ++ l.drop (min xs.length l.length)).length = l.length := by
        rw [List.length_append, List.length_take, List.length_drop]; omega
      have hun' : ∀ e ∈ xs.take (min xs.length l.length) ++ l.drop (min xs.length l.length), e.cells.length = P.cellsOf elem := fun e he => by
        rcases List.mem_append.1 he with he | he
        · exact n5 e (List.mem_of_mem_take he)
        · exact hun e (List.mem_of_mem_drop he)
      obtain ⟨p1, p2⟩ := write_slot (l' := xs.take (min xs.length l.length) ++ l.drop (min xs.length l.length)) (q := p) (news := news) (us := news ++ vs.drop (min xs.length l.length * P.cellsOf elem)) he hi hl' hs2 hz hk0 hc how hext hlen' hun hun'
        (by rw [List.flatMap_append, flat_drop hun]; exact n3.append (hrel.drop _))
        (fun x hx => by
          rcases List.mem_append.1 hx with hx | hx
          · exact n4 x hx
          · exact h1 x (List.mem_of_mem_drop hx))
        (range_append (World.rangeAt_setCells_same w b p news hth) (by
          have h7 := rangeAt_sub hr (min xs.length l.length * P.cellsOf elem) (vs.length)
          rw [List.take_of_length_le (by rw [List.length_drop]; omega)] at h7
          rw [n6]
          exact World.rangeAt_setCells_apart h7 b p news (.inr (.inr (by omega)))))
        ht
      exact ⟨g, _, _, .inl hr', p1, p2, fun t _ => slot_ro (.int _ _) (by simp) (by simp) (by simp) (by simp) (by simp), fun id off h => by cases h⟩
  | _ => exact absurd (rawv_const (g := g) (w := w) (a := a) (by simp) (rawv_sub hs hsr)).noBor.1 (by simp)
end
end Go.Abs
end

section
/- A variable, an element is written; a slice is appended to where it stands. -/
namespace Go.Abs
open Go
set_option linter.unusedSimpArgs false
set_option linter.unusedVariables false
set_option linter.unusedSectionVars false

section lists
theorem putAt_get (vs : List AVal) : ∀ (cs : List AVal) (off j : Nat), (putAt cs off vs)[j]? = if off ≤ j ∧ j < off + vs.length ∧ j < cs.length then vs[j - off]? else cs[j]? := by
  induction vs with
  | nil => intro cs off j; simp only [putAt, List.length_nil]; rw [if_neg (by omega)]
  | cons v r ih =>
    intro cs off j
    rw [putAt, ih, List.length_set, List.length_cons, List.getElem?_set]
    by_cases h1 : j = off
    · subst h1
      rw [if_neg (by omega), if_pos rfl]
      by_cases h2 : j < cs.length
      · rw [if_pos h2, if_pos (by omega), Nat.sub_self]; rfl
      · rw [if_neg h2, if_neg (by omega), List.getElem?_eq_none (by omega)]
    · by_cases h3 : off + 1 ≤ j ∧ j < off + 1 + r.length ∧ j < cs.length
      · rw [if_pos h3, if_pos (by omega), show j - off = (j - (off + 1)) + 1 by omega, List.getElem?_cons_succ]
      · rw [if_neg h3, if_neg (Ne.symm h1), if_neg (by omega)]
theorem putL_get (vs : List Value) : ∀ (cs : List Value) (off j : Nat), (putL cs off vs)[j]? = if off ≤ j ∧ j < off + vs.length ∧ j < cs.length then vs[j - off]? else cs[j]? := by
  induction vs with
  | nil => intro cs off j; simp only [putL, List.length_nil]; rw [if_neg (by omega)]
  | cons v r ih =>
    intro cs off j
    rw [putL, ih, List.length_set, List.length_cons, List.getElem?_set]
    by_cases h1 : j = off
    · subst h1
      rw [if_neg (by omega), if_pos rfl]
      by_cases h2 : j < cs.length
      · rw [if_pos h2, if_pos (by omega), Nat.sub_self]; rfl
      · rw [if_neg h2, if_neg (by omega), List.getElem?_eq_none (by omega)]
    · by_cases h3 : off + 1 ≤ j ∧ j < off + 1 + r.length ∧ j < cs.length
      · rw [if_pos h3, if_pos (by omega), show j - off = (j - (off + 1)) + 1 by omega, List.getElem?_cons_succ]
      · rw [if_neg h3, if_neg (Ne.symm h1), if_neg (by omega)]
theorem putAt_nested {F cs nv : List AVal} {a m off : Nat} (hcs : cs = (F.drop a).take m) (hm : a + m ≤ F.length) (ho : off + nv.length ≤ m) : putAt F a (putAt cs off nv) = putAt F (a + off) nv := by
  have hl : cs.length = m := by rw [hcs, List.length_take, List.length_drop]; omega
  refine List.ext_getElem? fun j => ?_
  rw [putAt_get, putAt_get, putAt_length, putAt_get, hl]
  by_cases h1 : a ≤ j ∧ j < a + m ∧ j < F.length
  · rw [if_pos h1]
    by_cases h2 : off ≤ j - a ∧ j - a < off + nv.length ∧ j - a < m
    · rw [if_pos h2, if_pos (by omega)]
      congr 1
      omega
    · rw [if_neg h2, if_neg (by omega), hcs, List.getElem?_take, if_pos (by omega), List.getElem?_drop]
      congr 1
      omega
  · rw [if_neg h1, if_neg (by omega)]
end lists

section
variable {P : Program} {d B b : Nat} {env e : Env} {g : G} {w w' : World} {H : Heap} {a : Act} {tm : Nat → Option Value}

theorem range_put {o q : Nat} {vs news : List Value} (h : w.rangeAt b o vs) (ht : w.there b (o + q) news.length) (hq : q + news.length ≤ vs.length) : (w.setCells b (o + q) news).rangeAt b o (putL vs q news) := by
  intro j v hj
  rw [putL_get] at hj
  split at hj
  · rename_i hc
    have := World.cell?_setCells_in b news (o + q) w (fun i hi => (ht i hi).1) (j - q) (by omega)
    rw [show o + j = o + q + (j - q) by omega, this, ← hj, List.getElem?_eq_getElem]
  · rename_i hc
    rw [World.cell?_setCells_out]
    · exact h j v hj
    · intro _ _
      have hlt : j < vs.length := by
        rcases Nat.lt_or_ge j vs.length with h1 | h1
        · exact h1
        · rw [List.getElem?_eq_none h1] at hj; cases hj
      simp only
      omega
theorem setCells_at : ∀ (vs : List Value) {w : World} {c : Array Value} {e : TypeId} {fr : Nat × Nat} (o : Nat), w.heap[b]? = some (.cells c e fr) →
    ∃ c', (w.setCells b o vs).heap[b]? = some (.cells c' e fr) ∧ c'.toList = putL c.toList o vs
  | [], w, c, e, fr, o, h => ⟨c, h, rfl⟩
  | v :: r, w, c, e, fr, o, h => by
    obtain ⟨c', h1, h2⟩ := setCells_at r (o + 1) (setCell_at h o v)
    exact ⟨c', h1, by rw [h2, putL, Array.toList_setIfInBounds]⟩
theorem put_all {R : Nat → AVal → Value → Prop} : ∀ {us : List AVal} {ys : List Value} {cs : List AVal} {xs : List Value} {off : Nat}, cs.length = xs.length → us.length = ys.length → (∀ (j : Nat) (v : AVal), cs[j]? = some v → ∃ x, xs[j]? = some x ∧ R j v x) →
    (∀ (j : Nat) (v : AVal), us[j]? = some v → ∃ x, ys[j]? = some x ∧ R (off + j) v x) → ∀ (j : Nat) (v : AVal), (putAt cs off us)[j]? = some v → ∃ x, (putL xs off ys)[j]? = some x ∧ R j v x := by
  intro us ys cs xs off h1 h2 h3 h4 j v hj
  rw [putAt_get] at hj
  rw [putL_get, ← h1, ← h2]
  split at hj
  · rename_i hc
    rw [if_pos hc]
    obtain ⟨x, k1, k2⟩ := h4 _ v hj
    exact ⟨x, k1, by rwa [show off + (j - off) = j by omega] at k2⟩
  · rename_i hc
    rw [if_neg hc]
    exact h3 j v hj

theorem storeVar_run {t : TypeId} {v : Value} {o : Nat} (hi : (P.info? t).isSome = true) (hs : v.cells.toList.length = P.cellsOf t) (ht : w.there b o v.cells.toList.length) (h1 : One v.cells.toList) :
    (storeVar t ⟨b, o, none⟩ v).run P w = .ok () (w.setCells b o v.cells.toList) := by
  have hst := run_storeCells_cells (P := P) b o v.cells.toList 0 w (fun j hj => by simpa using (ht j hj).1) (fun j hj => by simpa using (ht j hj).2) h1
  simp only [Nat.add_zero] at hst
  obtain ⟨i, hi⟩ := Option.isSome_iff_exists.1 hi
  have hs' : v.cells.size = i.size := by
    rw [Array.length_toList] at hs
    rw [hs]
    simp [Program.cellsOf, hi]
  simp [storeVar, sizeOf, typeInfo, hi, hs', hst]
theorem there_box {c : Array Value} {e : TypeId} {fr : Nat × Nat} (h : w.heap[b]? = some (.cells c e fr)) (hu : unfrozen c fr) {o n : Nat} (hn : o + n ≤ c.size) : w.there b o n := by
  intro j hj
  have hjc : o + j < c.size := by omega
  refine ⟨?_, ?_⟩
  · simp only [World.cell?, h]
    rw [Array.getElem?_eq_getElem hjc]; rfl
  · simp only [World.frozen?, h]
    have := hu (o + j) hjc
    simp only [Bool.and_eq_false_iff, decide_eq_false_iff_not]
    exact Classical.not_and_iff_not_or_not.1 this

/-- Cells of an object are written. -/
theorem store_box (hi : Inv B g w H) {id off : Nat} {cs us : List AVal} {vs : List Value} (hr : g.rho id = some b) (hg : hget H id = some (.box cs)) (hl : us.length = vs.length) (ho : off + us.length ≤ cs.length)
    (hc : ∀ (j : Nat) (v : AVal), us[j]? = some v → ∃ x, vs[j]? = some x ∧ CellOK g w (.cell id (off + j)) v x) :
    w.there b off vs.length ∧ Post d B g w H g (w.setCells b off vs) (hset H id (.box (putAt cs off us))) [id] nobody ∧ ∀ {env : Env} {tm : Nat → Option Value}, EnvOK g w d env tm → EnvOK g (w.setCells b off vs) d env tm := by
  obtain ⟨c, el, fr, h1, h2, h3, h4⟩ := hi.obj id _ b hg hr
  obtain ⟨hlt, hB, hbs, hext, how⟩ := hi.rho id b hr
  have hu := setCells_upd vs w b off
  have hchg := hu.chg (g := g) fun i hi' => by rw [hext] at hi'; omega
  refine ⟨there_box h1 h2 (by omega), obj_upd hi hr hu ?_⟩
  obtain ⟨c', k1, k2⟩ := setCells_at vs off h1
  have hsz : c'.size = c.size := by rw [← Array.length_toList, k2, putL_length, Array.length_toList]
  refine ⟨c', el, fr, k1, fun j hj => h2 j (by omega), by rw [putAt_length]; omega, fun j v hj => ?_⟩
  obtain ⟨x, m1, m2⟩ := put_all (R := fun j v x => CellOK g w (.cell id j) v x) (cs := cs) (xs := c.toList) (us := us) (ys := vs) (off := off) (by simp [h3]) hl (fun j v hj => by
    obtain ⟨x, hx, hc⟩ := h4 j v hj
    exact ⟨x, by rw [Array.getElem?_toList]; exact hx, hc⟩) hc j v hj
  rw [← k2, Array.getElem?_toList] at m1
  exact ⟨x, m1, m2.chg hi hchg (by rw [how]; simp)⟩

variable (hi : Inv B g w H) (he : EnvOK g w d env (tmOf a)) (hs : Sub e env)
include hi he hs

theorem takeC_ok {facts fe : Env} (hf : FactsOK g w facts (tmOf a)) (hsf : Sub fe facts) {s : Operand} {l : List AVal} {ow : Own} {H' : Heap} (h : takeC e fe H s = some (l, ow, H')) :
    ∃ g1, Post d B g w H g1 w H' [] nobody ∧ EnvOK g1 w d env (tmOf a) ∧ HoldT g1 w (.slot (d + 1) 0) l ow (a.eval s) := by
  unfold takeC at h
  split at h
  case h_2 => cases h
  rename_i j l0 hr
  split at h
  case h_2 => cases h
  rename_i id off hfa
  split at h
  case h_2 => cases h
  rename_i cs hg
  split at h
  case h_2 => cases h
  rename_i l1 k hcs
  cases h
  obtain ⟨b, c, el, fr, x, f1, f2, f3, f4⟩ := hf.cell j id off (hsf j _ hfa)
  obtain ⟨c', el', fr', h1, h2, h3, h4⟩ := hi.obj id _ b hg f1
  rw [f2] at h1; cases h1
  obtain ⟨x', hx', hc1, hc2, hc3⟩ := h4 off _ hcs
  rw [f3] at hx'; cases hx'
  have hlt := (hi.rho id b f1).1
  have σc : ∀ i off', (i ≠ id ∨ off' ≠ off) → give1to (Holder.cell id off) (.slot (d + 1) 0) (.cell i off') = .cell i off' := fun i off' hne => give_ne (by
    intro e3; injection e3 with e4 e5
    rcases hne with hne | hne
    · exact hne e4
    · exact hne e5)
  have hle := le_remap g w (give1to (Holder.cell id off) (.slot (d + 1) 0))
  refine ⟨g.remap (give1to (.cell id off) (.slot (d + 1) 0)), ⟨step_remap (give_foreign not_foreign_cell), ?_, by rw [hset_length]; exact Nat.le_refl _, fun i hl hn _ => ⟨hn, ?_⟩, fun _ _ _ _ => rfl⟩, he.remap (fun i v _ => .inl (give_ne (by simp))) (fun i vs _ j v _ => .inl (give_ne (by simp))), ?_⟩
  · exact {
      rho := fun i b' hr' => by
        obtain ⟨q1, q2, q3, q4, q5⟩ := hi.rho i b' hr'
        exact ⟨by rw [hset_length]; exact q1, q2, q3, q4, by simp [G.remap, q5]⟩
      inj := hi.inj
      ext := hi.ext
      ow := fun b' o ho => by
        simp only [G.remap] at ho
        obtain ⟨o', ho', _⟩ := Option.map_eq_some_iff.1 ho
        exact hi.ow b' o' ho'
      obj := fun i o b' hgo hr' => by
        rw [hget_hset hlt] at hgo
        split at hgo
        · rename_i e3; subst e3
          cases hgo
          have hr'' : g.rho i = some b' := hr'
          rw [f1] at hr''; cases hr''
          refine ⟨c, el, fr, f2, h2, by simpa using h3, fun j' v hj => ?_⟩
          rw [List.getElem?_set] at hj
          split at hj
          · rename_i e3; subst e3
            split at hj
            · cases hj
              exact ⟨x, f3, hc1, (hc2.le hle).own _, fun l k e3 => by cases e3⟩
            · cases hj
          · rename_i e3
            obtain ⟨y, hy, hc⟩ := h4 j' v hj
            exact ⟨y, hy, hc.remap (σc i j' (.inr (Ne.symm e3)))⟩
        · rename_i e3
          exact (hi.obj i o b' hgo hr').remap fun off' => σc i off' (.inl e3)
      base := hi.base }
  · rw [hget_hset hlt, if_neg]
    rintro rfl
    rw [f1] at hn; cases hn
  · have e3 := rawv_slot he (rawv_sub hs hr)
    rw [f4] at e3
    have e4 : x = a.eval (.tmp j) := by have := e3.1; cases this; rfl
    rw [← e4]
    have := (hc3 l _ rfl).remap (σ := give1to (.cell id off) (.slot (d + 1) 0))
    rw [give_same] at this
    exact ⟨hc2.le hle, this⟩

theorem appendC_ok {facts fe : Env} (hf : FactsOK g w facts (tmOf a)) (hsf : Sub fe facts) {o : Oper} {c : Call} {oc : OutC} (ho : o.op = .call c) (hb : c.callee = .builtin .append) (h : appendC P e fe H c = some oc) : OpOK P d B env g w H a o oc nobody := by
  unfold appendC at h
  split at h
  · rename_i out hout
    cases h
    exact appendN_ok hi he hs ho hb hout
  · obtain ⟨cs0, hrun⟩ := execOp_builtin (a := a) (P := P) ho hb w
    split at h
    case h_2 => cases h
    rename_i s x t r hargs htypes
    split at h
    · cases h
    · rename_i hrow
      have hrow : rowArg P r = true := by simpa using hrow
      split at h
      case h_2 => cases h
      rename_i xs l ow H' hx htk
      obtain ⟨u, hu, hxs⟩ := Option.bind_eq_some_iff.1 hx
      split at h
      case h_2 => cases h
      rename_i v hv
      cases h
      obtain ⟨g1, p1, e1, ht⟩ := takeC_ok hi he hs hf hsf htk
      have hread := (ev_read he (ev_sub hs hu)).le p1.step.le
      obtain ⟨g2, w2, x2, hr2, p2, e2, hh⟩ := grow_ok (P := P) (xe := undef) p1.inv e1 ht hv hread hxs o.type
      rw [args_two hargs] at hrun
      simp only [builtin] at hrun
      have hrun' : (execOp a.eval o).run P w = .ok (.value x2) w2 := by
        rw [hrun, Sem.run_bind, append_types htypes hrow, hr2]
        rfl
      have hvv : ∃ l' ow', v = .vec l' ow' := by
        unfold growE at hv
        split at hv
        · split at hv
          · split at hv
            · cases hv; exact ⟨_, _, rfl⟩
            · split at hv
              · cases hv; exact ⟨_, _, rfl⟩
              · cases hv
          · cases hv
        · cases hv
      obtain ⟨l', ow', rfl⟩ := hvv
      exact settle hi he hrun' ((p1.trans p2).mono (by simp) (by simp [nobody])) (e2 : EnvOK g2 w2 d (esets (kills [] env) []) (tmOf a)) hh (by simp) (by simp) (by simp)

theorem store_ok {o : Oper} {t : TypeId} {p x : Operand} {oc : OutC} (ho : o.op = .store t p x) (h : storeE P e H t p x = some oc) : OpOK P d B env g w H a o oc nobody := by
  have hrun : ∀ w', (Instr.storeAt t (a.eval p) (a.eval x)).run P w = .ok () w' → (execOp a.eval o).run P w = .ok .skip w' := by
    intro w' hw'
    simp only [execOp, ho, Sem.run_bind, hw']
    rfl
  unfold storeE at h
  split at h
  case h_3 => cases h
  · -- a variable
    rename_i id off r v hp hr hv
    split at h
    case h_2 => cases h
    rename_i cs hg
    split at h
    case isFalse => cases h
    rename_i hcond
    obtain ⟨hlen, hoff, hinf⟩ := hcond
    have hv' := ev_sub hs hv
    have ep := (rawv_read he (rawv_sub hs hp) (by simp) (by simp) (by simp)).plain (by simp)
    generalize hz : a.eval p = z at ep
    cases ep with
    | ptr _ hrho =>
      rename_i b
      -- the way that is left when the slots have turned
      have fin : ∀ (g1 : G) (ups : List (Nat × AVal)) (us : List AVal), Post d B g w H g1 w H [] nobody → EnvOK g1 w d (esets env ups) (tmOf a) → us.length = v.cells.length → (a.eval x).cells.toList.length = us.length → One (a.eval x).cells.toList →
          (∀ (j : Nat) (u : AVal), us[j]? = some u → ∃ y, (a.eval x).cells.toList[j]? = some y ∧ CellOK g1 w (.cell id (off + j)) u y) →
          OpOK P d B env g w H a o ⟨⟨ups, [], deadV, none⟩, hset H id (.box (putAt cs off us)), [id]⟩ nobody := by
        intro g1 ups us hp1 he1 hul hxl h1 hc
        obtain ⟨s1, s2, s3⟩ := store_box (d := d) hp1.inv (hp1.step.le.rho _ _ hrho) hg hxl.symm (by omega) hc
        refine ⟨g1, w.setCells b off (a.eval x).cells.toList, undef, .inr ⟨hrun _ ?_, rfl⟩, (hp1.trans s2).mono (by simp) (by simp [nobody]), s3 he1, fun t _ => dead_slot, fun id off h => by cases h⟩
        rw [hz]
        simp only [Instr.storeAt, Instr.sureAddr, Sem.run_bind, Sem.run_pure, Result.andThen_ok]
        exact storeVar_run hinf (by omega) s1 h1
      have tipcase : ∀ (j : Nat) (l : List AVal) (k : Nat) (env1 : Env) (g1 : G), x = .tmp j → v.cells.length = 1 → Turn d B g g1 w H → EnvOK g1 w d env1 (tmOf a) → eget env1 j = some (.vec l (.tip k)) → (∀ i, i ≠ j → eget env1 i = eget env i) →
          OpOK P d B env g w H a o ⟨⟨[(j, .vec l .ro)], [], deadV, none⟩, hset H id (.box (putAt cs off [.vec l (.tip k)])), [id]⟩ nobody := by
        intro j l k env1 g1 hxj hv1 t1 he1 hj hrest
        subst hxj
        obtain ⟨g2, y, k1, t2, k3, k4, k5⟩ := take_tip he1 t1.inv hj (.cell id (off + 0))
        have hy : a.eval (.tmp j) = y := eval_tmp k1
        have hy1 : y.cells.toList = [y] ∧ y.oneCell' = true := by
          obtain ⟨ad, n, cap, rfl, _⟩ := k5
          exact ⟨rfl, rfl⟩
        refine fin g2 _ [.vec l (.tip k)] (t1.trans t2).post (k3.ext fun i => ?_) (by simp [hv1]) (by rw [hy, hy1.1]; rfl) ?_ ?_
        · simp only [esets]
          rw [eget_eset, eget_eset]
          split
          · rfl
          · rename_i e3; exact (hrest i (Ne.symm e3)).symm
        · rw [hy, hy1.1]
          intro z hz; simp at hz; subst hz; exact hy1.2
        · intro i u hu
          rw [hy, hy1.1]
          cases i with
          | zero =>
            simp at hu; subst hu
            exact ⟨y, rfl, hy1.2, k4, fun l' k' e3 => by cases e3; exact k5⟩
          | succ i => simp at hu
      have hvec : ∀ l ow, r = .vec l ow → v.cells.length = 1 := by
        intro l ow e3; subst e3
        rcases ev_cases hv with ⟨i, l', o', hr2, _, rfl⟩ | ⟨hr2, _⟩
        · rfl
        · rw [hr] at hr2; cases hr2; rfl
      split at h
      · rename_i l k j
        cases h
        have hj : eget env j = some (.vec l (.ex k)) := rawv_sub hs hr
        obtain ⟨g1, f1, h1⟩ := freeze_slot he hi hj
        exact tipcase j l k _ g1 rfl (hvec _ _ rfl) f1.turn h1 (eget_eset_same _ _ _) fun i hne => eget_eset_ne _ _ (Ne.symm hne)
      · rename_i l k j
        cases h
        have hj : eget env j = some (.vec l (.tip (k + 1))) := rawv_sub hs hr
        exact tipcase j l (k + 1) env g rfl (hvec _ _ rfl) (.refl hi) he hj fun _ _ => rfl
      · cases h
        rw [esc_sub hs hv]
        have fr := frees_esc env x
        obtain ⟨g1, f, k1, k2⟩ := freeze_ups he hi (.refl env) fr
        have hro := read_frozen fr k1 k2 hv' fun _ h => h
        have hroc : (ro v).cells = v.cells.map ro1 := by
          rcases @ro_cells v with e3 | ⟨l, e3⟩
          · exact e3
          · exact absurd e3 (ev_noTup hv' l)
        have hcells : RelL g1 w (v.cells.map ro1) (a.eval x).cells.toList := by have := hro.cells; rwa [hroc] at this
        have hone : One (a.eval x).cells.toList := hro.one_cells fun vs e3 => (ro_plain (ev_noTup hv') (ev_noBor hv') (ev_noSptr hv')).1 vs e3
        rw [hroc]
        refine fin g1 _ _ f.post k1 (by simp) (by rw [← hcells.length]) hone fun j u hu => ?_
        obtain ⟨y, hy, hrel⟩ := hcells.get hu
        refine ⟨y, hy, ?_⟩
        rw [List.getElem?_map] at hu
        obtain ⟨u0, _, rfl⟩ := Option.map_eq_some_iff.1 hu
        exact cell_ro (hone.get hy) hrel
  · -- an element
    rename_i i k off r v hp hr hv
    split at h
    case isTrue => cases h
    rename_i hlt
    split at h
    case h_2 => cases h
    rename_i l m hl
    split at h
    case isFalse => cases h
    rename_i hall
    have hv' := ev_sub hs hv
    cases p with
    | const c => exact absurd (@ofV_rel g w _ _ hp) (by intro k; cases k)
    | global gl => cases hp
    | func f => cases hp
    | tmp t1 =>
      obtain ⟨hx1, l1, o1, b, q, n, cap, m', s1, s2, s3, s4, s5⟩ := rawv_slot he (rawv_sub hs hp)
      replace s5 := s5.ptr (Decidable.not_not.1 hlt)
      rw [hs i _ hl] at s1
      cases s1
      rw [esc_sub hs hv] at hall h
      have fr := frees_esc env x
      obtain ⟨g1, f, k1, k2⟩ := freeze_ups he hi (.refl env) fr
      have hro := read_frozen fr k1 k2 hv' fun _ h => h
      have hst : RelV g1 w (strip v) (a.eval x) := by have := hro.strip; rwa [strip_ro (ev_noTup hv')] at this
      have hone : One (a.eval x).cells.toList := hro.one_cells fun vs e3 => (ro_plain (ev_noTup hv') (ev_noBor hv') (ev_noSptr hv')).1 vs e3
      have hcl := hst.cells
      have hsl : (strip v).cells.length = v.cells.length := strip_len (ev_noTup hv')
      have hxl : (a.eval x).cells.toList.length = v.cells.length := by rw [← hcl.length, hsl]
      have hli : eget (esets env (esc env x)) i = some (.vec l (.ex m)) := by
        rw [eget_esets_not]
        · exact hs i _ hl
        · intro u hu
          have := List.all_eq_true.1 hall (i, u) hu
          simp at this
      obtain ⟨y, hy, hsy⟩ := k1 i _ hli
      rw [s2] at hy; cases hy
      have hex : ExOK g1 w (.slot d i) l m (.slice (some ⟨b, q, none⟩) n cap) := by simpa [SlotOK, HoldOK] using hsy
      obtain ⟨ad, cap', e3, hcase⟩ := hex
      cases e3
      rcases hcase with ⟨rfl, _⟩ | ⟨hm0, hcap, b', q', vs, e4, how, hext, hun, hrel, h1, hrng, hroom⟩
      · simp at s3
      cases e4
      have hmm : m' = m := by rw [← s4 _ (List.getElem_mem s3), hun _ (List.getElem_mem s3)]
      subst hmm
      have hflat := flat_length hun
      have hvl := hrel.length
      have hkm : k * m' + m' ≤ l.length * m' := by
        have : (k + 1) * m' ≤ l.length * m' := Nat.mul_le_mul_right _ s3
        rwa [Nat.add_mul, Nat.one_mul] at this
      have hcapm : l.length * m' ≤ cap * m' := Nat.mul_le_mul_right _ hcap
      -- the way that is left
      have fin : ∀ (u : AVal), u.cells.length = m' → off + v.cells.length ≤ m' → (P.info? t).isSome = true → v.cells.length = P.cellsOf t → putAt (l.flatMap AVal.cells) (k * m') u.cells = putAt (l.flatMap AVal.cells) (k * m' + off) (strip v).cells →
          OpOK P d B env g w H a o ⟨⟨esc env x ++ [(i, .vec (l.set k u) (.ex m'))], [], deadV, none⟩, H, []⟩ nobody := by
        intro u hu hov hinf hsz hput
        have hun' : ∀ e ∈ l.set k u, e.cells.length = m' := fun e he => by
          rcases List.mem_or_eq_of_mem_set he with he | rfl
          · exact hun e he
          · exact hu
        have hrel' : RelL g1 w ((l.set k u).flatMap AVal.cells) (putL vs (k * m' + off) (a.eval x).cells.toList) := by
          rw [flat_set hun hu s3, hput]
          exact hrel.putAt _ hcl
        have hth : w.there b (q + (k * m' + off)) (a.eval x).cells.toList.length := there_sub hroom.1 _ _ (by rw [hxl]; omega)
        obtain ⟨p1, p2⟩ := write_slot (l' := l.set k u) (q := q + (k * m' + off)) (news := (a.eval x).cells.toList) k1 f.inv hli s2 rfl hm0 hcap how hext (by simp) hun hun' hrel' (h1.putL _ hone) (range_put hrng hth (by rw [hxl]; omega)) hroom
        refine ⟨g1, _, undef, .inr ⟨hrun _ ?_, rfl⟩, (f.post.trans p1).mono (by simp) (by simp [nobody]), ?_, fun t _ => dead_slot, fun id off h => by cases h⟩
        · rw [s5]
          simp only [Instr.storeAt, Instr.sureAddr, Sem.run_bind, Sem.run_pure, Result.andThen_ok]
          rw [show q + k * m' + off = q + (k * m' + off) by omega]
          exact storeVar_run hinf (by rw [hxl]; exact hsz) hth hone
        · rw [kills_nil, esets_append]
          exact p2
      split at h
      · rename_i cs hlk
        split at h
        case isFalse => cases h
        rename_i hcond
        obtain ⟨hsz, hov, hinf⟩ := hcond
        cases h
        have hcs : cs = ((l.flatMap AVal.cells).drop (k * m')).take m' := flat_get hun hlk
        have hcl2 : cs.length = m' := hun _ (List.mem_of_getElem? hlk)
        refine fin _ ?_ (by omega) hinf hsz ?_
        · simp only [AVal.cells, putAt_length]; exact hcl2
        · simp only [AVal.cells]
          exact putAt_nested (nv := (strip v).cells) hcs (by omega) (by rw [hsl]; omega)
      · rename_i u0 hna hlk
        have hcond : off = 0 ∧ v.cells.length = 1 ∧ P.cellsOf t = 1 ∧ oc = ⟨⟨esc env x ++ [(i, .vec (l.set k (strip v)) (.ex m'))], [], deadV, none⟩, H, []⟩ := by
          split at h
          · split at h
            · rename_i hc; exact absurd hc.2.2.2 (by simp)
            · cases h
          · split at h
            · rename_i hc; cases h; exact ⟨hc.1, hc.2.1, hc.2.2.1, rfl⟩
            · cases h
        obtain ⟨rfl, hv1, ht1, rfl⟩ := hcond
        have hm1 : m' = 1 := by
          rw [← hun _ (List.mem_of_getElem? hlk)]
          cases u0 with
          | agg cs => exact absurd rfl (hna cs)
          | _ => rfl
        obtain ⟨inf, hinf⟩ := info_of_cells (P := P) (t := t) (by omega)
        refine fin _ (by rw [hsl]; omega) (by omega) (by rw [hinf]; rfl) (by omega) (by rw [Nat.add_zero])
      · cases h
end
end Go.Abs
end

section
/- A range over a map; values in interfaces. -/
namespace Go.Abs
open Go
set_option linter.unusedSimpArgs false
set_option linter.unusedVariables false
set_option linter.unusedSectionVars false

section
variable {P : Program} {d B : Nat} {env e : Env} {g : G} {w : World} {H : Heap} {a : Act}
theorem slot_tupR {tm : Nat → Option Value} {env : Env} {t : Nat} {vs : List AVal} {xs : List Value} (h : RelL g w vs xs) (hf : ∀ v ∈ vs, (∀ l k, v ≠ .vec l (.ex k)) ∧ ∀ l k, v ≠ .vec l (.tip (k + 1))) : SlotOK g w d env tm t (.tuple xs.toArray) (.tup vs) := by
  refine .inr ⟨xs.toArray, rfl, by simpa using h.length.symm, fun j v hj => ?_⟩
  obtain ⟨y, hy, hr⟩ := h.get hj
  obtain ⟨f1, f2⟩ := hf v (List.mem_of_getElem? hj)
  exact ⟨y, by simpa using hy, .inr (hr.hold f1 f2)⟩

variable (hi : Inv B g w H) (he : EnvOK g w d env (tmOf a)) (hs : Sub e env)
include hi he hs

theorem range_ok {o : Oper} {t : TypeId} {x : Operand} {c : OutC} (ho : o.op = .range t x) (h : rangeE P e H t x = some c) : OpOK P d B env g w H a o c nobody := by
  have lay : ∀ (m q : Option Nat) (since last : Nat) (seen : List Nat), RelV g w (.map m) (.map q) → (execOp a.eval o).run P w = .ok (.value (.pointer (some ⟨w.heap.size, 0, none⟩))) { w with heap := w.heap.push (.mapIter q since seen.toArray last) } →
      OpOK P d B env g w H a o ⟨⟨[], [], .ptr (some (H.length, 0)), none⟩, .iter m since seen last :: H, []⟩ nobody := by
    intro m q since last seen hr hrun
    have hn := newW_push w (.mapIter q since seen.toArray last)
    refine ⟨g.name H.length w.heap.size, _, .pointer (some ⟨w.heap.size, 0, none⟩), .inl hrun, ?_, he.name hi hn hi.rho_len, fun t ht => ?_, fun id off h => by cases h⟩
    · have := post_name (d := d) hi hn hi.rho_len (H' := .iter m since seen last :: H) (by simp) (by simp) (fun i hne hlt => by rw [hget_cons, if_neg hne]) (fun ob hob => by
        rw [hget_cons, if_pos rfl] at hob
        cases hob
        exact ⟨q, hn.new, hr.le (chg_name hi hn hi.rho_len).le⟩)
      exact ⟨this.step, this.inv, this.len, fun id hl hr hb => this.pend id hl hr (by omega), this.kept⟩
    · exact slot_ro (.ptr 0 (by simp [G.name])) (by simp) (by simp) (by simp) (by simp) (by simp)
  unfold rangeE at h
  split at h
  · rename_i hu hx
    cases h
    have e1 := ev_rel he (ev_sub hs hx) (by simp)
    generalize hz : a.eval x = z at e1
    cases e1 with
    | mapN =>
      refine lay none none 0 0 [] .mapN ?_
      simp only [execOp, ho, hz, Instr.range, Sem.run_bind, run_underlying hu, Result.andThen_ok, Sem.run_pure]
      rfl
  · rename_i id hu hx
    split at h
    case h_2 => cases h
    rename_i es s hg
    cases h
    have e1 := ev_rel he (ev_sub hs hx) (by simp)
    generalize hz : a.eval x = z at e1
    cases e1 with
    | map hr =>
      rename_i b
      obtain ⟨ents, hbm, hents, hborn⟩ := map_ents (hi.obj _ _ _ hg hr)
      refine lay (some id) (some b) s.cl s.cl [] (.map hr) ?_
      simp only [execOp, ho, hz, Instr.range, Sem.run_bind, run_underlying hu, Result.andThen_ok, Sem.run_pure, getMap_run hbm]
      rfl
  · cases h

theorem makeFace_ok {o : Oper} {t : TypeId} {x : Operand} {out : Out} (ho : o.op = .makeInterface t x) (h : makeFaceE P e t x = some out) : OpOK P d B env g w H a o ⟨out, H, []⟩ nobody := by
  unfold makeFaceE at h
  split at h
  · cases h
  · rename_i dd v hni hu hx
    rw [esc_sub hs hx] at h
    have hx' := ev_sub hs hx
    have fr := frees_esc env x
    refine esc_ok hi he fr h (x := .iface t (a.eval x)) ?_ fun g' f h1 h2 t' => ?_
    · simp only [execOp, ho, Instr.makeInterface, Sem.run_bind, run_underlying hu, Result.andThen_ok]
      cases dd <;> first | rfl | exact absurd rfl (hni _)
    · have hro := read_frozen fr h1 h2 hx' fun _ h => h
      have hval : RelV g' w (strip v) (a.eval x) := by rw [← strip_ro (ev_noTup hx')]; exact hro.strip
      exact slot_ro (.face t hval) (by simp) (by simp) (by simp) (by simp) (by simp)
  · cases h

theorem assert_ok {o : Oper} {x : Operand} {xt t : TypeId} {ok : Bool} {out : Out} (ho : o.op = .typeAssert x xt t ok) (h : assertE P e x t ok = some out) : OpOK P d B env g w H a o ⟨out, H, []⟩ nobody := by
  unfold assertE at h
  split at h
  · cases h
  · rename_i dd u v hni hu hx
    split at h
    case isFalse => cases h
    rename_i hc
    obtain ⟨rfl, htup⟩ := hc
    have e1 := ev_rel he (ev_sub hs hx) (by simp)
    generalize hz : a.eval x = z at e1
    cases e1 with
    | face _ hv =>
      rename_i y
      have hno : ∀ vs, v ≠ .tup vs := fun vs e3 => by subst e3; cases htup
      have hpl : (∀ j, v ≠ .bor j) ∧ ∀ j p q, v ≠ .sptr j p q := hv.noBor
      split at h
      · refine pure_ok hi he h (x := .tuple #[y, .bool true]) ?_ fun t' => slot_tupR (xs := [y, .bool true]) (.cons hv.ro (.cons (.bool true) .nil)) ?_
        · simp only [execOp, ho, hz, Instr.typeAssert, Sem.run_bind, run_underlying hu, Result.andThen_ok]
          cases dd <;> first | rfl | exact absurd rfl (hni _)
        · intro v' hv'
          simp only [List.mem_cons, List.not_mem_nil, or_false] at hv'
          rcases hv' with rfl | rfl
          · exact ⟨ro_flags.1, ro_flags.2⟩
          · exact ⟨by simp, by simp⟩
      · refine pure_ok hi he h (x := y) ?_ fun t' => slot_of_ro hv.ro hno hpl.1 hpl.2
        simp only [execOp, ho, hz, Instr.typeAssert, Sem.run_bind, run_underlying hu, Result.andThen_ok]
        cases dd <;> first | rfl | exact absurd rfl (hni _)
  · cases h

omit hi he hs in
/-- the entries that have not been seen, as the model has them -/
theorem left_ents {es : List (AVal × AVal)} {ms : List MapEntry} {bs seen : List Nat} (h : EntsOK g w es ms) (hb : ms.map MapEntry.born = bs) :
    (leftE es bs seen).length = (ms.filter fun m => !seen.contains m.born).length ∧ ∀ (j : Nat) (p : (AVal × AVal) × Nat), (leftE es bs seen)[j]? = some p → ∃ m, (ms.filter fun m => !seen.contains m.born)[j]? = some m ∧ m.born = p.2 ∧ RelV g w p.1.1 m.key ∧ RelV g w p.1.2 m.val := by
  subst hb
  induction ms generalizing es with
  | nil =>
    have : es = [] := List.length_eq_zero_iff.1 h.1.symm
    subst this
    exact ⟨rfl, fun j p hp => by simp [leftE] at hp⟩
  | cons m ms ih =>
    cases es with
    | nil => have := h.1; simp at this
    | cons e0 es =>
      obtain ⟨m', hm', k1, k2⟩ := h.2 0 e0 rfl
      cases hm'
      have h' : EntsOK g w es ms := ⟨by have := h.1; simpa using this, fun j e hj => by
        obtain ⟨m', q1, q2⟩ := h.2 (j + 1) e (by simpa using hj)
        exact ⟨m', by simpa using q1, q2⟩⟩
      obtain ⟨i1, i2⟩ := ih h'
      unfold leftE at i1 i2 ⊢
      simp only [List.map_cons, List.zip_cons_cons, List.filter_cons]
      split
      · refine ⟨by simp only [List.length_cons, i1], fun j p hp => ?_⟩
        cases j with
        | zero => simp at hp; subst hp; exact ⟨m, rfl, rfl, k1, k2⟩
        | succ j => simpa using i2 j p (by simpa using hp)
      · exact ⟨i1, i2⟩

omit hi he hs in
theorem getIter_run {r : Nat} {q : Option Nat} {since last : Nat} {seen : Array Nat} (hb : w.heap[r]? = some (.mapIter q since seen last)) : (getObj r).run P w = .ok (.mapIter q since seen last) w := by
  simp [getObj, Sem.run, hb]
theorem next_ok {o : Oper} {x : Operand} {s : Bool} {c : OutC} (ho : o.op = .next x s) (h : nextE e H x s = some c) : OpOK P d B env g w H a o c nobody := by
  unfold nextE at h
  split at h
  · cases h
  rename_i hs0
  have hs0 : s = false := by simpa using hs0
  subst hs0
  split at h
  case h_2 => cases h
  rename_i id hx
  have e1 := ev_rel he (ev_sub hs hx) (by simp)
  generalize hz : a.eval x = z at e1
  cases e1 with
  | ptr _ hr =>
    rename_i b
    have over : ∀ (it : Obj), w.heap[b]? = some it → (execOp a.eval o).run P w = .ok (.value (.tuple #[.bool false])) w → OpOK P d B env g w H a o ⟨⟨[], [], .tup [.bool false], none⟩, H, []⟩ nobody := by
      intro it _ hrun
      refine ⟨g, w, .tuple #[.bool false], .inl hrun, left_pure hi he fun t => slot_tupR (xs := [.bool false]) (.cons (.bool false) .nil) ?_⟩
      intro v hv
      simp only [List.mem_cons, List.not_mem_nil, or_false] at hv
      subst hv
      exact ⟨by simp, by simp⟩
    split at h
    · rename_i since seen last hg
      cases h
      obtain ⟨q, hb, hq⟩ := hi.obj _ _ _ hg hr
      cases hq
      refine over _ hb ?_
      simp [execOp, ho, hz, Instr.next, Sem.run_bind, getObj, Sem.run, hb]
    · rename_i m since seen last hg
      obtain ⟨q, hb, hq⟩ := hi.obj _ _ _ hg hr
      cases hq with
      | map hm =>
        rename_i mb
        split at h
        case h_2 => cases h
        rename_i es st hgm
        obtain ⟨ents, hbm, hents, hborn⟩ := map_ents (hi.obj _ _ _ hgm hm)
        obtain ⟨l1, l2⟩ := left_ents (seen := seen) hents hborn
        split at h
        · cases h
        rename_i hguard
        -- the model's guard
        have hgd : (!seen.toArray.isEmpty && !ents.isEmpty && ents.all fun m => decide (last ≤ m.born)) = false := by
          have e2 : (ents.all fun m => decide (last ≤ m.born)) = st.bs.all fun b => decide (last ≤ b) := by
            rw [← hborn, ← Array.all_toList, List.all_map]
            rfl
          have e3 : ents.isEmpty = es.isEmpty := by
            rw [isEmpty_toList]
            have := hents.1
            cases hE : ents.toList <;> cases es <;> simp_all
          rw [e2, e3]
          simpa using hguard
        have hfil : ents.filter (fun m => !seen.toArray.contains m.born) = (ents.toList.filter fun m => !seen.contains m.born).toArray := by
          apply Array.ext'
          simp
        have hrun : ∀ F : List MapEntry, (ents.toList.filter fun m => !seen.contains m.born) = F → (execOp a.eval o).run P w =
            ((do
              let left := F.toArray
              let old := left.filter (·.born < since)
              let new := left.filter (·.born ≥ since)
              let candidates := (if old.isEmpty then #[none] else #[]) ++ (old ++ new).map some
              match candidates[← choose (.mapNext candidates.size)]? with
              | some (some e) =>
                setObj b (.mapIter (some mb) since (seen.toArray.push e.born) st.cl)
                pure (.tuple #[.bool true, e.key, e.val])
              | some none => pure (.tuple #[.bool false])
              | none => stuck "Next: no such candidate" : Sem Value).run P w).andThen (fun v w => .ok (.value v) w) := by
          intro F hF
          simp only [execOp, ho, hz, Instr.next, Sem.run_bind, getIter_run hb, Result.andThen_ok, getMap_run hbm, hgd, Bool.false_eq_true, if_false, hfil, hF]
          rfl
        split at h
        · rename_i hl
          cases h
          have hF : (ents.toList.filter fun m => !seen.contains m.born) = [] := by
            rw [hl] at l1
            exact List.length_eq_zero_iff.1 l1.symm
          refine over _ hb ?_
          rw [hrun _ hF]
          simp [choose, Sem.run, Question.forced, Sem.run_bind]
        · rename_i e0 b0 hl
          split at h
          case isFalse => cases h
          rename_i hlt
          cases h
          rw [hl] at l1 l2
          obtain ⟨me, hme, hb0, hk, hv⟩ := l2 0 _ rfl
          have hF : (ents.toList.filter fun m => !seen.contains m.born) = [me] := by
            obtain ⟨m1, hq⟩ := List.length_eq_one_iff.1 l1.symm
            rw [hq] at hme
            simp at hme
            rw [hq, hme]
          have hb0 : me.born = b0 := hb0
          obtain ⟨u, hat⟩ := setObj_upd hb (.mapIter (some mb) since (seen.toArray.push me.born) st.cl)
          have hle : Le g w g { w with heap := w.heap.setIfInBounds b (.mapIter (some mb) since (seen.toArray.push me.born) st.cl) } := (u.chg fun i hi' => by
            rw [(hi.rho id b hr).2.2.2.1] at hi'; omega).le
          obtain ⟨p, q2⟩ := obj_upd (d := d) hi hr u (ob := .iter (some m) since (seen ++ [b0]) st.cl) ⟨some mb, by
            rw [hat, ← hb0]; simp, .map hm⟩
          refine ⟨g, _, .tuple #[.bool true, me.key, me.val], .inl ?_, p, q2 he, fun t _ => slot_tupR (xs := [.bool true, me.key, me.val]) (.cons (.bool true) (.cons (hk.le hle).ro (.cons (hv.le hle).ro .nil))) ?_, fun id off h => by cases h⟩
          · rw [hrun _ hF]
            have hlt' : me.born < since := by rw [hb0]; exact hlt
            have hge : ¬ (me.born ≥ since) := by omega
            simp [choose, Sem.run, Question.forced, Sem.run_bind, hlt', setObj, hb]
          · intro v hv'
            simp only [List.mem_cons, List.not_mem_nil, or_false] at hv'
            rcases hv' with rfl | rfl | rfl
            · exact ⟨by simp, by simp⟩
            · exact ⟨ro_flags.1, ro_flags.2⟩
            · exact ⟨ro_flags.1, ro_flags.2⟩
        · cases h
    · cases h

omit hi he hs in
theorem find_ents {es : List (AVal × AVal)} {ms : List MapEntry} {bs : List Nat} {stamp : Nat} {p : (AVal × AVal) × Nat} (h : EntsOK g w es ms) (hb : ms.map MapEntry.born = bs) (hf : (es.zip bs).find? (fun p => p.2 == stamp) = some p) :
    ∃ m, ms.find? (fun m => m.born == stamp) = some m ∧ RelV g w p.1.1 m.key ∧ RelV g w p.1.2 m.val := by
  subst hb
  induction ms generalizing es with
  | nil =>
    have : es = [] := List.length_eq_zero_iff.1 h.1.symm
    subst this
    cases hf
  | cons m ms ih =>
    cases es with
    | nil => have := h.1; simp at this
    | cons e0 es =>
      obtain ⟨m', hm', k1, k2⟩ := h.2 0 e0 rfl
      cases hm'
      have h' : EntsOK g w es ms := ⟨by have := h.1; simpa using this, fun j e hj => by
        obtain ⟨m', q1, q2⟩ := h.2 (j + 1) e (by simpa using hj)
        exact ⟨m', by simpa using q1, q2⟩⟩
      simp only [List.map_cons, List.zip_cons_cons] at hf
      by_cases hc : (m.born == stamp) = true
      · rw [List.find?_cons_of_pos (by exact hc)] at hf
        cases hf
        exact ⟨m, List.find?_cons_of_pos (by exact hc), k1, k2⟩
      · rw [List.find?_cons_of_neg (by exact hc)] at hf
        rw [List.find?_cons_of_neg (by exact hc)]
        exact ih h' hf
theorem entry_ok {o : Oper} {x : Operand} {c : OutC} (ho : o.op = .entry x) (h : entryE e H x = some c) : OpOK P d B env g w H a o c nobody := by
  unfold entryE at h
  split at h
  case h_2 => cases h
  rename_i id hx
  have e1 := ev_rel he (ev_sub hs hx) (by simp)
  generalize hz : a.eval x = z at e1
  cases e1 with
  | ptr _ hr =>
    rename_i b
    split at h
    case h_2 => cases h
    rename_i m since seen last hg
    obtain ⟨q, hb, hq⟩ := hi.obj _ _ _ hg hr
    cases hq with
    | map hm =>
      rename_i mb
      split at h
      case h_2 => cases h
      rename_i es st stamp hgm hst
      obtain ⟨ents, hbm, hents, hborn⟩ := map_ents (hi.obj _ _ _ hgm hm)
      split at h
      · cases h
      rename_i hcl
      have hcl : st.cl = last := by simpa using hcl
      split at h
      case h_2 => cases h
      rename_i e0 b0 hf
      cases h
      obtain ⟨me, hme, hk, hv⟩ := find_ents hents hborn hf
      have hme' : ents.find? (fun m => m.born == stamp) = some me := by rw [← Array.find?_toList]; exact hme
      have hback : seen.toArray.back? = some stamp := by simpa using hst
      refine ⟨g, w, .tuple #[me.key, me.val], .inl ?_, left_pure hi he fun t => slot_tupR (xs := [me.key, me.val]) (.cons hk.ro (.cons hv.ro .nil)) ?_⟩
      · simp only [execOp, ho, hz, Instr.entry, Sem.run_bind, getIter_run hb, Result.andThen_ok, getMap_run hbm, hback, hcl]
        simp [hme']
      · intro v hv'
        simp only [List.mem_cons, List.not_mem_nil, or_false] at hv'
        rcases hv' with rfl | rfl
        · exact ⟨ro_flags.1, ro_flags.2⟩
        · exact ⟨ro_flags.1, ro_flags.2⟩

omit hi he hs in
theorem clone_find {fn : Func} (h : fn.name = "maps.clone") (h2 : fn.origin = "") : Extern.findNext fn = none ∧ Extern.find fn = some Extern.MapsClone.clone := by
  unfold Extern.findNext Extern.find
  rw [h, h2]
  exact ⟨by rfl, by rfl⟩
theorem extern_ok {o : Oper} {c : Call} {f : Operand} {oc : OutC} (ho : o.op = .call c) (hb : c.callee = .value f) (h : externE P e H c f = some oc) : OpOK P d B env g w H a o oc nobody := by
  unfold externE at h
  split at h
  case h_2 => cases h
  rename_i fid
  split at h
  case isFalse => cases h
  rename_i hx
  split at h
  case h_2 => cases h
  rename_i x hargs
  split at h
  case h_2 => cases h
  rename_i t id hv
  split at h
  case h_2 => cases h
  rename_i es st hg
  cases h
  unfold isExtern at hx
  split at hx
  case h_2 => cases hx
  rename_i fn hfn
  simp only [Bool.and_eq_true, beq_iff_eq] at hx
  obtain ⟨⟨hbody, hname⟩, horig⟩ := hx
  obtain ⟨k1, k2⟩ := clone_find hname horig
  have e1 := ev_rel he (ev_sub hs hv) (by simp)
  generalize hz : a.eval x = z at e1
  cases e1 with
  | face _ hm =>
    rename_i y
    cases hm with
    | map hr =>
      rename_i b
      obtain ⟨ents, hbm, hents, hborn⟩ := map_ents (hi.obj _ _ _ hg hr)
      have hn := newW_push w (.map ents st.cl)
      have hargs' : c.args.map a.eval = #[.iface t (.map (some b))] := by
        have : c.args = #[x] := by rw [← Array.toArray_toList (xs := c.args), hargs]
        rw [this, ← hz]; simp
      have hrun : (execOp a.eval o).run P w = .ok (.value (.iface t (.map (some w.heap.size)))) { w with heap := w.heap.push (.map ents st.cl) } := by
        have hnn : (fn.name == "runtime.NumGoroutine") = false := by rw [hname]; rfl
        have hbody' : ¬ fn.body = none → False := fun h => h (by simpa using hbody)
        have hcf : ∀ args : Array Value, args = #[.iface t (.map (some b))] → (callFunc fid args).run P w = .ok (.value (.iface t (.map (some w.heap.size)))) { w with heap := w.heap.push (.map ents st.cl) } := by
          rintro args rfl
          unfold callFunc
          simp only [Sem.run_bind, Go.program, Sem.run, hfn, Result.andThen_ok, hnn, Bool.false_eq_true, if_false, hbody, if_true, mark, k1, k2]
          rw [show Extern.MapsClone.clone #[.iface t (.map (some b))] = (do
            let .map entries clock ← getObj b | stuck "maps.clone: a map expected"
            pure (.iface t (.map (some (← newObj (.map entries clock)))))) from rfl]
          simp [getObj, Sem.run, hbm, newObj, Sem.run_bind]
        simp only [execOp, ho, resolve, hb, Act.eval, Deferred.ofValue, Sem.run_bind, Sem.run_pure, Result.andThen_ok, invoke]
        refine hcf _ ?_
        rw [hargs']
        simp
      refine ⟨g.name H.length w.heap.size, _, _, .inl hrun, ?_, he.name hi hn hi.rho_len, fun t' ht => ?_, fun id off h => by cases h⟩
      · have := post_name (d := d) hi hn hi.rho_len (H' := .map es st :: H) (by simp) (by simp) (fun i hne hlt => by rw [hget_cons, if_neg hne]) (fun ob hob => by
          rw [hget_cons, if_pos rfl] at hob
          cases hob
          refine ⟨ents, st.cl, hn.new, ⟨by simpa using hents.1, rfl, hborn⟩, fun j e' hj => ?_⟩
          obtain ⟨m, hm, m1, m2⟩ := hents.2 j e' hj
          exact ⟨m, by rw [← Array.getElem?_toList]; exact hm, m1.le (chg_name hi hn hi.rho_len).le, m2.le (chg_name hi hn hi.rho_len).le⟩)
        exact ⟨this.step, this.inv, this.len, fun id hl hr hb => this.pend id hl hr (by omega), this.kept⟩
      · exact slot_ro (.face t (.map (by simp [G.name]))) (by simp) (by simp) (by simp) (by simp) (by simp)
end
end Go.Abs
end

section
/- Some of a slot's own elements: s[k:] handed to clear. -/
namespace Go.Abs
open Go
set_option linter.unusedSimpArgs false
set_option linter.unusedVariables false
set_option linter.unusedSectionVars false

theorem putL_eq {cs vs : List Value} {off : Nat} (h : off + vs.length ≤ cs.length) : putL cs off vs = cs.take off ++ vs ++ cs.drop (off + vs.length) := by
  refine List.ext_getElem? fun j => ?_
  rw [putL_get]
  have h1 : (cs.take off ++ vs).length = off + vs.length := by rw [List.length_append, List.length_take]; omega
  have h2 : (cs.take off).length = off := by rw [List.length_take]; omega
  by_cases hj : j < off
  · rw [if_neg (by omega), List.getElem?_append_left (by omega), List.getElem?_append_left (by omega), List.getElem?_take, if_pos hj]
  · by_cases hk : j < off + vs.length
    · rw [if_pos (by omega), List.getElem?_append_left (by omega), List.getElem?_append_right (by omega), h2]
    · rw [if_neg (by omega), List.getElem?_append_right (by omega), h1, List.getElem?_drop]
      congr 1; omega

section
variable {P : Program} {d B : Nat} {env e : Env} {g : G} {w : World} {H : Heap} {a : Act}
variable (hi : Inv B g w H) (he : EnvOK g w d env (tmOf a)) (hs : Sub e env)
include hi he hs

theorem sub_ok {o : Oper} {t : TypeId} {x : Operand} {lo hi' mx : Option Operand} {out : Out} (ho : o.op = .slice t x lo hi' mx) (h : subE P e t x lo hi' mx = some out) : OpOK P d B env g w H a o ⟨out, H, []⟩ nobody := by
  unfold subE at h
  split at h
  case h_2 => cases h
  rename_i elem i lv hv hu hx hlo hhi
  split at h
  case h_2 => cases h
  rename_i l k hl
  split at h
  case isFalse => cases h
  rename_i hc
  obtain ⟨hk, hue⟩ := hc
  obtain ⟨de, hue⟩ := Option.isSome_iff_exists.1 hue
  split at h
  case h_2 => cases h
  rename_i hh hb1
  split at h
  case h_2 => cases h
  rename_i ll hb2
  split at h
  case isFalse => cases h
  rename_i hlt
  obtain ⟨l1, l2⟩ := evOpt_read hi he hs hlo
  obtain ⟨h1, h2⟩ := evOpt_read hi he hs hhi
  cases x with
  | const c => exact absurd (@ofV_rel g w _ _ hx) (by intro k; cases k)
  | global gl => cases hx
  | func f => cases hx
  | tmp t1 =>
    obtain ⟨hx1, l3, o3, hs1, hs2⟩ := rawv_slot he (rawv_sub hs hx)
    have hli := hs i _ hl
    rw [hli] at hs1; cases hs1
    obtain ⟨y, hy, hsl⟩ := he i _ hli
    rw [hs2] at hy; cases hy
    have hex : ExOK g w (.slot d i) l k (a.eval (.tmp t1)) := by simpa [SlotOK, HoldOK] using hsl
    obtain ⟨ad, cap, hxe, hcase⟩ := hex
    have hcap : l.length ≤ cap := by
      rcases hcase with ⟨rfl, rfl⟩ | ⟨_, hc, _⟩
      · simp
      · exact hc
    obtain ⟨hr, hle, hlen⟩ := bounds_run (P := P) (isS := true) (cap := cap) hb1 hb2 l1 l2 h1 h2 hcap w
    rcases hcase with ⟨rfl, _⟩ | ⟨hk3, hc3, b, p, vs, rfl, _, _, hun, _⟩
    · simp at hlen; omega
    have hkk : P.cellsOf elem = k := by
      have hmem : l[ll]'(by omega) ∈ l := List.getElem_mem _
      rw [← headOk_uni hun hk _ hmem, hun _ hmem]
    refine pure_ok hi he h (x := .slice (some ⟨b, p + ll * k, none⟩) (hh - ll) (cap - ll)) ?_ fun t => ?_
    · simp only [execOp, ho, hxe, Instr.sliceAt, Instr.slice, Option.map_none]
      simp [run_underlying hu, hr, sizeOf_run hue, hkk, Addr.add_mid]
      intro e3; omega
    · exact ⟨l, .ex k, b, p, l.length, cap, k, hli, hs2.trans (congrArg some hxe), by omega, hun, .inr ⟨by omega, by omega, cap - ll, by rw [show subBig + (hh - ll) - subBig = hh - ll by omega]⟩⟩

theorem clear_core {o : Oper} {c : Call} {x : Operand} {t : TypeId} {r : List TypeId} {elem : TypeId} {i q n : Nat} {l : List AVal} {z : AVal} (ho : o.op = .call c) (hb : c.callee = .builtin .clear) (hargs : c.args.toList = [x]) (htypes : c.argTypes.toList = t :: r)
    (hu : P.underlying t = some (.slice elem)) (hli : eget env i = some (.vec l (.ex (P.cellsOf elem)))) (hz : zeroOf P elem = some z) (hk : headOk (P.cellsOf elem) l = true) (hzk : z.cells.length = P.cellsOf elem) (hzt : ∀ vs, z ≠ .tup vs) (hqn : q + n ≤ l.length)
    {b p n1 cap k cp : Nat} (s2 : tmOf a i = some (.slice (some ⟨b, p, none⟩) n1 cap)) (s3 : q < l.length) (s4 : ∀ e ∈ l, e.cells.length = k) (s6 : a.eval x = .slice (some ⟨b, p + q * k, none⟩) n cp) :
    OpOK P d B env g w H a o ⟨⟨[(i, .vec (l.take q ++ List.replicate n (strip z) ++ l.drop (q + n)) (.ex (P.cellsOf elem)))], [], deadV, none⟩, H, []⟩ nobody := by
    obtain ⟨cs0, hrun⟩ := execOp_builtin (a := a) (P := P) ho hb w
    obtain ⟨zv, hzv, hof⟩ := zero_value hz
    obtain ⟨y, hy, hsl⟩ := he i _ hli
    rw [s2] at hy; cases hy
    have hex : ExOK g w (.slot d i) l (P.cellsOf elem) (.slice (some ⟨b, p, none⟩) n1 cap) := by simpa [SlotOK, HoldOK] using hsl
    obtain ⟨ad, cap', e3, hcase⟩ := hex
    cases e3
    rcases hcase with ⟨rfl, _⟩ | ⟨hm0, hcap, b', p', vs, e4, how, hext, hun, hrel, h1, hrng, hroom⟩
    · simp at s3
    cases e4
    have hkm : k = P.cellsOf elem := by rw [← s4 _ (List.getElem_mem s3), hun _ (List.getElem_mem s3)]
    subst hkm
    obtain ⟨zr, zo⟩ := zero_row hof hzt hzk n g w
    generalize hnews : ((List.range (n * P.cellsOf elem)).map fun i => zv.cells[i % zv.cells.size]!) = news at zr zo
    have hzsz : zv.cells.size = P.cellsOf elem := by
      have := (ofV_cells hof hzt g w).1.length
      simp only [List.length_map, Array.length_toList] at this
      omega
    have hnl : news.length = n * P.cellsOf elem := by rw [← hnews]; simp
    have hzc : (Builtin.zeroCells zv.cells n).toList = news := by
      rw [← hnews]; unfold Builtin.zeroCells; rw [← hzsz]; exact range_row _ _
    have hflat := flat_length hun
    have hvl := hrel.length
    have hqm : q * P.cellsOf elem + n * P.cellsOf elem ≤ l.length * P.cellsOf elem := by
      rw [← Nat.add_mul]; exact Nat.mul_le_mul_right _ hqn
    have hcapm : l.length * P.cellsOf elem ≤ cap * P.cellsOf elem := Nat.mul_le_mul_right _ hcap
    have hth : w.there b (p + q * P.cellsOf elem) news.length := there_sub hroom.1 _ _ (by omega)
    have hst := run_storeCells_cells (P := P) b (p + q * P.cellsOf elem) news 0 w (fun j hj => by simpa using (hth j hj).1) (fun j hj => by simpa using (hth j hj).2) zo
    simp only [Nat.add_zero] at hst
    have hun' : ∀ e ∈ l.take q ++ List.replicate n (strip z) ++ l.drop (q + n), e.cells.length = P.cellsOf elem := fun e he => by
      rcases List.mem_append.1 he with he | he
      · rcases List.mem_append.1 he with he | he
        · exact hun e (List.mem_of_mem_take he)
        · rw [List.eq_of_mem_replicate he, strip_len hzt]; exact hzk
      · exact hun e (List.mem_of_mem_drop he)
    have hlen' : (l.take q ++ List.replicate n (strip z) ++ l.drop (q + n)).length = l.length := by
      simp only [List.length_append, List.length_take, List.length_replicate, List.length_drop]; omega
    have hrun' : (execOp a.eval o).run P w = .ok (.value (.tuple #[])) (w.setCells b (p + q * P.cellsOf elem) news) := by
      rw [hrun]
      have hav : (c.args.map a.eval) = #[.slice (some ⟨b, p + q * P.cellsOf elem, none⟩) n cp] := by
        have := args_one (a := a) hargs
        rw [this, s6]
      rw [hav]
      obtain ⟨h0, _⟩ := types_head htypes
      have hcl : (Builtin.clear_ c.argTypes o.type #[.slice (some ⟨b, p + q * P.cellsOf elem, none⟩) n cp]).run P w = .ok (.tuple #[]) (w.setCells b (p + q * P.cellsOf elem) news) := by
        unfold Builtin.clear_
        simp only [h0, List.getElem?_toArray, List.getElem?_cons_zero, Sem.run_bind, run_underlying hu, Result.andThen_ok]
        cases n with
        | zero =>
          have : news = [] := List.eq_nil_of_length_eq_zero (by rw [hnl]; simp)
          subst this
          simp [World.setCells]
        | succ n =>
          simp only [Sem.run_bind, hzv, Result.andThen_ok, hzc, hst]
          rfl
      simp only [builtin, hcl, Sem.run_bind, Result.andThen_ok]
      rfl
    obtain ⟨p1, p2⟩ := write_slot (l' := l.take q ++ List.replicate n (strip z) ++ l.drop (q + n)) (q := p + q * P.cellsOf elem) (news := news) (us := vs.take (q * P.cellsOf elem) ++ news ++ vs.drop (q * P.cellsOf elem + n * P.cellsOf elem)) he hi hli s2 rfl hm0 hcap how hext hlen' hun hun'
      (by rw [List.flatMap_append, List.flatMap_append, flat_drop hun, flat_take hun, Nat.add_mul]; exact ((hrel.take _).append zr).append (hrel.drop _))
      (fun x hx => by
        rcases List.mem_append.1 hx with hx | hx
        · rcases List.mem_append.1 hx with hx | hx
          · exact h1 x (List.mem_of_mem_take hx)
          · exact zo x hx
        · exact h1 x (List.mem_of_mem_drop hx))
      (by
        have := range_put hrng hth (by omega)
        rwa [putL_eq (by omega), hnl] at this)
      hroom
    refine ⟨g, _, _, .inl hrun', p1, ?_, fun t _ => dead_slot, fun id off h => by cases h⟩
    rw [kills_nil]
    exact p2
theorem clear_ok {o : Oper} {c : Call} {out : Out} (ho : o.op = .call c) (hb : c.callee = .builtin .clear) (h : clearE P e c = some out) : OpOK P d B env g w H a o ⟨out, H, []⟩ nobody := by
  unfold clearE at h
  split at h
  case h_2 => cases h
  rename_i x t r hargs htypes
  split at h
  case h_2 => cases h
  rename_i elem i q off hu hx
  split at h
  case isTrue => cases h
  rename_i hoff
  split at h
  case h_2 => cases h
  rename_i l m z hl hz
  split at h
  case isFalse => cases h
  rename_i hcond
  obtain ⟨rfl, hk, hzk, hzt, hqn⟩ := hcond
  have hzt : ∀ vs, z ≠ .tup vs := fun vs e3 => by subst e3; cases hzt
  cases x with
  | const c => exact absurd (@ofV_rel g w _ _ hx) (by intro k; cases k)
  | global gl => cases hx
  | func f => cases hx
  | tmp t1 =>
    obtain ⟨hx1, l1, o1, b, p, n1, cap, k, s1, s2, s3, s4, s5⟩ := rawv_slot he (rawv_sub hs hx)
    have hli := hs i _ hl
    rw [hli] at s1; cases s1
    rcases s5 with ⟨s5, _⟩ | ⟨_, s5, cp, s6⟩
    · exact absurd s5 hoff
    · have h5 := clear_core hi he hs ho hb hargs htypes hu hli hz hk hzk hzt hqn s2 s3 s4 s6
      simp only [outU, Option.some.injEq] at h
      rw [← h]
      exact h5
end
end Go.Abs
end

section
/- Two operations of the evaluator that are not ordered change places: what one does, as a function of what it sees. -/
namespace Go.Abs
open Go
set_option linter.unusedSimpArgs false
set_option linter.unusedVariables false
set_option linter.unusedSectionVars false

/-! ### Slots behind writes -/
def lastOf (ups : List (Nat × AVal)) (i : Nat) : Option AVal := eget (esets [] ups) i
theorem eget_esets_last (ups : List (Nat × AVal)) : ∀ (e : Env) (i : Nat), eget (esets e ups) i = (lastOf ups i).or (eget e i) := by
  induction ups with
  | nil => intro e i; rfl
  | cons p r ih =>
    obtain ⟨k, u⟩ := p
    intro e i
    unfold lastOf
    simp only [esets]
    rw [ih, ih (eset [] k u), eget_eset, eget_eset]
    cases lastOf r i with
    | some v => rfl
    | none =>
      simp only [Option.none_or]
      split <;> rfl
theorem lastOf_some {ups : List (Nat × AVal)} {i : Nat} {v : AVal} (h : lastOf ups i = some v) : (i, v) ∈ ups := by
  rcases eget_esets h with h1 | ⟨h1, _⟩
  · exact h1
  · cases h1
theorem lastOf_none {ups : List (Nat × AVal)} {i : Nat} (h : ∀ v, (i, v) ∉ ups) : lastOf ups i = none := by
  cases hl : lastOf ups i with
  | none => rfl
  | some v => exact absurd (lastOf_some hl) (h v)

def pa (p : Option (Nat × Nat)) (i : Nat) (v : AVal) : AVal :=
  match p with
  | some (j, k) => if j = i then dead1 k v else v
  | none => v
theorem eget_punch (env : Env) (p : Option (Nat × Nat)) (i : Nat) : eget (punchE env p) i = (eget env i).map (pa p i) := by
  cases p with
  | none => cases h : eget env i <;> simp [punchE, pa, h]
  | some q =>
    obtain ⟨j, k⟩ := q
    simp only [punchE]
    cases hj : eget env j with
    | none =>
      by_cases e : j = i
      · subst e; simp [hj]
      · cases h : eget env i <;> simp [pa, e, h]
    | some v =>
      simp only []
      rw [eget_eset]
      by_cases e : j = i
      · subst e; simp [pa, hj]
      · cases h : eget env i <;> simp [pa, e, h]
/-- what an operation makes of a slot that it does not write -/
def passE (G : List Nat) (p : Option (Nat × Nat)) (i : Nat) (v : AVal) : AVal := killv G (pa p i v)
theorem apply_env (p : Option (Nat × Nat)) (st : St) (dst : Option Nat) (c : OutC) (i : Nat) :
    eget (applyE p st dst c).env i = (lastOf (upsOf dst c.out) i).or ((eget st.env i).map (passE (goneOf st.env dst c.out.gone) p i)) := by
  simp only [applyE]
  rw [eget_esets_last, eget_kills, eget_punch]
  congr 1
  cases eget st.env i <;> rfl

theorem dead1_bor {k j : Nat} {v : AVal} : dead1 k v = .bor j ↔ v = .bor j := by
  cases v <;> simp [dead1]
theorem pa_bor {p : Option (Nat × Nat)} {i j : Nat} {v : AVal} : pa p i v = .bor j ↔ v = .bor j := by
  unfold pa
  split
  · split
    · exact dead1_bor
    · exact Iff.rfl
  · exact Iff.rfl
theorem pa_sptr {p : Option (Nat × Nat)} {i j a b : Nat} {v : AVal} : pa p i v = .sptr j a b ↔ v = .sptr j a b := by
  unfold pa
  split
  · split
    · cases v <;> simp [dead1]
    · exact Iff.rfl
  · exact Iff.rfl
theorem pa_dead {p : Option (Nat × Nat)} {i : Nat} : pa p i deadV = deadV := by
  unfold pa
  split
  · split
    · simp [dead1, deadV]
    · rfl
  · rfl
theorem killv_pa {G : List Nat} {p : Option (Nat × Nat)} {i : Nat} {v : AVal} : killv G (pa p i v) = pa p i (killv G v) := by
  unfold pa
  split
  · split
    · cases v with
      | bor j => simp only [dead1, killv]; split <;> simp [dead1, deadV]
      | sptr j a b => simp only [dead1, killv]; split <;> simp [dead1, deadV]
      | _ => simp [dead1, killv]
    · rfl
  · rfl
theorem pa_pa {p q : Option (Nat × Nat)} {i : Nat} {v : AVal} : pa p i (pa q i v) = pa q i (pa p i v) := by
  cases p with
  | none => rfl
  | some p =>
    cases q with
    | none => rfl
    | some q =>
      obtain ⟨j, k⟩ := p
      obtain ⟨j', k'⟩ := q
      simp only [pa]
      by_cases h1 : j = i
      · by_cases h2 : j' = i
        · rw [if_pos h1, if_pos h2]
          by_cases hk : k = k'
          · subst hk; simp [h1, h2]
          · cases v with
            | tup vs => simp [dead1, h1, h2, List.set_comm _ _ hk]
            | _ => simp [dead1, h1, h2]
        · simp [h1, h2]
      · by_cases h2 : j' = i
        · simp [h1, h2]
        · simp [h1, h2]
theorem killv_bor {G : List Nat} {j : Nat} : killv G (.bor j) = if hasN G j = true then deadV else .bor j := rfl
theorem killv_sptr {G : List Nat} {j a b : Nat} : killv G (.sptr j a b) = if hasN G j = true then deadV else .sptr j a b := rfl
theorem killv_deadV {G : List Nat} : killv G deadV = deadV := rfl
theorem killv_killv {G G' : List Nat} {v : AVal} : killv G (killv G' v) = killv G' (killv G v) := by
  cases v with
  | bor j =>
    by_cases h1 : hasN G j = true <;> by_cases h2 : hasN G' j = true <;> simp [killv_bor, killv_deadV, h1, h2]
  | sptr j a b =>
    by_cases h1 : hasN G j = true <;> by_cases h2 : hasN G' j = true <;> simp [killv_sptr, killv_deadV, h1, h2]
  | _ => rfl
theorem pass_pass {G G' : List Nat} {p q : Option (Nat × Nat)} {i : Nat} {v : AVal} : passE G p i (passE G' q i v) = passE G' q i (passE G p i v) := by
  unfold passE
  rw [← killv_pa, killv_killv, pa_pa]
  congr 1
  rw [← killv_pa]

/-! ### Views -/
theorem flatMap_same {α β : Type} {f g : α → List β} : ∀ {l : List α}, (∀ x ∈ l, f x = g x) → l.flatMap f = l.flatMap g
  | [], _ => rfl
  | a :: l, h => by simp only [List.flatMap_cons]; rw [h a (by simp), flatMap_same fun x hx => h x (List.mem_cons_of_mem _ hx)]
def root1 : AVal → List Nat
  | .bor i => [i]
  | .sptr i _ _ => [i]
  | _ => []
def rootO : Option AVal → List Nat
  | some v => root1 v
  | none => []
theorem rootsOf_eq (env : Env) (ts : List Nat) : rootsOf env ts = ts.flatMap fun t => rootO (eget env t) := by
  induction ts with
  | nil => rfl
  | cons t r ih =>
    simp only [rootsOf, List.flatMap_cons, ← ih]
    cases eget env t with
    | none => rfl
    | some v => cases v <;> rfl
theorem mem_rootsOf {env : Env} {ts : List Nat} {t i : Nat} {v : AVal} (ht : t ∈ ts) (hv : eget env t = some v) (hi : i ∈ root1 v) : i ∈ rootsOf env ts := by
  rw [rootsOf_eq]
  exact List.mem_flatMap.2 ⟨t, ht, by rw [hv]; exact hi⟩
theorem viewOf_congr {env env' : Env} {ts : List Nat} (h : ∀ t ∈ ts, eget env t = eget env' t) : viewOf env ts = viewOf env' ts := by
  induction ts with
  | nil => rfl
  | cons t r ih =>
    simp only [viewOf, h t (by simp), ih fun t ht => h t (List.mem_cons_of_mem _ ht)]

/-- two states of a slot: the same, but for a part of a tuple that an operation takes -/
def simE (q : Option (Nat × Nat)) (i : Nat) (x y : Option AVal) : Prop :=
  x = y ∨ ∃ k vs vs', q = some (i, k) ∧ x = some (.tup vs) ∧ y = some (.tup vs') ∧ ∀ m, m ≠ k → vs[m]? = vs'[m]?
theorem simE.symm {q : Option (Nat × Nat)} {i : Nat} {x y : Option AVal} (h : simE q i x y) : simE q i y x := by
  rcases h with h | ⟨k, vs, vs', h1, h2, h3, h4⟩
  · exact .inl h.symm
  · exact .inr ⟨k, vs', vs, h1, h3, h2, fun m hm => (h4 m hm).symm⟩
theorem sim_pa (q : Option (Nat × Nat)) (i : Nat) (x : Option AVal) : simE q i x (x.map (pa q i)) := by
  cases x with
  | none => exact .inl rfl
  | some v =>
    cases q with
    | none => exact .inl rfl
    | some q =>
      obtain ⟨j, k⟩ := q
      by_cases e : j = i
      · subst e
        cases v with
        | tup vs =>
          refine .inr ⟨k, vs, vs.set k deadV, rfl, rfl, by simp [pa, dead1], fun m hm => ?_⟩
          rw [List.getElem?_set_ne (Ne.symm hm)]
        | _ => left; simp [pa, dead1]
      · left; simp [pa, e]
theorem simE.root {q : Option (Nat × Nat)} {i : Nat} {x y : Option AVal} (h : simE q i x y) : rootO x = rootO y := by
  rcases h with rfl | ⟨k, vs, vs', _, rfl, rfl, _⟩
  · rfl
  · rfl
theorem simE.vec {q : Option (Nat × Nat)} {i : Nat} {x y : Option AVal} (h : simE q i x y) {l : List AVal} {o : Own} (hx : x = some (.vec l o)) : x = y := by
  rcases h with h | ⟨k, vs, vs', _, h1, _⟩
  · exact h
  · rw [hx] at h1; cases h1
theorem isVecAt_iff {env : Env} {i : Nat} (h : isVecAt env i = true) : ∃ l o, eget env i = some (.vec l o) := by
  unfold isVecAt at h
  split at h
  · rename_i l o hl; exact ⟨l, o, hl⟩
  · cases h

/-! ### Objects that read the same -/
def simO : Option AObj → Option AObj → Prop
  | some (.box a), some (.box b) => a.map ro1 = b.map ro1
  | x, y => x = y
theorem simO.refl (x : Option AObj) : simO x x := by
  cases x with
  | none => rfl
  | some o => cases o <;> rfl
theorem simO.cases {x y : Option AObj} (h : simO x y) : (∃ a b, x = some (.box a) ∧ y = some (.box b) ∧ a.map ro1 = b.map ro1) ∨ x = y := by
  unfold simO at h
  split at h
  · exact .inl ⟨_, _, rfl, rfl, h⟩
  · exact .inr h
theorem simO.symm {x y : Option AObj} (h : simO x y) : simO y x := by
  rcases h.cases with ⟨a, b, rfl, rfl, h⟩ | rfl
  · exact Eq.symm h
  · exact simO.refl _
theorem simO.trans {x y z : Option AObj} (h : simO x y) (k : simO y z) : simO x z := by
  rcases h.cases with ⟨a, b, rfl, rfl, h⟩ | rfl
  · rcases k.cases with ⟨a', b', h1, rfl, k⟩ | rfl
    · cases h1; exact Eq.trans h k
    · exact h
  · exact k
theorem partOf_sim {P : Program} {t : TypeId} {a b : List AVal} (h : a.map ro1 = b.map ro1) (off : Nat) : partOf P t a off = partOf P t b off := by
  have hl : a.length = b.length := by have := congrArg List.length h; simpa using this
  unfold partOf
  split
  · rfl
  · rw [hl]
    split
    · split
      · congr 2
        rw [List.map_take, List.map_take, List.map_drop, List.map_drop, h]
      · rfl
    · rw [← List.getElem?_map, ← List.getElem?_map, h]
theorem opL_sim {P : Program} {env : Env} {x y : Option AObj} (h : simO x y) (o : Oper) : opL P env x o = opL P env y o := by
  rcases h.cases with ⟨a, b, rfl, rfl, h⟩ | rfl
  · unfold opL
    split
    · unfold loadE
      simp only [partOf_sim h]
    · unfold lookupE
      split
      · rename_i r _ _ _ _
        cases r <;> rfl
      · rfl
    · split
      · unfold lenE
        split
        · split <;> try rfl
          rename_i r _ _
          cases r <;> rfl
        · rfl
      · rfl
    · rfl
  · rfl

theorem isUn_false {x : Option AVal} (h : x ≠ some .nilFunc) : isUn x = false := by
  unfold isUn
  split
  · exact absurd rfl h
  · rfl
/-! ### What an operation does, as a function of what it sees -/
section
variable (X : Ctx) (pre : List (Nat × Nat)) (ops : List Oper)
def reqE (o : Oper) (st : St) : List Nat := slotsOf ops o ++ rootsOf st.env (slotsOf ops o)
/-- an operation's run or its being passed by ('un') -/
structure PlanE (o : Oper) (st : St) (p : Option (Nat × Nat)) (rd : List Nat) (c : OutC) (un : Bool) (lim : Option Nat) : Prop where
  roots : ∀ i ∈ rootsOf st.env (slotsOf ops o), X.hint.vars.testBit i = true ∧ isVecAt st.env i = true
  body : (un = false ∧ wantedE (viewOf st.env (reqE ops o st)) (viewOf st.facts (slotsOf ops o)) ops o = some true ∧ planE X pre (kindE ops o) o (viewOf st.env (reqE ops o st)) (viewOf st.facts (slotsOf ops o)) st.heap = some (p, rd, c) ∧
      okE (reqE ops o st) o.dst c = true ∧ lim = limE (kindE ops o) st.heap) ∨
    (un = true ∧ wantedE (viewOf st.env (reqE ops o st)) (viewOf st.facts (slotsOf ops o)) ops o = some false ∧ p = none ∧ rd = [] ∧ c = ⟨⟨[], [], deadV, none⟩, st.heap, []⟩ ∧ lim = none)
def endOp (p : Option (Nat × Nat)) (un : Bool) (o : Oper) (st : St) (c : OutC) : St :=
  if un then { applyE p st o.dst c with facts := factU (applyE p st o.dst c).facts o.dst } else applyE p st o.dst c
theorem stepE_iff {o : Oper} {st st' : St} {tr : Tr} : stepE X pre ops o st = some (st', tr) ↔
    ∃ p rd c un lim, PlanE X pre ops o st p rd c un lim ∧ st' = endOp p un o st c ∧ tr = traceE X.hint.vars st o.dst (reqE ops o st) rd lim c := by
  unfold stepE
  simp only []
  constructor
  · intro h
    split at h
    case isFalse => cases h
    rename_i hr
    have hr' : ∀ i ∈ rootsOf st.env (slotsOf ops o), X.hint.vars.testBit i = true ∧ isVecAt st.env i = true := fun i hi => by
      have := List.all_eq_true.1 hr i hi
      simpa using this
    split at h
    · rename_i hw
      split at h
      · rename_i p rd c hp
        split at h
        · rename_i hok
          cases h
          exact ⟨p, rd, c, false, _, ⟨hr', .inl ⟨rfl, hw, hp, hok, rfl⟩⟩, rfl, rfl⟩
        · cases h
      · cases h
    · rename_i hw
      cases h
      exact ⟨none, [], _, true, none, ⟨hr', .inr ⟨rfl, hw, rfl, rfl, rfl, rfl⟩⟩, rfl, rfl⟩
    · cases h
  · rintro ⟨p, rd, c, un, lim, ⟨hr, hb⟩, rfl, rfl⟩
    rw [if_pos (List.all_eq_true.2 fun i hi => by simpa using hr i hi)]
    rcases hb with ⟨rfl, hw, hp, hok, rfl⟩ | ⟨rfl, hw, rfl, rfl, rfl, rfl⟩
    · unfold reqE at hw hp hok
      rw [hw]
      simp only [hp, hok, if_true, endOp, reqE]
      rfl
    · unfold reqE at hw
      rw [hw]
      rfl
end

section
variable {X : Ctx} {pre : List (Nat × Nat)} {ops : List Oper} {o : Oper} {st : St} {p : Option (Nat × Nat)} {rd : List Nat} {c : OutC} {un : Bool} {lim : Option Nat}
theorem slotsOf_dst {d : Nat} (h : o.dst = some d) : d ∈ slotsOf ops o := by simp [slotsOf, h]
theorem plan_shape {k : Kind} {env fs : Env} {heap : Heap} (h : planE X pre k o env fs heap = some (p, rd, c)) :
    (k ≠ .C → c.heap = heap ∧ c.wr = []) ∧ (k ≠ .L → rd = []) ∧ (∀ id off, c.out.fact = some (id, off) → id ∈ rd) ∧
    (∀ j i, p = some (j, i) → k = .X ∧ o.op = .extract (.tmp j) i ∧ X.hint.vars.testBit j = false ∧ o.dst ≠ some j ∧ c.out.ups = [] ∧ c.out.gone = []) := by
  cases k with
  | N =>
    simp only [planE] at h
    split at h
    · cases h
      exact ⟨fun _ => ⟨rfl, rfl⟩, fun _ => rfl, fun id off e => by simp [noFact] at e, fun j i e => by cases e⟩
    · cases h
  | L =>
    simp only [planE] at h
    split at h
    · rename_i out _
      cases h
      refine ⟨fun _ => ⟨rfl, rfl⟩, fun e => absurd rfl e, fun id off e => ?_, fun j i e => by cases e⟩
      simp only [factOf] at e
      split at e
      · split at e
        · rename_i hid; cases e; rw [hid]; simp
        · cases e
      · cases e
    · cases h
  | C =>
    simp only [planE] at h
    split at h
    · cases h
      exact ⟨fun e => absurd rfl e, fun _ => rfl, fun id off e => by simp [noFact] at e, fun j i e => by cases e⟩
    · cases h
  | X =>
    simp only [planE] at h
    split at h
    · rename_i j i hop
      split at h
      · cases h
      · rename_i hv
        simp only [Bool.or_eq_true, not_or, Bool.not_eq_true, beq_eq_false_iff_ne, ne_eq] at hv
        split at h
        · split at h
          · split at h
            · cases h
            · cases h
              exact ⟨fun _ => ⟨rfl, rfl⟩, fun _ => rfl, fun id off e => by (cases e), fun j' i' e => by cases e; exact ⟨rfl, hop, hv.1, hv.2, rfl, rfl⟩⟩
          · cases h
        · cases h
    · cases h

/-- what is known of whatever an operation does -/
structure Facts (X : Ctx) (ops : List Oper) (o : Oper) (st : St) (p : Option (Nat × Nat)) (rd : List Nat) (c : OutC) (un : Bool) (lim : Option Nat) : Prop where
  ups : ∀ i v, (i, v) ∈ c.out.ups → i ∈ reqE ops o st ∧ varOk v = true
  gone : ∀ i ∈ c.out.gone, i ∈ reqE ops o st
  val : ∀ j, (c.out.val = .bor j ∨ ∃ a b, c.out.val = .sptr j a b) → j ∈ reqE ops o st ∧ o.dst ≠ some j
  punch : ∀ j i, p = some (j, i) → kindE ops o = .X ∧ o.op = .extract (.tmp j) i ∧ X.hint.vars.testBit j = false ∧ o.dst ≠ some j ∧ c.out.ups = [] ∧ c.out.gone = []
  heap : kindE ops o ≠ .C → c.heap = st.heap ∧ c.wr = []
  rdn : kindE ops o ≠ .L → rd = []
  fact : ∀ id off, c.out.fact = some (id, off) → id ∈ rd
  lim : kindE ops o = .C → un = false → lim = some st.heap.length
  unl : un = true → c.heap = st.heap ∧ c.wr = [] ∧ rd = [] ∧ p = none
theorem PlanE.facts (h : PlanE X pre ops o st p rd c un lim) : Facts X ops o st p rd c un lim := by
  obtain ⟨_, hb⟩ := h
  rcases hb with ⟨rfl, hw, hp, hok, rfl⟩ | ⟨rfl, hw, rfl, rfl, rfl, rfl⟩
  · obtain ⟨h1, h2, h3, h4⟩ := plan_shape hp
    simp only [okE, Bool.and_eq_true, List.all_eq_true] at hok
    obtain ⟨⟨k1, k2⟩, k3⟩ := hok
    refine ⟨fun i v hm => ?_, fun i hi => hasN_iff.1 (k3 i hi), fun j hj => ?_, h4, h1, h2, h3, fun hk _ => by simp [limE, hk], fun e => by cases e⟩
    · have := k1 (i, v) hm
      exact ⟨hasN_iff.1 this.1, this.2⟩
    · rcases hj with e | ⟨a, b, e⟩
      · rw [e] at k2; simp only [borOk, Bool.and_eq_true, hasN_iff, bne_iff_ne] at k2; exact k2
      · rw [e] at k2; simp only [borOk, Bool.and_eq_true, hasN_iff, bne_iff_ne] at k2; exact k2
  · exact ⟨fun i v hm => by (cases hm), fun i hi => by (cases hi), fun j hj => (by rcases hj with e | ⟨a, b, e⟩ <;> cases e), fun j i e => (by cases e), fun _ => ⟨rfl, rfl⟩, fun _ => rfl, fun id off e => (by cases e), fun _ e => (by cases e), fun _ => ⟨rfl, rfl, rfl, rfl⟩⟩

/-- the same operation in another state that it sees as the same -/
theorem PlanE.move {st' : St} {q : Option (Nat × Nat)} (h : PlanE X pre ops o st p rd c un lim) (hE : ∀ i ∈ reqE ops o st, simE q i (eget st.env i) (eget st'.env i))
    (hq : ∀ j k, q = some (j, k) → j ∈ slotsOf ops o → ∃ k', o.op = .extract (.tmp j) k' ∧ k ≠ k')
    (hf : ∀ t ∈ slotsOf ops o, (eget st.facts t = some .nilFunc ↔ eget st'.facts t = some .nilFunc))
    (hC : kindE ops o = .C → (∀ t ∈ slotsOf ops o, eget st.facts t = eget st'.facts t) ∧ st.heap = st'.heap)
    (hL : kindE ops o = .L → ∀ id ∈ rd, simO (hget st.heap id) (hget st'.heap id)) :
    reqE ops o st' = reqE ops o st ∧ ∃ c', c'.out = c.out ∧ c'.wr = c.wr ∧ (kindE ops o = .C → c' = c) ∧ PlanE X pre ops o st' p rd c' un lim := by
  have hroots : rootsOf st'.env (slotsOf ops o) = rootsOf st.env (slotsOf ops o) := by
    rw [rootsOf_eq, rootsOf_eq]
    refine flatMap_same fun t ht => ?_
    exact ((hE t (by simp [reqE, ht])).root).symm
  have hreq : reqE ops o st' = reqE ops o st := by simp only [reqE, hroots]
  refine ⟨hreq, ?_⟩
  obtain ⟨hr, hb⟩ := h
  have hvec : ∀ i ∈ rootsOf st.env (slotsOf ops o), eget st.env i = eget st'.env i := fun i hi => by
    obtain ⟨l, ow, hl⟩ := isVecAt_iff (hr i hi).2
    exact (hE i (by simp [reqE, hi])).vec hl
  have hr' : ∀ i ∈ rootsOf st'.env (slotsOf ops o), X.hint.vars.testBit i = true ∧ isVecAt st'.env i = true := fun i hi => by
    rw [hroots] at hi
    refine ⟨(hr i hi).1, ?_⟩
    have := (hr i hi).2
    unfold isVecAt at this ⊢
    rwa [← hvec i hi]
  have hwant : wantedE (viewOf st'.env (reqE ops o st')) (viewOf st'.facts (slotsOf ops o)) ops o = wantedE (viewOf st.env (reqE ops o st)) (viewOf st.facts (slotsOf ops o)) ops o := by
    rw [hreq]
    unfold wantedE
    split
    · rfl
    · rename_i j want hg
      split
      · rename_i d hd
        have hds : d ∈ slotsOf ops o := by simp [slotsOf, guardSlot, hg, hd]
        have hdr : d ∈ reqE ops o st := by simp [reqE, hds]
        have v1 : ∀ e : Env, eget (viewOf e (reqE ops o st)) d = eget e d := fun e => by rw [eget_viewOf, if_pos hdr]
        have v2 : ∀ e : Env, eget (viewOf e (slotsOf ops o)) d = eget e d := fun e => by rw [eget_viewOf, if_pos hds]
        rw [v1, v1, v2, v2]
        have h1 := hE d (by simp [reqE, hds])
        have h2 := hf d hds
        have h3 : isUn (eget st'.facts d) = isUn (eget st.facts d) := by
          by_cases e : eget st.facts d = some .nilFunc
          · rw [e, h2.1 e]
          · have e' : eget st'.facts d ≠ some .nilFunc := fun h => e (h2.2 h)
            rw [isUn_false e, isUn_false e']
        rcases h1 with h1 | ⟨k, vs, vs', _, e1, e2, _⟩
        · rw [h1, h3]
        · rw [e1, e2]
          simp only [h3]
      · rfl
  rcases hb with ⟨rfl, hw, hp, hok, rfl⟩ | ⟨rfl, hw, rfl, rfl, rfl, rfl⟩
  · -- it runs
    by_cases hsame : ∀ i ∈ reqE ops o st, eget st.env i = eget st'.env i
    · have hv : viewOf st'.env (reqE ops o st') = viewOf st.env (reqE ops o st) := by
        rw [hreq]; exact (viewOf_congr hsame).symm
      cases hk : kindE ops o with
      | N =>
        rw [hk] at hp
        simp only [planE] at hp
        split at hp
        · rename_i out ho
          cases hp
          refine ⟨⟨noFact out, st'.heap, []⟩, rfl, rfl, (fun e => by cases e), hr', .inl ⟨rfl, by rw [hwant]; exact hw, ?_, by rw [hreq]; exact hok, by rw [hk]; rfl⟩⟩
          rw [hk, hv]
          simp only [planE, ho]
        · cases hp
      | L =>
        rw [hk] at hp
        simp only [planE] at hp
        split at hp
        · rename_i out ho
          cases hp
          refine ⟨⟨factOf _ out, st'.heap, []⟩, rfl, rfl, (fun e => by cases e), hr', .inl ⟨rfl, by rw [hwant]; exact hw, ?_, by rw [hreq]; exact hok, by rw [hk]; rfl⟩⟩
          rw [hk, hv]
          simp only [planE]
          rw [opL_sim (y := (aimE (viewOf st.env (reqE ops o st)) o).bind (hget st.heap)), ho]
          cases ha : aimE (viewOf st.env (reqE ops o st)) o with
          | none => exact .refl _
          | some id => exact (hL hk id (by simp [ha])).symm
        · cases hp
      | C =>
        obtain ⟨h1, h2⟩ := hC hk
        have hvf : viewOf st'.facts (slotsOf ops o) = viewOf st.facts (slotsOf ops o) := (viewOf_congr h1).symm
        refine ⟨c, rfl, rfl, fun _ => rfl, hr', .inl ⟨rfl, by rw [hwant]; exact hw, ?_, by rw [hreq]; exact hok, by rw [h2, hk]⟩⟩
        rw [hv, hvf, ← h2]
        exact hp
      | X =>
        rw [hk] at hp
        simp only [planE] at hp
        split at hp
        · rename_i j i hop
          split at hp
          · cases hp
          · rename_i hvv
            split at hp
            · rename_i vs hj
              split at hp
              · rename_i v hvi
                split at hp
                · cases hp
                · rename_i htn
                  cases hp
                  refine ⟨⟨⟨[], [], v, none⟩, st'.heap, []⟩, rfl, rfl, (fun e => by cases e), hr', .inl ⟨rfl, by rw [hwant]; exact hw, ?_, by rw [hreq]; exact hok, by rw [hk]; rfl⟩⟩
                  rw [hk, hv]
                  simp only [planE, hop]
                  rw [if_neg hvv, hj]
                  simp only [hvi]
                  rw [if_neg htn]
              · cases hp
            · cases hp
        · cases hp
    · -- a part of the same tuple
      obtain ⟨i, hi, hne⟩ : ∃ i, i ∈ reqE ops o st ∧ eget st.env i ≠ eget st'.env i := by
        apply Classical.byContradiction
        intro hc
        exact hsame fun i hi => Classical.byContradiction fun h => hc ⟨i, hi, h⟩
      rcases hE i hi with h1 | ⟨k, vs, vs', hqq, e1, e2, hm⟩
      · exact absurd h1 hne
      have hit : i ∈ slotsOf ops o := by
        rcases List.mem_append.1 hi with h1 | h1
        · exact h1
        · exact absurd (hvec i h1) hne
      obtain ⟨k', hop, hkk⟩ := hq i k hqq hit
      have hk : kindE ops o = .X := by simp [kindE, hop]
      rw [hk] at hp
      simp only [planE, hop] at hp
      split at hp
      · cases hp
      · rename_i hvv
        rw [eget_viewOf, if_pos hi, e1] at hp
        simp only [] at hp
        split at hp
        · rename_i v hvi
          split at hp
          · cases hp
          rename_i htn
          cases hp
          refine ⟨⟨⟨[], [], v, none⟩, st'.heap, []⟩, rfl, rfl, (fun e => by rw [hk] at e; cases e), hr', .inl ⟨rfl, by rw [hwant]; exact hw, ?_, by rw [hreq]; exact hok, by rw [hk]; rfl⟩⟩
          rw [hk]
          simp only [planE, hop]
          rw [if_neg hvv, eget_viewOf, hreq, if_pos hi, e2]
          simp only [← hm k' (Ne.symm hkk), hvi]
          rw [if_neg htn]
        · cases hp
  · exact ⟨⟨⟨[], [], deadV, none⟩, st'.heap, []⟩, rfl, rfl, fun e => by rw [(hC e).2], hr', .inr ⟨rfl, by rw [hwant]; exact hw, rfl, rfl, rfl, rfl⟩⟩
end
end Go.Abs
end

section
/- Two operations that are not ordered change places. -/
namespace Go.Abs
open Go
set_option linter.unusedSimpArgs false
set_option linter.unusedVariables false
set_option linter.unusedSectionVars false

/-- states that are the same to all that follows -/
structure Eqv (s t : St) : Prop where
  env : ∀ i, eget s.env i = eget t.env i
  facts : ∀ i, eget s.facts i = eget t.facts i
  heap : s.heap = t.heap
  wr : ∀ i, i ∈ s.wr ↔ i ∈ t.wr
theorem Eqv.refl (s : St) : Eqv s s := ⟨fun _ => rfl, fun _ => rfl, rfl, fun _ => Iff.rfl⟩
theorem Eqv.symm {s t : St} (h : Eqv s t) : Eqv t s := ⟨fun i => (h.env i).symm, fun i => (h.facts i).symm, h.heap.symm, fun i => (h.wr i).symm⟩
theorem Eqv.trans {s t u : St} (h : Eqv s t) (k : Eqv t u) : Eqv s u := ⟨fun i => (h.env i).trans (k.env i), fun i => (h.facts i).trans (k.facts i), h.heap.trans k.heap, fun i => (h.wr i).trans (k.wr i)⟩

theorem disjE_iff {a b : List Nat} : disjE a b = true ↔ ∀ i ∈ a, i ∉ b := by
  simp only [disjE, anyN, Bool.not_eq_true', List.any_eq_false]
  constructor
  · intro h i hi hb
    exact h i hi (hasN_iff.2 hb)
  · intro h i hi hb
    exact h i hi (hasN_iff.1 hb)

/-- two operations of a region that may change places -/
def offOk (ops : List Oper) (a b : Oper) : Bool := offE ops a b && offE ops b a && !(decide (kindE ops a = .C) && decide (kindE ops b = .C))
theorem offE_iff {ops : List Oper} {a b : Oper} (h : offE ops a b = true) : (∀ d, a.dst = some d → d ∉ slotsOf ops b) ∧ ∀ j i, a.op = .extract (.tmp j) i → j ∈ slotsOf ops b → ∃ k, b.op = .extract (.tmp j) k ∧ i ≠ k := by
  simp only [offE, Bool.and_eq_true, List.all_eq_true] at h
  obtain ⟨h1, h2⟩ := h
  refine ⟨fun d hd hm => ?_, fun j i ho hj => ?_⟩
  · have := h1 d (by simp [hd])
    simp [hasN_iff.2 hm] at this
  · have := h2 j (by simp [tupOf, ho])
    simp only [hasN_iff.2 hj, Bool.not_true, Bool.false_or] at this
    unfold partsE at this
    rw [ho] at this
    split at this
    · rename_i x y k hx hy
      cases hx
      simp only [Bool.and_eq_true, beq_iff_eq, bne_iff_ne] at this
      obtain ⟨⟨_, e1⟩, hne⟩ := this
      subst e1
      exact ⟨_, hy, hne⟩
    · cases this

/-! ### Facts about slots behind an operation -/
def factAt (un : Bool) (dst : Option Nat) (c : OutC) (f : Env) (i : Nat) : Option AVal :=
  if dst = some i then (if un then some .nilFunc else match c.out.fact with
    | some p => some (.ptr (some p))
    | none => (eget f i).map fun _ => deadV) else (eget f i).map (factv c.wr)
theorem eget_factPut {f : Env} {dst : Option Nat} {x : Option (Nat × Nat)} (i : Nat) : eget (factPut f dst x) i = if dst = some i then (match x with
    | some p => some (.ptr (some p))
    | none => (eget f i).map fun _ => deadV) else eget f i := by
  cases dst with
  | none => simp [factPut]
  | some d =>
    by_cases e : d = i
    · subst e
      rw [if_pos rfl]
      cases x with
      | some p => simp [factPut, eget_eset]
      | none =>
        simp only [factPut]
        cases h : eget f d with
        | none => simp [h]
        | some v => simp [eget_eset]
    · rw [if_neg (by simpa using e)]
      cases x with
      | some p => simp [factPut, eget_eset, e]
      | none =>
        simp only [factPut]
        cases h : eget f d with
        | none => rfl
        | some v => simp [eget_eset, e]
theorem end_facts (p : Option (Nat × Nat)) (un : Bool) (o : Oper) (st : St) (c : OutC) (i : Nat) : eget (endOp p un o st c).facts i = factAt un o.dst c st.facts i := by
  unfold endOp factAt
  cases un with
  | false =>
    simp only [Bool.false_eq_true, if_false, applyE]
    rw [eget_factPut, eget_factsKill]
    by_cases e : o.dst = some i
    · rw [if_pos e, if_pos e]
      split
      · rfl
      · simp [Option.map_map]
        cases eget st.facts i <;> rfl
    · rw [if_neg e, if_neg e]
  | true =>
    simp only [if_true, applyE]
    cases hd : o.dst with
    | none => simp [factU, eget_factPut, eget_factsKill]
    | some d =>
      simp only [factU]
      rw [eget_eset, eget_factPut, eget_factsKill]
      by_cases e : d = i
      · subst e; simp
      · simp [e]
theorem end_env (p : Option (Nat × Nat)) (un : Bool) (o : Oper) (st : St) (c : OutC) (i : Nat) :
    eget (endOp p un o st c).env i = (lastOf (upsOf o.dst c.out) i).or ((eget st.env i).map (passE (goneOf st.env o.dst c.out.gone) p i)) := by
  rw [← apply_env]
  unfold endOp
  split <;> rfl
theorem end_heap (p : Option (Nat × Nat)) (un : Bool) (o : Oper) (st : St) (c : OutC) : (endOp p un o st c).heap = c.heap := by
  unfold endOp; split <;> rfl
theorem end_wr (p : Option (Nat × Nat)) (un : Bool) (o : Oper) (st : St) (c : OutC) : (endOp p un o st c).wr = c.wr ++ st.wr := by
  unfold endOp; split <;> rfl
theorem factv_nil {v : AVal} : factv [] v = v := by
  unfold factv
  split
  · simp [hasN]
  · rfl
theorem factv_isUn {wr : List Nat} {x : Option AVal} : x.map (factv wr) = some .nilFunc ↔ x = some .nilFunc := by
  constructor
  · intro h
    obtain ⟨v, hv, he⟩ := Option.map_eq_some_iff.1 h
    rw [hv, factv_nilFunc he]
  · rintro rfl; rfl
theorem factv_factv {wr wr' : List Nat} {v : AVal} : factv wr (factv wr' v) = factv wr' (factv wr v) := by
  cases v with
  | ptr a =>
    cases a with
    | none => rfl
    | some p =>
      obtain ⟨id, off⟩ := p
      by_cases h1 : hasN wr id = true <;> by_cases h2 : hasN wr' id = true <;> simp [factv, h1, h2, deadV]
  | _ => rfl

section
variable {X : Ctx} {pre : List (Nat × Nat)} {ops : List Oper}
/-- the slots that an operation writes or whose borrowers it drops, as its trace tells them -/
structure Touch (X : Ctx) (ops : List Oper) (o : Oper) (st : St) (c : OutC) (tr : Tr) : Prop where
  wv : ∀ i, (c.out.ups ≠ [] ∨ c.out.gone ≠ [] ∨ isVar X.hint.vars o.dst = true) → ((∃ v, (i, v) ∈ upsOf o.dst c.out) ∨ i ∈ goneOf st.env o.dst c.out.gone) → i ∈ tr.wv
theorem touch_trace {o : Oper} {st : St} {rd : List Nat} {lim : Option Nat} {c : OutC} {req : List Nat} : Touch X ops o st c (traceE X.hint.vars st o.dst req rd lim c) := by
  refine ⟨fun i h k => ?_⟩
  simp only [traceE]
  rw [if_neg]
  · rcases k with ⟨v, hv⟩ | k
    · exact List.mem_append_left _ (List.mem_map.2 ⟨_, hv, rfl⟩)
    · exact List.mem_append_right _ k
  · intro e
    simp only [Bool.and_eq_true, List.isEmpty_iff, Bool.not_eq_true'] at e
    rcases h with h | h | h
    · exact h e.1.1
    · exact h e.1.2
    · rw [h] at e; cases e.2
theorem mem_upsOf {dst : Option Nat} {c : Out} {i : Nat} {v : AVal} : (i, v) ∈ upsOf dst c ↔ (i, v) ∈ c.ups ∨ (dst = some i ∧ v = c.val) := by
  cases dst with
  | none => simp [upsOf]
  | some d =>
    simp only [upsOf, List.mem_append, List.mem_singleton, Prod.mk.injEq, Option.some.injEq]
    constructor
    · rintro (h | ⟨rfl, rfl⟩)
      · exact .inl h
      · exact .inr ⟨rfl, rfl⟩
    · rintro (h | ⟨rfl, rfl⟩)
      · exact .inl h
      · exact .inr ⟨rfl, rfl⟩
theorem mem_goneOf {env : Env} {dst : Option Nat} {gone : List Nat} {i : Nat} (h : i ∈ goneOf env dst gone) : i ∈ gone ∨ dst = some i := by
  unfold goneOf at h
  split at h
  · split at h
    · rcases List.mem_cons.1 h with rfl | h
      · exact .inr rfl
      · exact .inl h
    · exact .inl h
  · exact .inl h
/-- AN OPERATION TOUCHES NO SLOT THAT THE OTHER LOOKS AT. -/
theorem noTouch {a b : Oper} {st sb : St} {p : Option (Nat × Nat)} {rd : List Nat} {c : OutC} {un : Bool} {lim : Option Nat} {tr : Tr} (fa : Facts X ops a st p rd c un lim) (ta : Touch X ops a st c tr)
    (hd : ∀ d, a.dst = some d → d ∉ slotsOf ops b) (hv : ∀ i ∈ rootsOf sb.env (slotsOf ops b), X.hint.vars.testBit i = true) (hw : ∀ i ∈ tr.wv, i ∉ reqE ops b sb) {i : Nat} (hi : i ∈ reqE ops b sb) :
    lastOf (upsOf a.dst c.out) i = none ∧ i ∉ goneOf st.env a.dst c.out.gone := by
  have hdst : a.dst ≠ some i := by
    intro e
    rcases List.mem_append.1 hi with h1 | h1
    · exact hd i e h1
    · have hvar : isVar X.hint.vars a.dst = true := by rw [e]; exact hv i h1
      exact hw i (ta.wv i (.inr (.inr hvar)) (.inl ⟨_, mem_upsOf.2 (.inr ⟨e, rfl⟩)⟩)) hi
  refine ⟨lastOf_none fun v hm => ?_, fun hm => ?_⟩
  · rcases mem_upsOf.1 hm with h1 | ⟨h1, _⟩
    · exact hw i (ta.wv i (.inl (List.ne_nil_of_mem h1)) (.inl ⟨v, hm⟩)) hi
    · exact hdst h1
  · rcases mem_goneOf hm with h1 | h1
    · exact hw i (ta.wv i (.inr (.inl (List.ne_nil_of_mem h1))) (.inr hm)) hi
    · exact hdst h1

theorem killed_mem {G : List Nat} : ∀ {env : Env} {i : Nat} {v : AVal}, eget env i = some v → killed1 G v = true → i ∈ killedE G env
  | (k, u) :: r, i, v, h, hk => by
    simp only [eget] at h
    split at h
    · rename_i e; subst e; cases h
      simp [killedE, hk]
    · have := killed_mem h hk
      simp only [killedE]
      split
      · exact List.mem_cons_of_mem _ this
      · exact this
theorem killed_of {G : List Nat} {env : Env} {i : Nat} {v : AVal} (h : eget env i = some v) (hk : killed1 G v = true) : i ∈ killedOf G env := by
  unfold killedOf
  split
  · cases v <;> simp [killed1, hasN] at hk
  · exact killed_mem h hk
theorem killv_same {G : List Nat} {v : AVal} (h : killed1 G v = false) : killv G v = v := by
  cases v <;> simp_all [killed1, killv]
theorem killed1_pa {G : List Nat} {p : Option (Nat × Nat)} {i : Nat} {v : AVal} : killed1 G (pa p i v) = killed1 G v := by
  unfold pa
  split
  · split
    · cases v <;> rfl
    · rfl
  · rfl
theorem killed1_root {G : List Nat} {v : AVal} (h : killed1 G v = true) : ∃ r, r ∈ root1 v ∧ r ∈ G := by
  cases v with
  | bor j => exact ⟨j, by simp [root1], hasN_iff.1 h⟩
  | sptr j a b => exact ⟨j, by simp [root1], hasN_iff.1 h⟩
  | _ => cases h

/-! ### Steps up to what is seen -/
/-- what an operation looked at and turned -/
structure STr where
  rd : List Nat
  wr : List Nat
  req : List Nat
  wv : List Nat
  lim : Option Nat
  K : Nat → Prop
/-- the same but for the slots whose borrowed slices went -/
structure SameL (t u : STr) : Prop where
  rd : t.rd = u.rd
  wr : t.wr = u.wr
  req : t.req = u.req
  wv : t.wv = u.wv
  lim : t.lim = u.lim
theorem SameL.symm {t u : STr} (h : SameL t u) : SameL u t := ⟨h.rd.symm, h.wr.symm, h.req.symm, h.wv.symm, h.lim.symm⟩
theorem SameL.trans {t u v : STr} (h : SameL t u) (k : SameL u v) : SameL t v := ⟨h.rd.trans k.rd, h.wr.trans k.wr, h.req.trans k.req, h.wv.trans k.wv, h.lim.trans k.lim⟩
def sTr (X : Ctx) (ops : List Oper) (o : Oper) (st : St) (rd : List Nat) (lim : Option Nat) (c : OutC) : STr :=
  { rd := rd, wr := c.wr, req := reqE ops o st, wv := (traceE X.hint.vars st o.dst (reqE ops o st) rd lim c).wv, lim := lim, K := fun i => ∃ v, eget st.env i = some v ∧ killed1 (goneOf st.env o.dst c.out.gone) v = true }
def SStep (X : Ctx) (pre : List (Nat × Nat)) (ops : List Oper) (o : Oper) (st st' : St) (t : STr) : Prop :=
  ∃ p rd c un lim, PlanE X pre ops o st p rd c un lim ∧ Eqv (endOp p un o st c) st' ∧ t = sTr X ops o st rd lim c
/-- may two operations, the first ahead of the second, change places -/
structure OkP (s t : STr) : Prop where
  rw : ∀ i ∈ s.rd, i ∉ t.wr
  wr : ∀ i ∈ t.rd, i ∉ s.wr
  wv : ∀ i ∈ s.wv, i ∉ t.req
  vw : ∀ i ∈ t.wv, i ∉ s.req
  kl : ∀ i ∈ t.req, ¬ s.K i
  lim : ∀ n, s.lim = some n → ∀ i ∈ t.rd, i < n
  mil : ∀ n, t.lim = some n → ∀ i ∈ s.rd, i < n
theorem OkP.same {s s' t t' : STr} (h : OkP s t) (h1 : SameL s s') (hk : ∀ i, s'.K i → s.K i) (h2 : SameL t t') : OkP s' t' :=
  ⟨by rw [← h1.rd, ← h2.wr]; exact h.rw, by rw [← h2.rd, ← h1.wr]; exact h.wr, by rw [← h1.wv, ← h2.req]; exact h.wv, by rw [← h2.wv, ← h1.req]; exact h.vw,
   fun i hi hK => h.kl i (by rw [h2.req]; exact hi) (hk i hK), by rw [← h1.lim, ← h2.rd]; exact h.lim, by rw [← h2.lim, ← h1.rd]; exact h.mil⟩

theorem rd_of_step {o : Oper} {st st' : St} {tr : Tr} (h : stepE X pre ops o st = some (st', tr)) : ∃ t, SStep X pre ops o st st' t ∧ t.rd = tr.rd ∧ t.wr = tr.wr ∧ t.req = tr.req ∧ t.wv = tr.wv ∧ t.lim = tr.lim ∧ ∀ i, t.K i → i ∈ tr.kl := by
  obtain ⟨p, rd, c, un, lim, hp, rfl, rfl⟩ := (stepE_iff X pre ops).1 h
  exact ⟨_, ⟨p, rd, c, un, lim, hp, .refl _, rfl⟩, rfl, rfl, rfl, rfl, rfl, fun i ⟨v, hv, hk⟩ => killed_of hv hk⟩

theorem goneOf_same {env env' : Env} {dst : Option Nat} {gone : List Nat} (h : ∀ d, dst = some d → (eget env d).isSome = (eget env' d).isSome) : goneOf env dst gone = goneOf env' dst gone := by
  unfold goneOf
  cases dst with
  | none => rfl
  | some d =>
    have := h d rfl
    simp only []
    cases h1 : eget env d <;> cases h2 : eget env' d <;> simp_all
theorem simE.isSome {q : Option (Nat × Nat)} {i : Nat} {x y : Option AVal} (h : simE q i x y) : x.isSome = y.isSome := by
  rcases h with rfl | ⟨k, vs, vs', _, rfl, rfl, _⟩ <;> rfl
/-- the heap's objects that an operation does not write read the same behind it -/
def FrameOK (X : Ctx) : Prop := ∀ env fs heap o c, opC X env fs heap o = some c → ∀ id, id < heap.length → id ∉ c.wr → simO (hget c.heap id) (hget heap id)
theorem plan_frame (hfr : FrameOK X) {o : Oper} {st : St} {p : Option (Nat × Nat)} {rd : List Nat} {c : OutC} {un : Bool} {lim : Option Nat} (h : PlanE X pre ops o st p rd c un lim) {id : Nat} (hl : ∀ n, lim = some n → id < n) (hw : id ∉ c.wr) :
    simO (hget c.heap id) (hget st.heap id) := by
  by_cases hk : kindE ops o = .C
  · rcases h.body with ⟨rfl, _, hp, _, hlim⟩ | ⟨rfl, _, _, _, hc, _⟩
    · rw [hk] at hp
      simp only [planE] at hp
      split at hp
      · rename_i c' hc'
        cases hp
        exact hfr _ _ _ _ _ hc' id (hl _ (by rw [hlim, hk]; rfl)) hw
      · cases hp
    · rw [hc]; exact .refl _
  · rw [(h.facts.heap hk).1]; exact .refl _
theorem PlanE.eqv {o : Oper} {st st' : St} {p : Option (Nat × Nat)} {rd : List Nat} {c : OutC} {un : Bool} {lim : Option Nat} (h : PlanE X pre ops o st p rd c un lim) (e : Eqv st st') : PlanE X pre ops o st' p rd c un lim ∧ reqE ops o st' = reqE ops o st ∧ Eqv (endOp p un o st c) (endOp p un o st' c) := by
  obtain ⟨h1, c', k1, k2, k3, k4⟩ := h.move (st' := st') (q := none) (fun i _ => .inl (e.env i)) (fun j k hq => by cases hq) (fun t _ => by rw [e.facts]) (fun _ => ⟨fun t _ => e.facts t, e.heap⟩) (fun _ id _ => by rw [e.heap]; exact .refl _)
  have hcc : c' = c := by
    by_cases hk : kindE ops o = .C
    · exact k3 hk
    · have a := (k4.facts.heap hk).1
      have b := (h.facts.heap hk).1
      obtain ⟨o1, h2, w2⟩ := c'
      obtain ⟨o2, h3, w3⟩ := c
      simp only at k1 k2 a b
      rw [k1, k2, a, b, e.heap]
  subst hcc
  refine ⟨k4, h1, fun i => ?_, fun i => ?_, ?_, fun i => ?_⟩
  · rw [end_env, end_env, e.env, goneOf_same (env := st.env) (env' := st'.env) fun d _ => by rw [e.env]]
  · rw [end_facts, end_facts]; unfold factAt; rw [e.facts]
  · rw [end_heap, end_heap]
  · rw [end_wr, end_wr, List.mem_append, List.mem_append, e.wr]
theorem SStep.eqv {o : Oper} {s s' t t' : St} {tr : STr} (h : SStep X pre ops o s t tr) (e : Eqv s s') (e' : Eqv t t') : ∃ tr', SStep X pre ops o s' t' tr' ∧ SameL tr tr' ∧ ∀ i, tr'.K i ↔ tr.K i := by
  obtain ⟨p, rd, c, un, lim, hp, he, rfl⟩ := h
  obtain ⟨h1, h2, h3⟩ := hp.eqv e
  have hg : goneOf s'.env o.dst c.out.gone = goneOf s.env o.dst c.out.gone := goneOf_same fun d _ => by rw [e.env]
  refine ⟨_, ⟨p, rd, c, un, lim, h1, h3.symm.trans (he.trans e'), rfl⟩, ⟨rfl, rfl, h2.symm, ?_, rfl⟩, fun i => ?_⟩
  · simp only [sTr, traceE, hg]
  · simp only [sTr, hg, e.env]
end
end Go.Abs
end

section
/- Two operations that are not ordered change places: the proof; any admissible order of a region. -/
namespace Go.Abs
open Go
set_option linter.unusedSimpArgs false
set_option linter.unusedVariables false
set_option linter.unusedSectionVars false

section
variable {X : Ctx} {pre : List (Nat × Nat)} {ops : List Oper}

/-- a slot that an operation does not write, behind it -/
theorem end_pass {a : Oper} {st : St} {p : Option (Nat × Nat)} {un : Bool} {c : OutC} {i : Nat} (h1 : lastOf (upsOf a.dst c.out) i = none) (h2 : ∀ v, eget st.env i = some v → killed1 (goneOf st.env a.dst c.out.gone) v = false) :
    eget (endOp p un a st c).env i = (eget st.env i).map (pa p i) := by
  rw [end_env, h1, Option.none_or]
  cases h : eget st.env i with
  | none => rfl
  | some v =>
    simp only [Option.map_some, passE]
    rw [killv_same]
    rw [killed1_pa]
    exact h2 v h

/-- the value that an operation writes stands behind the other -/
theorem put_pass {a b : Oper} {st sb : St} {pA pB : Option (Nat × Nat)} {rd rdB : List Nat} {c cB : OutC} {un unB : Bool} {lim limB : Option Nat} (fa : Facts X ops a st pA rd c un lim) (fb : Facts X ops b sb pB rdB cB unB limB)
    (hnt : ∀ i ∈ reqE ops a st, i ∉ goneOf sb.env b.dst cB.out.gone) (hpb : ∀ j k, pB = some (j, k) → lastOf (upsOf a.dst c.out) j = none) {i : Nat} {v : AVal} (h : lastOf (upsOf a.dst c.out) i = some v) :
    passE (goneOf sb.env b.dst cB.out.gone) pB i v = v := by
  have h1 : pa pB i v = v := by
    unfold pa
    split
    · rename_i j k
      split
      · rename_i e; subst e
        rw [hpb j k rfl] at h; cases h
      · rfl
    · rfl
  unfold passE
  rw [h1]
  refine killv_same ?_
  cases hk : killed1 (goneOf sb.env b.dst cB.out.gone) v with
  | false => rfl
  | true =>
    obtain ⟨r, hr1, hr2⟩ := killed1_root hk
    have hor : v = .bor r ∨ ∃ x y, v = .sptr r x y := by
      cases v <;> simp [root1] at hr1
      · subst hr1; exact .inr ⟨_, _, rfl⟩
      · subst hr1; exact .inl rfl
    rcases mem_upsOf.1 (lastOf_some h) with hm | ⟨_, rfl⟩
    · have := (fa.ups i v hm).2
      rcases hor with rfl | ⟨x, y, rfl⟩ <;> cases this
    · exact absurd hr2 (hnt r (fa.val r hor).1)

theorem comm (hfr : FrameOK X) {a b : Oper} {st s1 s2 : St} {ta tb : STr} (h1 : SStep X pre ops a st s1 ta) (h2 : SStep X pre ops b s1 s2 tb) (hoff : offOk ops a b = true) (hok : OkP ta tb) :
    ∃ s1' ta' tb', SStep X pre ops b st s1' tb' ∧ SStep X pre ops a s1' s2 ta' ∧ SameL ta ta' ∧ (∀ i, ta'.K i → ta.K i) ∧ SameL tb tb' := by
  -- the first state may be taken as it is computed
  obtain ⟨pA, rdA, cA, unA, limA, hA, eA, rfl⟩ := h1
  obtain ⟨tb0, h2, hs0, hk0⟩ := h2.eqv eA.symm (.refl s2)
  obtain ⟨pB, rdB, cB, unB, limB, hB, eB, rfl⟩ := h2
  have hok : OkP (sTr X ops a st rdA limA cA) (sTr X ops b (endOp pA unA a st cA) rdB limB cB) := hok.same ⟨rfl, rfl, rfl, rfl, rfl⟩ (fun _ h => h) hs0
  suffices hh : ∃ s1' ta' tb', SStep X pre ops b st s1' tb' ∧ SStep X pre ops a s1' s2 ta' ∧ SameL (sTr X ops a st rdA limA cA) ta' ∧ (∀ i, ta'.K i → (sTr X ops a st rdA limA cA).K i) ∧ SameL (sTr X ops b (endOp pA unA a st cA) rdB limB cB) tb' by
    obtain ⟨s1', ta', tb', k1, k2, k3, k4, k5⟩ := hh
    exact ⟨s1', ta', tb', k1, k2, k3, k4, hs0.trans k5⟩
  clear hk0 hs0 eA
  simp only [offOk, Bool.and_eq_true, Bool.not_eq_true', Bool.and_eq_false_iff, decide_eq_false_iff_not] at hoff
  obtain ⟨⟨oab, oba⟩, hC⟩ := hoff
  obtain ⟨oab1, oab2⟩ := offE_iff oab
  obtain ⟨oba1, oba2⟩ := offE_iff oba
  have fA := hA.facts
  have fB := hB.facts
  have notC : kindE ops b = .C → cA.heap = st.heap ∧ cA.wr = [] := fun hb => fA.heap (hC.resolve_right fun h => h hb)
  have notC' : kindE ops a = .C → cB.heap = (endOp pA unA a st cA).heap ∧ cB.wr = [] := fun ha => fB.heap fun hb => hC.elim (fun h => h ha) fun h => h hb
  -- the first touches nothing that the second looks at
  have ntA : ∀ i ∈ reqE ops b (endOp pA unA a st cA), lastOf (upsOf a.dst cA.out) i = none ∧ i ∉ goneOf st.env a.dst cA.out.gone := fun i hi =>
    noTouch fA (touch_trace (req := reqE ops a st) (rd := rdA) (lim := limA)) oab1 (fun j hj => (hB.roots j hj).1) hok.wv hi
  have klA : ∀ i ∈ reqE ops b (endOp pA unA a st cA), ∀ v, eget st.env i = some v → killed1 (goneOf st.env a.dst cA.out.gone) v = false := fun i hi v hv => by
    cases hk : killed1 (goneOf st.env a.dst cA.out.gone) v with
    | false => rfl
    | true => exact absurd ⟨v, hv, hk⟩ (hok.kl i hi)
  have simB : ∀ i ∈ reqE ops b (endOp pA unA a st cA), simE pA i (eget (endOp pA unA a st cA).env i) (eget st.env i) := fun i hi => by
    rw [end_pass (ntA i hi).1 (klA i hi)]
    exact (sim_pa pA i _).symm
  -- the second, first
  obtain ⟨rB, cB', oB, wB, kB, hB'⟩ := hB.move (st' := st) (q := pA) simB
    (fun j k hq hj => by
      obtain ⟨_, hop, _⟩ := fA.punch j k hq
      exact oab2 j k hop hj)
    (fun t ht => by
      rw [end_facts]
      unfold factAt
      rw [if_neg (fun e => oab1 t e ht)]
      exact factv_isUn)
    (fun hk => by
      obtain ⟨n1, n2⟩ := notC hk
      refine ⟨fun t ht => ?_, by rw [end_heap]; exact n1⟩
      rw [end_facts]
      unfold factAt
      rw [if_neg (fun e => oab1 t e ht), n2]
      cases eget st.facts t with
      | none => rfl
      | some v => simp [factv_nil])
    (fun hk id hid => by
      rw [end_heap]
      exact plan_frame hfr hA (fun n hn => hok.lim n hn id hid) (hok.wr id hid))
  have fB' := hB'.facts
  have gB : goneOf st.env b.dst cB'.out.gone = goneOf (endOp pA unA a st cA).env b.dst cB.out.gone := by
    rw [oB]
    exact (goneOf_same fun d hd => (simB d (by simp [reqE, slotsOf_dst hd])).isSome).symm
  have wvB : (traceE X.hint.vars st b.dst (reqE ops b st) rdB limB cB').wv = (traceE X.hint.vars (endOp pA unA a st cA) b.dst (reqE ops b (endOp pA unA a st cA)) rdB limB cB).wv := by
    have g2 := gB
    rw [oB] at g2
    simp only [traceE, oB, g2]
  have slB : SameL (sTr X ops b (endOp pA unA a st cA) rdB limB cB) (sTr X ops b st rdB limB cB') := ⟨rfl, wB.symm, rB.symm, wvB.symm, rfl⟩
  -- the second touches nothing that the first looks at
  have ntB : ∀ i ∈ reqE ops a st, lastOf (upsOf b.dst cB'.out) i = none ∧ i ∉ goneOf st.env b.dst cB'.out.gone := fun i hi =>
    noTouch fB' (touch_trace (req := reqE ops b st) (rd := rdB) (lim := limB)) oba1 (fun j hj => (hA.roots j hj).1) (by rw [wvB]; exact hok.vw) hi
  have klB : ∀ i ∈ reqE ops a st, ∀ v, eget st.env i = some v → killed1 (goneOf st.env b.dst cB'.out.gone) v = false := fun i hi v hv => by
    cases hk : killed1 (goneOf st.env b.dst cB'.out.gone) v with
    | false => rfl
    | true =>
      obtain ⟨r, hr1, hr2⟩ := killed1_root hk
      rcases List.mem_append.1 hi with h3 | h3
      · exact absurd hr2 (ntB r (List.mem_append_right _ (mem_rootsOf h3 hv hr1))).2
      · obtain ⟨l, o, hl⟩ := isVecAt_iff (hA.roots i h3).2
        rw [hl] at hv; cases hv
        simp [root1] at hr1
  have simA : ∀ i ∈ reqE ops a st, simE pB i (eget st.env i) (eget (endOp pB unB b st cB').env i) := fun i hi => by
    rw [end_pass (ntB i hi).1 (klB i hi)]
    exact sim_pa pB i _
  -- the first, second
  obtain ⟨rA, cA', oA, wA, kA, hA'⟩ := hA.move (st' := endOp pB unB b st cB') (q := pB) simA
    (fun j k hq hj => by
      obtain ⟨_, hop, _⟩ := fB.punch j k hq
      exact oba2 j k hop hj)
    (fun t ht => by
      rw [end_facts]
      unfold factAt
      rw [if_neg (fun e => oba1 t e ht)]
      exact factv_isUn.symm)
    (fun hk => by
      have n1 := (fB'.heap fun hb => hC.elim (fun h => h hk) fun h => h hb)
      refine ⟨fun t ht => ?_, by rw [end_heap]; exact n1.1.symm⟩
      rw [end_facts]
      unfold factAt
      rw [if_neg (fun e => oba1 t e ht), n1.2]
      cases eget st.facts t with
      | none => rfl
      | some v => simp [factv_nil])
    (fun hk id hid => by
      rw [end_heap]
      refine (plan_frame hfr hB' (fun n hn => hok.mil n hn id hid) ?_).symm
      rw [wB]
      exact hok.rw id hid)
  have fA' := hA'.facts
  have gA : goneOf (endOp pB unB b st cB').env a.dst cA'.out.gone = goneOf st.env a.dst cA.out.gone := by
    rw [oA]
    exact (goneOf_same fun d hd => (simA d (by simp [reqE, slotsOf_dst hd])).isSome).symm
  have wvA : (traceE X.hint.vars (endOp pB unB b st cB') a.dst (reqE ops a (endOp pB unB b st cB')) rdA limA cA').wv = (traceE X.hint.vars st a.dst (reqE ops a st) rdA limA cA).wv := by
    have g2 := gA
    rw [oA] at g2
    simp only [traceE, oA, g2]
  have ntA' : ∀ i ∈ reqE ops b st, lastOf (upsOf a.dst cA.out) i = none ∧ i ∉ goneOf st.env a.dst cA.out.gone := fun i hi => ntA i (by rw [← rB]; exact hi)
  have punA : ∀ j k, pA = some (j, k) → j ∈ reqE ops a st := fun j k hq => by
    obtain ⟨_, hop, _⟩ := fA.punch j k hq
    exact List.mem_append_left _ (by simp [slotsOf, hop, Op.operands, tmpsOf])
  have punB : ∀ j k, pB = some (j, k) → j ∈ reqE ops b st := fun j k hq => by
    obtain ⟨_, hop, _⟩ := fB'.punch j k hq
    exact List.mem_append_left _ (by simp [slotsOf, hop, Op.operands, tmpsOf])
  have inA : ∀ {i v}, lastOf (upsOf a.dst cA.out) i = some v → i ∈ reqE ops a st := fun {i v} h => by
    rcases mem_upsOf.1 (lastOf_some h) with h3 | ⟨h3, _⟩
    · exact (fA.ups i v h3).1
    · exact List.mem_append_left _ (slotsOf_dst h3)
  have inB : ∀ {i v}, lastOf (upsOf b.dst cB'.out) i = some v → i ∈ reqE ops b st := fun {i v} h => by
    rcases mem_upsOf.1 (lastOf_some h) with h3 | ⟨h3, _⟩
    · exact (fB'.ups i v h3).1
    · exact List.mem_append_left _ (slotsOf_dst h3)
  have passA : ∀ {i v}, lastOf (upsOf a.dst cA.out) i = some v → passE (goneOf st.env b.dst cB'.out.gone) pB i v = v := fun h =>
    put_pass fA fB' (fun i hi => (ntB i hi).2) (fun j k hq => (ntA' j (punB j k hq)).1) h
  have passB : ∀ {i v}, lastOf (upsOf b.dst cB'.out) i = some v → passE (goneOf st.env a.dst cA.out.gone) pA i v = v := fun h =>
    put_pass fB' fA (fun i hi => (ntA' i hi).2) (fun j k hq => (ntB j (punA j k hq)).1) h
  refine ⟨endOp pB unB b st cB', _, _, ⟨pB, rdB, cB', unB, limB, hB', .refl _, rfl⟩, ⟨pA, rdA, cA', unA, limA, hA', ?_, rfl⟩, ⟨rfl, wA.symm, rA.symm, wvA.symm, rfl⟩, ?_, slB⟩
  · -- the state behind both
    refine Eqv.trans ⟨fun i => ?_, fun i => ?_, ?_, fun i => ?_⟩ eB
    · rw [end_env, end_env, end_env pB unB b, gA, ← gB]
      rw [show (endOp pA unA a st cA).env = (endOp pA unA a st cA).env from rfl, end_env pA unA a, oA, ← oB]
      cases hla : lastOf (upsOf a.dst cA.out) i with
      | some va =>
        rw [(ntB i (inA hla)).1]
        simp only [Option.some_or, Option.none_or, Option.map_some, passA hla]
      | none =>
        simp only [Option.none_or]
        cases hlb : lastOf (upsOf b.dst cB'.out) i with
        | some vb => simp only [Option.some_or, Option.map_some, passB hlb]
        | none =>
          simp only [Option.none_or, Option.map_map]
          cases eget st.env i with
          | none => rfl
          | some v => simp only [Option.map_some, Function.comp_apply, pass_pass]
    · rw [end_facts, end_facts]
      unfold factAt
      rw [end_facts, end_facts]
      unfold factAt
      rw [oA, wA, wB, oB]
      by_cases ea : a.dst = some i
      · have eb : b.dst ≠ some i := fun e => oab1 i ea (slotsOf_dst e)
        rw [if_pos ea, if_neg eb, if_neg eb, if_pos ea]
        cases unA with
        | true => rfl
        | false =>
          simp only [Bool.false_eq_true, if_false]
          cases hf : cA.out.fact with
          | none =>
            simp only [Option.map_map]
            cases eget st.facts i <;> rfl
          | some q =>
            obtain ⟨id, off⟩ := q
            have : id ∉ cB.wr := hok.rw id (fA.fact id off hf)
            simp [factv, hasN_iff, this]
      · rw [if_neg ea, if_neg ea]
        by_cases eb : b.dst = some i
        · rw [if_pos eb, if_pos eb]
          cases unB with
          | true => rfl
          | false =>
            simp only [Bool.false_eq_true, if_false]
            cases hf : cB.out.fact with
            | none =>
              simp only [Option.map_map]
              cases eget st.facts i <;> rfl
            | some q =>
              obtain ⟨id, off⟩ := q
              have : id ∉ cA.wr := hok.wr id (fB.fact id off hf)
              simp [factv, hasN_iff, this]
        · rw [if_neg eb, if_neg eb]
          simp only [Option.map_map]
          cases eget st.facts i with
          | none => rfl
          | some v => simp only [Option.map_some, Function.comp_apply, factv_factv]
    · rw [end_heap, end_heap]
      by_cases ka : kindE ops a = .C
      · rw [kA ka, (notC' ka).1, end_heap]
      · rw [(fA'.heap ka).1, end_heap]
        by_cases kb : kindE ops b = .C
        · rw [kB kb]
        · rw [(fB'.heap kb).1, (fB.heap kb).1, end_heap, (fA.heap ka).1]
    · rw [end_wr, end_wr, end_wr, end_wr, wA, wB]
      simp only [List.mem_append]
      constructor
      · rintro (h | h | h)
        · exact .inr (.inl h)
        · exact .inl h
        · exact .inr (.inr h)
      · rintro (h | h | h)
        · exact .inr (.inl h)
        · exact .inl h
        · exact .inr (.inr h)
  · -- what the first drops
    rintro i ⟨v, hv, hk⟩
    rw [gA] at hk
    rw [end_env] at hv
    cases hlb : lastOf (upsOf b.dst cB'.out) i with
    | some vb =>
      rw [hlb, Option.some_or] at hv
      cases hv
      obtain ⟨r, hr1, hr2⟩ := killed1_root hk
      have hor : v = .bor r ∨ ∃ x y, v = .sptr r x y := by
        cases v <;> simp [root1] at hr1
        · subst hr1; exact .inr ⟨_, _, rfl⟩
        · subst hr1; exact .inl rfl
      rcases mem_upsOf.1 (lastOf_some hlb) with hm | ⟨_, e⟩
      · have := (fB'.ups i v hm).2
        rcases hor with rfl | ⟨x, y, rfl⟩ <;> cases this
      · subst e
        exact absurd hr2 (ntA' r (fB'.val r hor).1).2
    | none =>
      rw [hlb, Option.none_or] at hv
      obtain ⟨u, hu, rfl⟩ := Option.map_eq_some_iff.1 hv
      refine ⟨u, hu, ?_⟩
      rw [← killed1_pa (p := pB) (i := i)]
      cases hd : killed1 (goneOf st.env b.dst cB'.out.gone) (pa pB i u) with
      | false => unfold passE at hk; rwa [killv_same hd] at hk
      | true =>
        exfalso
        unfold passE at hk
        cases hpu : pa pB i u <;> rw [hpu] at hd hk <;> simp [killed1] at hd
        · rw [killv_sptr, if_pos hd] at hk; cases hk
        · rw [killv_bor, if_pos hd] at hk; cases hk
end
end Go.Abs
end

section
/- Whatever admissible order a region's operations are run in, the evaluator's own order stands for it. -/
namespace Go.Abs
open Go
set_option linter.unusedSimpArgs false
set_option linter.unusedVariables false
set_option linter.unusedSectionVars false

section
variable {X : Ctx} {pre : List (Nat × Nat)} {ops : List Oper}

/-- operations one after the other, each with what it looked at -/
def RunT (X : Ctx) (pre : List (Nat × Nat)) (ops : List Oper) : List (Nat × STr) → St → St → Prop
  | [], s, s' => Eqv s s'
  | (i, t) :: ts, s, s' => ∃ o s1, ops[i]? = some o ∧ SStep X pre ops o s s1 t ∧ RunT X pre ops ts s1 s'
def RT (p q : Nat × STr) : Prop := p.1 = q.1 ∧ SameL p.2 q.2 ∧ ∀ i, q.2.K i → p.2.K i
inductive All2 {α : Type} (R : α → α → Prop) : List α → List α → Prop
  | nil : All2 R [] []
  | cons {a b : α} {l m : List α} (h : R a b) (t : All2 R l m) : All2 R (a :: l) (b :: m)
theorem RT.refl (p : Nat × STr) : RT p p := ⟨rfl, ⟨rfl, rfl, rfl, rfl, rfl⟩, fun _ h => h⟩
theorem All2.refl' : ∀ (l : List (Nat × STr)), All2 RT l l
  | [] => .nil
  | a :: l => .cons (.refl a) (All2.refl' l)
theorem All2.app {α : Type} {R : α → α → Prop} : ∀ {a b c d : List α}, All2 R a b → All2 R c d → All2 R (a ++ c) (b ++ d)
  | _, _, _, _, .nil, k => k
  | _, _, _, _, .cons h t, k => .cons h (All2.app t k)
theorem All2.fst : ∀ {a b : List (Nat × STr)}, All2 RT a b → a.map (·.1) = b.map (·.1)
  | _, _, .nil => rfl
  | _, _, .cons h t => by simp [h.1, All2.fst t]
theorem All2.mem {α : Type} {R : α → α → Prop} : ∀ {a b : List α}, All2 R a b → ∀ y ∈ b, ∃ x ∈ a, R x y
  | _, _, .nil, y, hy => by cases hy
  | _, _, .cons h t, y, hy => by
    rcases List.mem_cons.1 hy with rfl | hy
    · exact ⟨_, by simp, h⟩
    · obtain ⟨x, hx, hr⟩ := All2.mem t y hy
      exact ⟨x, List.mem_cons_of_mem _ hx, hr⟩

theorem front (hfr : FrameOK X) {x : Nat} {tx : STr} {tsb : List (Nat × STr)} {s' : St} : ∀ (tsa : List (Nat × STr)) (s : St), RunT X pre ops (tsa ++ (x, tx) :: tsb) s s' →
    (∀ p ∈ tsa, ∀ op ox, ops[p.1]? = some op → ops[x]? = some ox → offOk ops op ox = true ∧ OkP p.2 tx) →
    ∃ tx' tsa', RunT X pre ops ((x, tx') :: (tsa' ++ tsb)) s s' ∧ SameL tx tx' ∧ All2 RT tsa tsa' := by
  intro tsa
  induction tsa with
  | nil => intro s h _; exact ⟨tx, [], h, ⟨rfl, rfl, rfl, rfl, rfl⟩, .nil⟩
  | cons p tsa ih =>
    obtain ⟨p, tp⟩ := p
    intro s h hc
    obtain ⟨op, s1, hop, hs, hrun⟩ := h
    obtain ⟨tx2, tsa2, hrun2, hsl, hall⟩ := ih s1 hrun fun q hq => hc q (List.mem_cons_of_mem _ hq)
    obtain ⟨ox, sx, hox, hsx, hrun3⟩ := hrun2
    obtain ⟨hoff, hok⟩ := hc (p, tp) (by simp) op ox hop hox
    have hok2 : OkP tp tx2 := hok.same ⟨rfl, rfl, rfl, rfl, rfl⟩ (fun _ h => h) hsl
    obtain ⟨s1', tp', tx3, k1, k2, k3, k4, k5⟩ := comm hfr hs hsx hoff hok2
    exact ⟨tx3, (p, tp') :: tsa2, ⟨ox, s1', hox, k1, op, sx, hop, k2, hrun3⟩, hsl.trans k5, .cons ⟨rfl, k3, k4⟩ hall⟩

/-- an order in which no operation comes ahead of one that it must follow -/
inductive Lin (bef : Nat → Nat → Prop) : List Nat → List Nat → Prop
  | nil : Lin bef [] []
  | cons {x : Nat} {σ l1 l2 : List Nat} (h : ∀ p ∈ l1, ¬ bef x p) (t : Lin bef σ (l1 ++ l2)) : Lin bef (x :: σ) (l1 ++ x :: l2)
def PairOK (ops : List Oper) (bef : Nat → Nat → Prop) (p q : Nat × STr) : Prop :=
  ∀ op oq, ops[p.1]? = some op → ops[q.1]? = some oq → bef q.1 p.1 ∨ (offOk ops op oq = true ∧ OkP p.2 q.2)
theorem PairOK.rt {bef : Nat → Nat → Prop} {p q p' q' : Nat × STr} (h : PairOK ops bef p q) (hp : RT p p') (hq : RT q q') : PairOK ops bef p' q' := by
  intro op oq h1 h2
  rw [← hp.1] at h1
  rw [← hq.1] at h2
  rcases h op oq h1 h2 with h3 | ⟨h3, h4⟩
  · left; rw [← hp.1, ← hq.1]; exact h3
  · exact .inr ⟨h3, h4.same hp.2.1 hp.2.2 hq.2.1⟩
theorem pair_rt {bef : Nat → Nat → Prop} : ∀ {a b : List (Nat × STr)}, All2 RT a b → a.Pairwise (PairOK ops bef) → b.Pairwise (PairOK ops bef)
  | _, _, .nil, _ => .nil
  | _, _, .cons h t, hp => by
    obtain ⟨h1, h2⟩ := List.pairwise_cons.1 hp
    refine List.pairwise_cons.2 ⟨fun y hy => ?_, pair_rt t h2⟩
    obtain ⟨x, hx, hr⟩ := t.mem y hy
    exact (h1 x hx).rt h hr
theorem map_split : ∀ {ts : List (Nat × STr)} {l1 l2 : List Nat} {x : Nat}, ts.map (·.1) = l1 ++ x :: l2 → ∃ ta tx tb, ts = ta ++ (x, tx) :: tb ∧ ta.map (·.1) = l1 ∧ tb.map (·.1) = l2
  | [], l1, l2, x, h => by simp at h
  | (i, t) :: ts, [], l2, x, h => by
    simp only [List.map_cons, List.nil_append, List.cons.injEq] at h
    obtain ⟨rfl, h⟩ := h
    exact ⟨[], t, ts, rfl, rfl, h⟩
  | (i, t) :: ts, j :: l1, l2, x, h => by
    simp only [List.map_cons, List.cons_append, List.cons.injEq] at h
    obtain ⟨rfl, h⟩ := h
    obtain ⟨ta, tx, tb, rfl, h1, h2⟩ := map_split h
    exact ⟨(i, t) :: ta, tx, tb, rfl, by simp [h1], h2⟩
/-- ANY ORDER. -/
theorem any_order (hfr : FrameOK X) {bef : Nat → Nat → Prop} : ∀ {σ l : List Nat}, Lin bef σ l → ∀ {ts : List (Nat × STr)} {s s' : St}, ts.map (·.1) = l → RunT X pre ops ts s s' → ts.Pairwise (PairOK ops bef) → ∃ ts', ts'.map (·.1) = σ ∧ RunT X pre ops ts' s s' := by
  intro σ l h
  induction h with
  | nil =>
    intro ts s s' hl hr _
    have : ts = [] := by simpa using hl
    subst this
    exact ⟨[], rfl, hr⟩
  | cons hb t ih =>
    intro ts s s' hl hr hp
    obtain ⟨ta, tx, tb, rfl, h1, h2⟩ := map_split hl
    rename_i x σ l1 l2
    obtain ⟨k1, k2, k3⟩ := List.pairwise_append.1 hp
    obtain ⟨tx', ta', hr', _, hall⟩ := front hfr ta s hr fun p hp' op ox ho hox => by
      rcases k3 p hp' (x, tx) (by simp) op ox ho hox with h3 | h3
      · exact absurd h3 (hb p.1 (by rw [← h1]; exact List.mem_map.2 ⟨p, hp', rfl⟩))
      · exact h3
    obtain ⟨ox, sx, hox, hsx, hrest⟩ := hr'
    have hp2 : (ta ++ tb).Pairwise (PairOK ops bef) := by
      refine List.pairwise_append.2 ⟨k1, (List.pairwise_cons.1 k2).2, fun a ha b hb => k3 a ha b (List.mem_cons_of_mem _ hb)⟩
    obtain ⟨ts', hm, hr3⟩ := ih (by rw [List.map_append, ← hall.fst, h1, h2]) hrest (pair_rt (hall.app (.refl' tb)) hp2)
    exact ⟨(x, tx') :: ts', by simp [hm], ox, sx, hox, hsx, hr3⟩

/-! ### The machine's orders -/
def unlisted (n : Nat) (listed : Array Bool) : List Nat := (List.range n).filter fun i => !listed.getD i true
/-- whatever an operation must follow, it follows at once or by another that it follows at once -/
def BefOK (os : Array Oper) (bef : Nat → Nat → Prop) : Prop := ∀ (x : Nat) (o : Oper), os[x]? = some o → ∀ p, bef x p → ∃ e ∈ o.after, Region.binds .any e = true ∧ (e.on = p ∨ bef e.on p)
def Below (os : Array Oper) : Prop := ∀ (x : Nat) (o : Oper), os[x]? = some o → ∀ e ∈ o.after, Region.binds .any e = true → e.on < x
/-- there is an order that abides all of a mode's edges -/
def Ranked (md : Region.Mode) (os : Array Oper) : Prop := ∃ rk : Nat → Nat, ∀ (x : Nat) (o : Oper), os[x]? = some o → ∀ e ∈ o.after, Region.binds md e = true → e.on < os.size ∧ rk e.on < rk x
theorem binds_any {md : Region.Mode} {e : Edge} (h : Region.binds .any e = true) : Region.binds md e = true := by
  unfold Region.binds at h ⊢
  split at h <;> first | rfl | cases h
theorem listed_true {listed : Array Bool} {p : Nat} (h : listed.getD p false = true) : listed.getD p true = true := by
  rcases Nat.lt_or_ge p listed.size with h1 | h1
  · simp [h1] at h ⊢; exact h
  · simp [Array.getElem?_eq_none h1] at h
theorem lin_go {md : Region.Mode} (os : Array Oper) {bef : Nat → Nat → Prop} (hb : BefOK os bef) (hrk : Ranked md os) : ∀ (fuel t : Nat) (listed : Array Bool), listed.size = os.size → (unlisted os.size listed).length ≤ fuel →
    (∀ y, listed.getD y false = true → ∀ p, bef y p → listed.getD p false = true) → Lin bef (Region.linearise.go md os fuel t listed []) (unlisted os.size listed) := by
  obtain ⟨rk, hrk⟩ := hrk
  intro fuel
  induction fuel with
  | zero =>
    intro t listed _ hl _
    have : unlisted os.size listed = [] := List.eq_nil_of_length_eq_zero (by omega)
    rw [this]
    simp only [Region.linearise.go, List.reverse_nil]
    exact .nil
  | succ fuel ih =>
    intro t listed hsz hl hcl
    simp only [Region.linearise.go]
    change Lin bef (match (Region.ready md os listed)[t % (Region.ready md os listed).length]? with
      | some i => Region.linearise.go md os fuel (t / (Region.ready md os listed).length) (listed.setIfInBounds i true) [i]
      | none => [].reverse) _
    cases hi : (Region.ready md os listed)[t % (Region.ready md os listed).length]? with
    | none =>
      have hnil : Region.ready md os listed = [] := by
        cases hr : Region.ready md os listed with
        | nil => rfl
        | cons x xs =>
          rw [hr] at hi
          have hlt : t % (x :: xs).length < (x :: xs).length := Nat.mod_lt _ (by simp)
          simp at hi
          simp at hlt
          omega
      -- the first that is not listed is ready
      have : unlisted os.size listed = [] := by
        cases hu : unlisted os.size listed with
        | nil => rfl
        | cons m r =>
          exfalso
          have key : ∀ r k, rk k = r → k < os.size → listed.getD k true = false → False := by
            intro r
            induction r using Nat.strongRecOn with
            | _ r ihk =>
              intro k hr hk hun
              have : k ∈ Region.ready md os listed := by
                refine mem_ready.2 ⟨hun, os[k], Array.getElem?_eq_getElem hk, fun e he hbe => ?_⟩
                obtain ⟨hlt, hrk'⟩ := hrk k _ (Array.getElem?_eq_getElem hk) e he hbe
                cases hc : listed.getD e.on false with
                | true => rfl
                | false =>
                  exfalso
                  refine ihk (rk e.on) (by omega) e.on rfl hlt ?_
                  have : e.on < listed.size := by omega
                  simp [this] at hc ⊢
                  exact hc
              rw [hnil] at this
              cases this
          have hm : m ∈ unlisted os.size listed := by rw [hu]; simp
          simp only [unlisted, List.mem_filter, List.mem_range, Bool.not_eq_true'] at hm
          exact key _ m rfl hm.1 hm.2
      rw [this]
      simp only [List.reverse_nil]
      exact .nil
    | some i =>
      simp only []
      rw [linearise_go_acc, List.reverse_singleton, List.singleton_append]
      obtain ⟨hun, o, ho, hall⟩ := mem_ready.1 (List.mem_of_getElem? hi)
      have hlt : i < os.size := (Array.getElem?_eq_some_iff.1 ho).1
      have hin : i ∈ unlisted os.size listed := by
        simp only [unlisted, List.mem_filter, List.mem_range, Bool.not_eq_true']
        exact ⟨hlt, hun⟩
      obtain ⟨l1, l2, hsplit⟩ := List.append_of_mem hin
      have hnd : (unlisted os.size listed).Nodup := List.nodup_range.filter _
      have hbits : ∀ p, bef i p → listed.getD p false = true := fun p hp => by
        obtain ⟨e, he, hbe, h3⟩ := hb i o ho p hp
        have := hall e he (binds_any hbe)
        rcases h3 with rfl | h3
        · exact this
        · exact hcl _ this p h3
      have hrest : unlisted os.size (listed.setIfInBounds i true) = l1 ++ l2 := by
        have e1 : unlisted os.size (listed.setIfInBounds i true) = (unlisted os.size listed).filter (fun j => j != i) := by
          unfold unlisted
          rw [List.filter_filter]
          apply List.filter_congr
          intro j hj
          simp only [List.mem_range] at hj
          by_cases e : j = i
          · subst e
            have : j < listed.size := by omega
            simp [this]
          · rw [getD_set_ne true (Ne.symm e)]
            simp [e]
        rw [e1, hsplit]
        rw [hsplit] at hnd
        have hnd' := List.nodup_append.1 hnd
        have n1 : i ∉ l1 := fun h => hnd'.2.2 i h i (by simp) rfl
        have n2 : i ∉ l2 := (List.nodup_cons.1 hnd'.2.1).1
        rw [List.filter_append, List.filter_cons]
        simp only [bne_self_eq_false, Bool.false_eq_true, if_false]
        congr 1
        · exact List.filter_eq_self.2 fun a ha => by simp; rintro rfl; exact n1 ha
        · exact List.filter_eq_self.2 fun a ha => by simp; rintro rfl; exact n2 ha
      rw [hsplit]
      refine .cons (fun p hp hbp => ?_) ?_
      · have h1 := listed_true (hbits p hbp)
        have : p ∈ unlisted os.size listed := by rw [hsplit]; simp [hp]
        simp only [unlisted, List.mem_filter, Bool.not_eq_true'] at this
        rw [h1] at this; cases this.2
      · rw [← hrest]
        refine ih _ _ (by simp [hsz]) ?_ fun y hy p hp => ?_
        · rw [hrest]
          rw [hsplit] at hl
          simp only [List.length_append, List.length_cons] at hl ⊢
          omega
        · by_cases e : y = i
          · subst e
            exact getD_set_true (hbits p hp)
          · rw [getD_set_ne false (Ne.symm e)] at hy
            exact getD_set_true (hcl y hy p hp)
theorem lin_all {md : Region.Mode} (os : Array Oper) {bef : Nat → Nat → Prop} (hb : BefOK os bef) (hrk : Ranked md os) (t : Nat) : Lin bef (Region.linearise md os t) (List.range os.size) := by
  have h0 : ∀ i, (Array.replicate os.size false).getD i false = false := fun i => by
    by_cases h : i < os.size <;> simp [h]
  have hu : unlisted os.size (Array.replicate os.size false) = List.range os.size := by
    unfold unlisted
    refine List.filter_eq_self.2 fun a ha => ?_
    simp only [List.mem_range] at ha
    simp [ha]
  have := lin_go os hb hrk os.size t (Array.replicate os.size false) (by simp) (by rw [hu]; simp) (fun y hy => by rw [h0] at hy; cases hy)
  rw [hu] at this
  exact this

/-! ### The evaluator's bits -/
def befE (ops : List Oper) (x p : Nat) : Prop := ((beforeE ops []).getD x 0).testBit p = true
theorem beforeE_pre : ∀ (os : List Oper) (acc : List Nat), ∃ r, beforeE os acc = acc ++ r ∧ r.length = os.length
  | [], acc => ⟨[], by simp [beforeE], rfl⟩
  | o :: os, acc => by
    obtain ⟨r, h1, h2⟩ := beforeE_pre os (acc ++ [o.after.toList.foldl (bitStep acc) 0])
    exact ⟨_ :: r, by rw [beforeE, h1]; simp; rfl, by simp [h2]⟩
theorem beforeE_at : ∀ (os : List Oper) (acc : List Nat) (k : Nat) (o : Oper), os[k]? = some o →
    ∃ acc', (beforeE os acc)[acc.length + k]? = some (o.after.toList.foldl (bitStep acc') 0) ∧ acc'.length = acc.length + k ∧ ∃ r, beforeE os acc = acc' ++ r := by
  intro os
  induction os with
  | nil => intro acc k o h; simp at h
  | cons o' os ih =>
    intro acc k o h
    cases k with
    | zero =>
      have : o' = o := by simpa using h
      subst this
      obtain ⟨r, h1, _⟩ := beforeE_pre os (acc ++ [o'.after.toList.foldl (bitStep acc) 0])
      have h2 : beforeE (o' :: os) acc = acc ++ (o'.after.toList.foldl (bitStep acc) 0 :: r) := by rw [beforeE, h1]; simp
      refine ⟨acc, ?_, rfl, _, h2⟩
      rw [h2, Nat.add_zero, List.getElem?_append_right (Nat.le_refl _), Nat.sub_self]
      rfl
    | succ k =>
      obtain ⟨acc', h1, h2, r, h3⟩ := ih (acc ++ [o'.after.toList.foldl (bitStep acc) 0]) k o (by simpa using h)
      have hl : (acc ++ [o'.after.toList.foldl (bitStep acc) 0]).length = acc.length + 1 := by simp
      refine ⟨acc', ?_, by rw [h2, hl]; omega, r, by rw [beforeE]; exact h3⟩
      rw [beforeE, ← h1, hl]
      congr 1
      omega
theorem fold_bits {acc : List Nat} {p : Nat} : ∀ (es : List Edge) (s : Nat), (es.foldl (bitStep acc) s).testBit p = true →
    s.testBit p = true ∨ ∃ e ∈ es, Region.binds .any e = true ∧ (e.on = p ∨ (acc.getD e.on 0).testBit p = true)
  | [], s, h => .inl h
  | e :: es, s, h => by
    rcases fold_bits es _ h with h1 | ⟨e', h1, h2⟩
    · unfold bitStep at h1
      split at h1
      · rename_i hb
        simp only [Nat.testBit_or, Bool.or_eq_true] at h1
        rcases h1 with (h1 | h1) | h1
        · exact .inl h1
        · rw [Nat.testBit_two_pow] at h1
          exact .inr ⟨e, by simp, hb, .inl (by simpa using h1)⟩
        · exact .inr ⟨e, by simp, hb, .inr h1⟩
      · exact .inl h1
    · exact .inr ⟨e', List.mem_cons_of_mem _ h1, h2⟩
theorem befE_ok (os : Array Oper) (hlow : Below os) : BefOK os (befE os.toList) := by
  intro x o ho p hp
  have ho' : os.toList[x]? = some o := by rw [Array.getElem?_toList]; exact ho
  obtain ⟨acc', h1, h2, r, h3⟩ := beforeE_at os.toList [] x o ho'
  simp only [List.length_nil, Nat.zero_add] at h1 h2
  unfold befE at hp
  rw [List.getD_eq_getElem?_getD, h1, Option.getD_some] at hp
  rcases fold_bits _ _ hp with h4 | ⟨e, he, hb, h4⟩
  · simp at h4
  · have he' : e ∈ o.after := by simpa using he
    refine ⟨e, he', hb, h4.imp id fun h5 => ?_⟩
    have hlt := hlow x o ho e he' hb
    unfold befE
    rw [h3, List.getD_eq_getElem?_getD, List.getElem?_append_left (by omega), ← List.getD_eq_getElem?_getD]
    exact h5
end
end Go.Abs
end

section
/- What a run of the evaluator leaves of its heap: the objects that it does not name as written read the same. -/
namespace Go.Abs
open Go
set_option linter.unusedSimpArgs false
set_option linter.unusedVariables false
set_option linter.unusedSectionVars false

/-- the loops that stand in the heap are of good code -/
def HG (H : Heap) : Prop := ∀ id lp, hget H id = some (.loop lp) → goodCode lp.nt lp.assign = true ∧ goodCode lp.nt lp.body = true ∧ (∀ p ∈ lp.params, p < lp.nt)
/-- a heap and what is named as written, before and behind -/
structure Fr (G : Prop) (H : Heap) (w : List Nat) (H' : Heap) (w' : List Nat) : Prop where
  len : H.length ≤ H'.length
  wr : ∀ i ∈ w, i ∈ w'
  sim : ∀ id, id < H.length → id ∉ w' → simO (hget H' id) (hget H id)
  good : G → HG H → HG H'
  loop : ∀ id lp, hget H id = some (.loop lp) → ∃ lp', hget H' id = some (.loop lp')
theorem Fr.refl (G : Prop) (H : Heap) (w : List Nat) : Fr G H w H w := ⟨Nat.le_refl _, fun _ h => h, fun _ _ _ => .refl _, fun _ h => h, fun _ lp h => ⟨lp, h⟩⟩
theorem Fr.trans {G : Prop} {H H1 H2 : Heap} {w w1 w2 : List Nat} (h : Fr G H w H1 w1) (k : Fr G H1 w1 H2 w2) : Fr G H w H2 w2 :=
  ⟨Nat.le_trans h.len k.len, fun i hi => k.wr i (h.wr i hi), fun id hl hw => (k.sim id (Nat.lt_of_lt_of_le hl h.len) hw).trans (h.sim id hl fun e => hw (k.wr id e)), fun g hg => k.good g (h.good g hg), fun id lp hl => by obtain ⟨lp1, h1⟩ := h.loop id lp hl; exact k.loop id lp1 h1⟩
theorem Fr.mono {G G' : Prop} {H H1 : Heap} {w w1 : List Nat} (h : Fr G H w H1 w1) (hg : G' → G) : Fr G' H w H1 w1 := ⟨h.len, h.wr, h.sim, fun g => h.good (hg g), h.loop⟩
theorem Fr.more {G : Prop} {H H1 : Heap} {w w1 v : List Nat} (h : Fr G H w H1 w1) : Fr G H (w ++ v) H1 (w1 ++ v) :=
  ⟨h.len, fun i hi => (List.mem_append.1 hi).elim (fun h1 => List.mem_append_left _ (h.wr i h1)) fun h1 => List.mem_append_right _ h1, fun id hl hw => h.sim id hl fun e => hw (List.mem_append_left _ e), h.good, h.loop⟩

/-- one object more, no loop -/
theorem fr_cons {G : Prop} {H : Heap} {w : List Nat} {o : AObj} (ho : ∀ lp, o = .loop lp → G → goodCode lp.nt lp.assign = true ∧ goodCode lp.nt lp.body = true ∧ (∀ p ∈ lp.params, p < lp.nt)) : Fr G H w (o :: H) w := by
  refine ⟨by simp, fun _ h => h, fun id hl _ => ?_, fun g hg id lp h => ?_, fun id lp h => ⟨lp, ?_⟩⟩
  rotate_left 2
  · rw [hget_cons, if_neg (by have := hget_lt h; omega)]; exact h
  · rw [hget_cons, if_neg (by omega)]; exact .refl _
  · rw [hget_cons] at h
    split at h
    · cases h; exact ho lp rfl g
    · exact hg id lp h
theorem fr_set {G : Prop} {H : Heap} {w w' : List Nat} {id : Nat} {o : AObj} (hw : ∀ i ∈ w, i ∈ w') (hlt : id < H.length) (hid : id ∈ w' ∨ simO (some o) (hget H id)) (ho : ∀ lp, o = .loop lp → HG H → goodCode lp.nt lp.assign = true ∧ goodCode lp.nt lp.body = true ∧ (∀ p ∈ lp.params, p < lp.nt)) (hs : ∀ lp, hget H id = some (.loop lp) → ∃ lp', o = .loop lp') : Fr G H w (hset H id o) w' := by
  refine ⟨by rw [hset_length]; exact Nat.le_refl _, hw, fun i hl hn => ?_, fun g hg i lp h => ?_, fun i lp h => ?_⟩
  rotate_left 2
  · rw [hget_hset hlt]
    split
    · rename_i e; subst e
      obtain ⟨lp', rfl⟩ := hs lp h
      exact ⟨lp', rfl⟩
    · exact ⟨lp, h⟩
  · rw [hget_hset hlt]
    split
    · rename_i e; subst e
      exact hid.resolve_left hn
    · exact .refl _
  · rw [hget_hset hlt] at h
    split at h
    · cases h; exact ho lp rfl hg
    · exact hg i lp h

def CallFr (call : CallF) : Prop := ∀ f args H v H' wr, call f args H = some (v, H', wr) → Fr True H [] H' wr

section
variable {X : Ctx} {pre : List (Nat × Nat)} {ops : List Oper}
theorem takeC_fr {env fs : Env} {heap : Heap} {s : Operand} {l : List AVal} {ow : Own} {h : Heap} (hk : takeC env fs heap s = some (l, ow, h)) : Fr True heap [] h [] := by
  unfold takeC at hk
  split at hk
  case h_2 => cases hk
  split at hk
  case h_2 => cases hk
  rename_i id off _
  split at hk
  case h_2 => cases hk
  rename_i cs hg
  split at hk
  case h_2 => cases hk
  rename_i l k hcs
  cases hk
  refine fr_set (fun _ h => h) (hget_lt hg) (.inr ?_) (fun lp e => by cases e) fun lp e => by rw [hg] at e; cases e
  rw [hg]
  show List.map ro1 (cs.set off (.vec l .ro)) = List.map ro1 cs
  refine List.ext_getElem? fun j => ?_
  rw [List.getElem?_map, List.getElem?_map, List.getElem?_set]
  split
  · rename_i e; subst e
    have := (List.getElem?_eq_some_iff.1 hcs).1
    rw [if_pos this, hcs]; rfl
  · rfl
theorem hand_heap {env : Env} {c : Call} {first : List AVal} {lent : Bool} {s : ArgsE} {v : AVal} {h : Heap} {w : List Nat} {oc : OutC} (hh : handE env c first lent s v h w = some oc) : oc.heap = h ∧ oc.wr = w := by
  unfold handE at hh
  split at hh
  · cases hh; exact ⟨rfl, rfl⟩
  · split at hh
    · cases hh; exact ⟨rfl, rfl⟩
    · split at hh
      · cases hh; exact ⟨rfl, rfl⟩
      · cases hh
    · cases hh
theorem extern_fr {P : Program} {env : Env} {heap : Heap} {c : Call} {f : Operand} {oc : OutC} (h : externE P env heap c f = some oc) : Fr True heap [] oc.heap oc.wr := by
  unfold externE at h
  split at h
  · split at h
    · split at h
      · split at h
        · split at h
          · cases h; exact fr_cons fun lp e => by cases e
          · cases h
        · cases h
      · cases h
    · cases h
  · cases h
theorem opC_fr (hc : CallFr X.call) {env fs : Env} {heap : Heap} {o : Oper} {c : OutC} (h : opC X env fs heap o = some c) : Fr True heap [] c.heap c.wr := by
  unfold opC at h
  split at h
  · -- a new variable
    unfold boxE at h
    split at h
    · cases h; exact fr_cons fun lp e => by cases e
    · cases h
  · -- a store
    unfold storeE at h
    split at h
    · split at h
      · rename_i hg
        split at h
        · split at h
          · cases h; exact fr_set (fun _ h => by cases h) (hget_lt hg) (.inl (by simp)) (fun lp e => by cases e) fun lp e => by rw [hg] at e; cases e
          · cases h; exact fr_set (fun _ h => by cases h) (hget_lt hg) (.inl (by simp)) (fun lp e => by cases e) fun lp e => by rw [hg] at e; cases e
          · cases h; exact fr_set (fun _ h => by cases h) (hget_lt hg) (.inl (by simp)) (fun lp e => by cases e) fun lp e => by rw [hg] at e; cases e
        · cases h
      · cases h
    · split at h
      · cases h
      · split at h
        · split at h
          · split at h
            · split at h
              · cases h; exact .refl _ _ _
              · cases h
            · split at h
              · split at h
                · cases h; exact .refl _ _ _
                · cases h
              · split at h
                · cases h; exact .refl _ _ _
                · cases h
            · cases h
          · cases h
        · cases h
    · cases h
  · cases h; exact fr_cons fun lp e => by cases e
  · unfold mapPutE at h
    split at h
    · split at h
      · rename_i hg
        split at h
        · split at h
          · split at h
            · cases h; exact fr_set (fun _ h => by cases h) (hget_lt hg) (.inl (by simp)) (fun lp e => by cases e) fun lp e => by rw [hg] at e; cases e
            · cases h
          · cases h
        · cases h; exact fr_set (fun _ h => by cases h) (hget_lt hg) (.inl (by simp)) (fun lp e => by cases e) fun lp e => by rw [hg] at e; cases e
        · cases h
      · cases h
    · cases h
  · unfold mapPutE at h
    split at h
    · split at h
      · rename_i hg
        split at h
        · split at h
          · split at h
            · cases h; exact fr_set (fun _ h => by cases h) (hget_lt hg) (.inl (by simp)) (fun lp e => by cases e) fun lp e => by rw [hg] at e; cases e
            · cases h
          · cases h
        · cases h; exact fr_set (fun _ h => by cases h) (hget_lt hg) (.inl (by simp)) (fun lp e => by cases e) fun lp e => by rw [hg] at e; cases e
        · cases h
      · cases h
    · cases h
  · -- a range over a map
    unfold rangeE at h
    split at h
    · cases h; exact fr_cons fun lp e => by cases e
    · split at h
      · cases h; exact fr_cons fun lp e => by cases e
      · cases h
    · cases h
  · unfold nextE at h
    split at h
    · cases h
    split at h
    · split at h
      · cases h; exact .refl _ _ _
      · rename_i hg
        split at h
        · split at h
          · cases h
          split at h
          · cases h; exact .refl _ _ _
          · split at h
            · cases h; exact fr_set (fun _ h => by cases h) (hget_lt hg) (.inl (by simp)) (fun lp e => by cases e) fun lp e => by rw [hg] at e; cases e
            · cases h
          · cases h
        · cases h
      · cases h
    · cases h
  · unfold entryE at h
    split at h
    · split at h
      · split at h
        · split at h
          · cases h
          split at h
          · cases h; exact .refl _ _ _
          · cases h
        · cases h
      · cases h
    · cases h
  · split at h
    · -- append
      unfold appendC at h
      split at h
      · cases h; exact .refl _ _ _
      · split at h
        · split at h
          · cases h
          · split at h
            · rename_i hk
              split at h
              · cases h; exact takeC_fr hk
              · cases h
            · cases h
        · cases h
    · -- delete
      unfold deleteE at h
      split at h
      · split at h
        · rename_i hg
          split at h
          · cases h; exact fr_set (fun _ h => by cases h) (hget_lt hg) (.inl (by simp)) (fun lp e => by cases e) fun lp e => by rw [hg] at e; cases e
          · cases h; exact ⟨Nat.le_refl _, fun _ h => (by cases h), fun _ _ _ => .refl _, fun _ h => h, fun _ lp h => ⟨lp, h⟩⟩
          · cases h
        · cases h
      · cases h
    · -- a call
      unfold callOpE at h
      split at h
      · rename_i hx
        cases h
        exact extern_fr hx
      split at h
      · split at h
        · split at h
          · rename_i hcall
            rw [(hand_heap h).1, (hand_heap h).2]
            exact hc _ _ _ _ _ _ hcall
          · cases h
        · cases h
      · cases h
    · cases h
  · cases h
theorem frameOK (hc : CallFr X.call) : FrameOK X := fun env fs heap o c h id hl hw => (opC_fr hc h).sim id hl hw
theorem step_fr (hc : CallFr X.call) {o : Oper} {st st' : St} {tr : Tr} (h : stepE X pre ops o st = some (st', tr)) : Fr True st.heap st.wr st'.heap st'.wr := by
  obtain ⟨p, rd, c, un, lim, hp, rfl, rfl⟩ := (stepE_iff X pre ops).1 h
  rw [end_heap, end_wr]
  have hf : Fr True st.heap [] c.heap c.wr := by
    by_cases hk : kindE ops o = .C
    · rcases hp.body with ⟨rfl, _, hpl, _, _⟩ | ⟨_, _, _, _, hcc, _⟩
      · rw [hk] at hpl
        simp only [planE] at hpl
        split at hpl
        · rename_i c' hc'
          cases hpl
          have := opC_fr hc hc'
          exact this
        · cases hpl
      · rw [hcc]; exact .refl _ _ _
    · obtain ⟨h1, h2⟩ := hp.facts.heap hk
      rw [h1, h2]; exact .refl _ _ _
  exact hf.more (v := st.wr)
theorem ops_fr (hc : CallFr X.call) : ∀ (os : List Oper) {st st' : St} {acc acc' : List Tr}, opsE X pre ops os st acc = some (st', acc') → Fr True st.heap st.wr st'.heap st'.wr
  | [], st, st', acc, acc', h => by simp only [opsE] at h; cases h; exact .refl _ _ _
  | o :: r, st, st', acc, acc', h => by
    simp only [opsE] at h
    split at h
    · rename_i hs
      exact (step_fr hc hs).trans (ops_fr hc r h)
    · cases h
theorem pre_fr {P : Program} : ∀ {os : List Oper} {H : Heap} {pre : List (Nat × Nat)} {H' : Heap} {w : List Nat}, preE P os H = some (pre, H') → Fr True H w H' w
  | [], H, pre, H', w, h => by simp only [preE] at h; cases h; exact .refl _ _ _
  | o :: r, H, pre, H', w, h => by
    unfold preE at h
    split at h
    · split at h
      · rename_i hr
        split at h
        · cases h
        · cases h
          exact (pre_fr hr).trans (fr_cons fun lp e => by cases e)
      · cases h
    · exact pre_fr h
theorem region_fr (hc : CallFr X.call) {os : List Oper} {draw : Bool} {st st' : St} (h : regionE X os draw st = some st') : Fr True st.heap st.wr st'.heap st'.wr := by
  unfold regionE at h
  split at h
  · rename_i pre H hp
    split at h
    · rename_i st1 acc ho
      split at h
      · cases h
        exact (pre_fr hp).trans (ops_fr hc os ho)
      · cases h
    · cases h
  · cases h
theorem iter_fr {G : Prop} {f : St → Option (Ex × St)} (hf : ∀ st e st', f st = some (e, st') → Fr G st.heap st.wr st'.heap st'.wr) : ∀ (n : Nat) {st : St} {e : Ex} {st' : St}, iterE f n st = some (e, st') → Fr G st.heap st.wr st'.heap st'.wr
  | 0, st, e, st', h => by cases h
  | n + 1, st, e, st', h => by
    simp only [iterE] at h
    split at h
    · rename_i s1 h1
      exact (hf _ _ _ h1).trans (iter_fr hf n h)
    · rename_i h1
      exact hf _ _ _ h
theorem code_fr (hc : CallFr X.call) : ∀ (c : Code) {st : St} {e : Ex} {st' : St}, codeE X c st = some (e, st') → Fr (goodCode X.nt c = true) st.heap st.wr st'.heap st'.wr
  | .skip, st, e, st', h => by simp only [codeE] at h; cases h; exact .refl _ _ _
  | .region i os draw, st, e, st', h => by
    simp only [codeE] at h
    obtain ⟨s, hs, he⟩ := Option.map_eq_some_iff.1 h
    cases he
    exact (region_fr (st := { st with env := trimE X.hint.vars st.env }) hc hs).mono fun _ => trivial
  | .seq a b, st, e, st', h => by
    simp only [codeE] at h
    split at h
    · rename_i s1 h1
      refine ((code_fr hc a h1).mono ?_).trans ((code_fr hc b h).mono ?_)
      · intro g; simp only [goodCode, Bool.and_eq_true] at g; exact g.1
      · intro g; simp only [goodCode, Bool.and_eq_true] at g; exact g.2
    · exact (code_fr hc a h).mono fun g => by simp only [goodCode, Bool.and_eq_true] at g; exact g.1
  | .cond q a b, st, e, st', h => by
    simp only [codeE] at h
    split at h
    · split at h
      · exact (code_fr hc a h).mono fun g => by simp only [goodCode, Bool.and_eq_true] at g; exact g.1
      · exact (code_fr hc b h).mono fun g => by simp only [goodCode, Bool.and_eq_true] at g; exact g.2
    · cases h
  | .block id c, st, e, st', h => by
    simp only [codeE] at h
    split at h
    · rename_i i s1 h1
      split at h
      · cases h; exact code_fr hc c h1
      · cases h; exact code_fr hc c h1
    · exact code_fr hc c h
  | .loop c, st, e, st', h => by
    simp only [codeE] at h
    obtain ⟨p, hp, he⟩ := Option.map_eq_some_iff.1 h
    cases he
    have := iter_fr (G := goodCode X.nt c = true) (f := fun s => codeE X c (headS X.hint.vars X.nt s)) (fun st e st' h => by
      have := code_fr hc c h
      exact this) _ (show iterE (fun s => codeE X c (headS X.hint.vars X.nt s)) X.n st = some (p.1, p.2) from hp)
    exact this
  | .exit id, st, e, st', h => by simp only [codeE] at h; cases h; exact .refl _ _ _
  | .ret, st, e, st', h => by simp only [codeE] at h; cases h; exact .refl _ _ _
  | .rangeFunc f ps asg body, st, e, st', h => by
    simp only [codeE] at h
    split at h
    case h_2 => cases h
    rename_i g first captured hf
    split at h
    case h_2 => cases h
    rename_i v H w hcall
    split at h
    case h_2 => cases h
    rename_i lp' hg
    split at h
    · cases h
    · have h1 := hc _ _ _ _ _ _ hcall
      have h0 : Fr (goodCode X.nt (.rangeFunc f ps asg body) = true) st.heap st.wr (AObj.loop { nt := X.nt, env := loopEnv (trimE X.hint.vars st.env), fn := X.fn, params := ps.toList, assign := asg, body := body, resv := X.resv, state := .ready, pend := none } :: st.heap) st.wr :=
        fr_cons fun lp e gg => by
          cases e
          simp only [goodCode, Bool.and_eq_true] at gg
          exact ⟨gg.1.2, gg.2, fun p hp => by simpa using List.all_eq_true.1 gg.1.1 p hp⟩
      have h2 : Fr (goodCode X.nt (.rangeFunc f ps asg body) = true) (AObj.loop { nt := X.nt, env := loopEnv (trimE X.hint.vars st.env), fn := X.fn, params := ps.toList, assign := asg, body := body, resv := X.resv, state := .ready, pend := none } :: st.heap) st.wr H (w ++ st.wr) :=
        (h1.more (v := st.wr)).mono fun _ => trivial
      have h3 : Fr (goodCode X.nt (.rangeFunc f ps asg body) = true) H (w ++ st.wr) (hset H st.heap.length (.loop { lp' with state := .exhausted })) (st.heap.length :: w ++ st.wr) :=
        fr_set (fun i hi => List.mem_cons_of_mem _ hi) (hget_lt hg) (.inl (by simp)) (fun lp e hH => by
          cases e
          have := hH _ _ hg
          exact this) fun lp e => ⟨_, rfl⟩
      have h4 := h0.trans (h2.trans h3)
      split at h
      · cases h; exact h4
      · cases h; exact h4
  | .scope _, st, e, st', h => by simp only [codeE] at h; cases h
  | .label _, st, e, st', h => by simp only [codeE] at h; cases h
  | .goto _, st, e, st', h => by simp only [codeE] at h; cases h
  | .refuse _, st, e, st', h => by simp only [codeE] at h; cases h

theorem hget_drop {H : Heap} {n : Nat} (hn : n ≤ H.length) (id : Nat) : hget (H.drop (H.length - n)) id = if id < n then hget H id else none := by
  unfold hget
  rw [List.length_drop, show H.length - (H.length - n) = n by omega]
  by_cases h : id < n
  · rw [if_pos h, if_pos h, if_pos (by omega), List.getElem?_drop]
    congr 1
    omega
  · rw [if_neg h, if_neg h]
theorem end_fr {H : Heap} {st : St} (h : Fr True H [] st.heap st.wr) {v v' : AVal} {H' : Heap} {w : List Nat} (he : endE H.length v st = (v', H', w)) : Fr True H [] H' w := by
  unfold endE at he
  simp only [] at he
  have hw : ∀ id, id < H.length → id ∉ st.wr.filter (fun i => decide (i < H.length)) → id ∉ st.wr := fun id hl hn hm => hn (by simp [hm, hl])
  split at he
  · cases he
    refine ⟨by rw [List.length_drop]; have := h.len; omega, fun _ h => by (cases h), fun id hl hn => ?_, fun g hg id lp hlp => ?_, fun id lp hlp => ?_⟩
    rotate_left 2
    · rw [hget_drop h.len, if_pos (hget_lt hlp)]
      exact h.loop id lp hlp
    · rw [hget_drop h.len, if_pos hl]
      exact h.sim id hl (hw id hl hn)
    · rw [hget_drop h.len] at hlp
      split at hlp
      · exact h.good g hg id lp hlp
      · cases hlp
  · cases he
    exact ⟨h.len, fun _ h => by (cases h), fun id hl hn => h.sim id hl (hw id hl hn), h.good, h.loop⟩
end

/-- THE HEAP BEHIND A CALL. -/
theorem outE_end {n0 : Nat} {lent : Bool} {vs : List AVal} {st : St} {r : AVal × Heap × List Nat} (h : outE n0 lent vs st = some r) : ∃ v0 v1, endE n0 v0 st = (v1, r.2) := by
  unfold outE at h
  split at h
  · cases Option.some.inj h; exact ⟨_, _, rfl⟩
  · split at h
    · cases Option.some.inj h; exact ⟨_, _, rfl⟩
    · cases h
theorem call_fr {P : Program} (hP : progGood P = true) (hint : FuncId → Hint) (takes : FuncId → List Nat) (ora : FuncId → List AVal → Heap → Option (AVal × Heap × List Nat)) (hora : ∀ f args H v H' wr, ora f args H = some (v, H', wr) → Fr True H [] H' wr) : ∀ n, CallFr (callE P hint takes ora n) := by
  intro n
  induction n with
  | zero => intro f args H v H' wr h; simp [callE] at h
  | succ n ih =>
    intro f args H v H' wr h
    cases f with
    | func f =>
      simp only [callE] at h
      split at h
      · rename_i r hr
        cases h
        split at hr
        · cases hr
        · exact hora _ _ _ _ _ _ hr
      · split at h
        case h_2 => cases h
        rename_i fn hfn
        split at h
        case h_2 => cases h
        rename_i body hb
        have hgood : goodCode fn.ntmps body = true := by
          have := List.all_eq_true.1 hP fn (by simpa using Array.mem_of_getElem? hfn)
          rw [hb] at this
          simp only [Bool.and_eq_true] at this
          exact this.1
        split at h
        · cases h
        split at h
        case h_3 => cases h
        all_goals
          rename_i st hst
          split at h
          case h_2 => cases h
          obtain ⟨v0, v1, h⟩ := outE_end h
          refine end_fr ?_ h
          have := code_fr (X := { P := P, nt := fn.ntmps, call := callE P hint takes ora n, n := n, hint := hint f, takes := takes, resv := resSlots fn, fn := f }) ih body hst
          exact this.mono fun _ => hgood
    | yield id =>
      simp only [callE] at h
      split at h
      case h_2 => cases h
      rename_i lp hlp
      split at h
      case isFalse => cases h
      split at h
      case h_2 => cases h
      rename_i st hst
      split at h
      case h_2 => cases h
      rename_i lp1 hlp1
      split at h
      · cases h
      split at h
      case h_2 => cases h
      rename_i e st2 hst2
      split at h
      case h_2 => cases h
      rename_i lp2 hlp2
      simp only [Option.some.injEq, Prod.mk.injEq] at h
      obtain ⟨_, rfl, rfl⟩ := h
      -- the way through
      have h1 := code_fr (X := { P := P, nt := lp.nt, call := callE P hint takes ora n, n := n, hint := hint lp.fn, takes := takes, resv := lp.resv, fn := lp.fn }) ih lp.assign hst
      have h2 := code_fr (X := { P := P, nt := lp.nt, call := callE P hint takes ora n, n := n, hint := hint lp.fn, takes := takes, resv := lp.resv, fn := lp.fn }) ih lp.body hst2
      have hw : ∀ i, i < H.length → i ∉ (id :: st2.wr.filter (fun i => decide (i < H.length))) → i ≠ id ∧ i ∉ st2.wr := fun i hl hn => by
        simp only [List.mem_cons, List.mem_filter, decide_eq_true_eq, not_or, not_and] at hn
        exact ⟨hn.1, fun hm => hn.2 hm hl⟩
      have l1 := h1.len
      have l2 := h2.len
      simp only [hset_length] at l1 l2
      refine ⟨by rw [hset_length]; omega, fun _ h => by (cases h), fun i hl hn => ?_, fun _ hH => ?_, fun i l hil => ?_⟩
      rotate_left 2
      · rw [hget_hset (hget_lt hlp2)]
        split
        · exact ⟨_, rfl⟩
        · rename_i hne
          obtain ⟨l1, hl1⟩ := h1.loop i l hil
          refine h2.loop i l1 ?_
          simp only []
          rw [hget_hset (hget_lt hlp1), if_neg hne]
          exact hl1
      · obtain ⟨hne, hnw⟩ := hw i hl hn
        rw [hget_hset (hget_lt hlp2), if_neg hne]
        refine (h2.sim i (by simp only [hset_length]; omega) hnw).trans ?_
        simp only []
        rw [hget_hset (hget_lt hlp1), if_neg hne]
        exact h1.sim i hl fun hm => hnw (h2.wr i (List.mem_cons_of_mem _ hm))
      · obtain ⟨g1, g2, g3⟩ := hH id lp hlp
        have k1 := h1.good g1 hH
        have k2 : HG (hset st.heap id (.loop { lp1 with state := .busy })) := fun i l hg => by
          rw [hget_hset (hget_lt hlp1)] at hg
          split at hg
          · cases hg; exact k1 id lp1 hlp1
          · exact k1 i l hg
        have k3 := h2.good g2 k2
        intro i l hg
        rw [hget_hset (hget_lt hlp2)] at hg
        split at hg
        · cases hg; exact k3 id lp2 hlp2
        · exact k3 i l hg
    | _ => simp [callE] at h
end Go.Abs
end

section
/- One operation of a frame, as the machine runs it. -/
namespace Go.Abs
open Go
set_option linter.unusedSimpArgs false
set_option linter.unusedVariables false
set_option linter.unusedSectionVars false

/-- the fence that shuts nothing out, in a round or not -/
def FW (r : Option Nat) : Fence := { fn := fun _ => True, depth := none, alive := false, round := r }

/-- the blocks that were there before all stand; the world outside stands -/
structure Kept (B : Nat) (w0 w : World) : Prop where
  heap : ∀ b, b < B → w.heap[b]? = w0.heap[b]?
  os : w.os = w0.os
  tape : w.tape = w0.tape
  output : w.output = w0.output

/-- a frame's deferred calls: the marks of its range statements alone -/
def DefsOK (g : G) (w ws : World) (ds : List Deferred) : Prop :=
  ∃ bs : List Nat, bs.Nodup ∧ ds = bs.map (fun b => { target := .collected b, args := #[] }) ∧ ∀ b ∈ bs, ws.heap.size ≤ b ∧ b < w.heap.size ∧ w.heap[b]? = some (.deferred (some [])) ∧ g.ow b = none ∧ ∀ id, g.rho id ≠ some b
theorem DefsOK.step {d : Nat} {g g' : G} {w w' ws : World} {ds : List Deferred} (h : DefsOK g w ws ds) (hs : Step d g w g' w') : DefsOK g' w' ws ds := by
  obtain ⟨bs, h1, h2, h3⟩ := h
  refine ⟨bs, h1, h2, fun b hb => ?_⟩
  obtain ⟨k1, k2, k3, k4, k5⟩ := h3 b hb
  obtain ⟨m1, m2, m3, m4⟩ := hs.keep b k2 k5 (.inl k4)
  exact ⟨k1, Nat.lt_of_lt_of_le k2 hs.size, m1.trans k3, m2.trans k4, m4⟩

/-- a frame in the midst of its code: it began in (gs, ws, Hs) -/
structure Sit (w0 : World) (B d nt : Nat) (pn : Option Value) (gs : G) (ws : World) (Hs : Heap) (g : G) (w : World) (st : St) (a : Act) : Prop where
  inv : Inv B g w st.heap
  env : EnvOK g w d st.env (tmOf a)
  facts : FactsOK g w st.facts (tmOf a)
  size : nt ≤ a.tmps.size
  hg : HG st.heap
  kept : Kept B w0 w
  hist : Post d B gs ws Hs g w st.heap st.wr nobody
  loops : ∀ id lp, hget Hs id = some (.loop lp) → ∃ lp', hget st.heap id = some (.loop lp')
  defs : DefsOK g w ws a.defers
  pin : ∀ x, pn = some x → a.tmps[0]? = some x

theorem Post.unborn {d B : Nat} {g g' : G} {w w' : World} {H H' : Heap} {wr : List Nat} {born : Nat → Prop} (h : Post d B g w H g' w' H' wr born) (hb : ∀ i, born i → H.length ≤ i) : Post d B g w H g' w' H' wr nobody :=
  ⟨h.step, h.inv, h.len, fun id hl hr _ => h.pend id hl hr fun e => by have := hb id e; omega, h.kept⟩
theorem Post.then {d B : Nat} {g g1 g2 : G} {w w1 w2 : World} {H H1 H2 : Heap} {r1 r2 : List Nat} {born : Nat → Prop} (h : Post d B g w H g1 w1 H1 r1 nobody) (k : Post d B g1 w1 H1 g2 w2 H2 r2 born) (hb : ∀ i, born i → H.length ≤ i) : Post d B g w H g2 w2 H2 (r2 ++ r1) nobody :=
  (h.trans k).unborn fun i hi => hi.elim (fun h => h.elim) (hb i)
theorem Kept.post {d B : Nat} {w0 : World} {g g' : G} {w w' : World} {H H' : Heap} {wr : List Nat} {born : Nat → Prop} (k : Kept B w0 w) (hi : Inv B g w H) (h : Post d B g w H g' w' H' wr born) : Kept B w0 w' := by
  refine ⟨fun b hb => ?_, h.step.os.trans k.os, h.step.tape.trans k.tape, h.step.output.trans k.output⟩
  have hbase := hi.base
  have := (h.step.keep b (by omega) (fun id hr => by have := (hi.rho id b hr).2.1; omega) (by
    cases ho : g.ow b with
    | none => exact .inl rfl
    | some o => have := (hi.ow b o ho).1; omega)).1
  exact this.trans (k.heap b hb)

/-- the variables of a region that have not been laid yet -/
def Pend (P : Program) (n0 : Nat) (ops : List Oper) (pre : List (Nat × Nat)) (g : G) (H : Heap) (σ : List Nat) : Prop :=
  ∀ i ∈ σ, ∀ o t d, ops[i]? = some o → o.op = .alloc t → o.dst = some d →
    ∃ id z, lookupN pre d = some id ∧ n0 ≤ id ∧ zeroOf P t = some z ∧ (∀ vs, z ≠ .tup vs) ∧ g.rho id = none ∧ hget H id = some (.box (z.cells.map ro1)) ∧
      ∀ j ∈ σ, ∀ o' t' d', ops[j]? = some o' → o'.op = .alloc t' → o'.dst = some d' → lookupN pre d' = some id → j = i

section
variable {P : Program} {d B : Nat} {env e : Env} {g : G} {w : World} {H : Heap} {a : Act} {pre : List (Nat × Nat)}

theorem OpOK.noFact {o : Oper} {out : Out} {H' : Heap} {wr : List Nat} {born : Nat → Prop} (h : OpOK P d B env g w H a o ⟨out, H', wr⟩ born) : OpOK P d B env g w H a o ⟨noFact out, H', wr⟩ born := by
  obtain ⟨g', w', x, h1, h2⟩ := h
  exact ⟨g', w', x, h1, h2.post, h2.slots, h2.val, fun id off e => by simp [Abs.noFact] at e⟩
theorem OpOK.factOf {o : Oper} {out : Out} {H' : Heap} {wr : List Nat} {born : Nat → Prop} {id : Option Nat} (h : OpOK P d B env g w H a o ⟨out, H', wr⟩ born) : OpOK P d B env g w H a o ⟨Abs.factOf id out, H', wr⟩ born := by
  obtain ⟨g', w', x, h1, h2⟩ := h
  refine ⟨g', w', x, h1, h2.post, h2.slots, h2.val, fun i off e => h2.fact i off ?_⟩
  simp only [Abs.factOf] at e
  split at e
  · rename_i i' off' h3
    split at e
    · cases e; exact h3
    · cases e
  · cases e

variable (hi : Inv B g w H) (he : EnvOK g w d env (tmOf a)) (hs : Sub e env)
include hi he hs

theorem opN_ok {X : Ctx} (hX : X.P = P) {o : Oper} {out : Out} (h : opN X pre e o = some out) (hp : ∀ t d', o.op = .alloc t → o.dst = some d' → ∃ id z, lookupN pre d' = some id ∧ zeroOf P t = some z ∧ (∀ vs, z ≠ .tup vs) ∧ g.rho id = none ∧ hget H id = some (.box (z.cells.map ro1))) :
    OpOK P d B env g w H a o ⟨out, H, []⟩ (fun i => ∃ t d', o.op = .alloc t ∧ o.dst = some d' ∧ lookupN pre d' = some i) := by
  have up : ∀ {born : Nat → Prop}, OpOK P d B env g w H a o ⟨out, H, []⟩ nobody → OpOK P d B env g w H a o ⟨out, H, []⟩ born := fun h => by
    obtain ⟨g', w', x, h1, h2⟩ := h
    exact ⟨g', w', x, h1, h2.post.mono (fun _ h => h) (fun _ h => h.elim), h2.slots, h2.val, h2.fact⟩
  subst hX
  unfold opN at h
  split at h
  · rename_i x ho; exact up (move_ok hi he hs ho h)
  · rename_i x ho
    split at h
    · rename_i dd hd; exact up (assign_ok hi he hs ho hd h)
    · cases h
  · rename_i c x y ho; exact up (pick_ok hi he hs ho h)
  · rename_i t ho
    split at h
    case h_2 => cases h
    rename_i dd hd
    split at h
    case h_2 => cases h
    rename_i id hid
    cases h
    obtain ⟨id', z, k1, k2, k3, k4, k5⟩ := hp t dd ho hd
    rw [hid] at k1; cases k1
    obtain ⟨g', w', x, h1, h2⟩ := alloc_ok hi he hs ho k2 k3 k4 k5
    exact ⟨g', w', x, h1, h2.post.mono (fun _ h => h) (fun i e => by subst e; exact ⟨t, dd, ho, hd, hid⟩), h2.slots, h2.val, h2.fact⟩
  · rename_i t parts ho; exact up (build_ok hi he hs ho h)
  · rename_i t n parts ho; exact up (buildSlice_ok hi he hs ho h)
  · rename_i x ho; exact up (nilCheck_ok hi he hs ho h)
  · rename_i op t x y yt ho; exact up (binOp_ok hi he hs ho h)
  · rename_i op t x ho; exact up (unOp_ok hi he hs ho h)
  · rename_i s t x ho; exact up (convert_ok hi he hs ho h)
  · rename_i fn f c ho; exact up (makeFunc_ok hi he hs ho h)
  · rename_i t l c ho; exact up (makeSlice_ok hi he hs ho h)
  · rename_i t x ho; exact up (makeFace_ok hi he hs ho h)
  · rename_i x xt t ok ho; exact up (assert_ok hi he hs ho h)
  · rename_i t x lo hi' mx ho
    split at h
    · exact up (sub_ok hi he hs ho h)
    · exact up (slice_ok hi he hs ho h)
  · rename_i s x f ho; exact up (fieldAddr_ok hi he hs ho h)
  · rename_i t x f ho; exact up (field_ok hi he hs ho h)
  · rename_i t x ix ho; exact up (indexAddr_ok hi he hs ho h)
  · rename_i t x ix ho; exact up (index_ok hi he hs ho h)
  · rename_i c ho
    split at h
    · rename_i hb; exact up (appendN_ok hi he hs ho hb h)
    · rename_i hb; exact up (copy_ok hi he hs ho hb h)
    · rename_i hb; exact up (cap_ok hi he hs ho hb h)
    · rename_i hb; exact up (clear_ok hi he hs ho hb h)
    · rename_i hb; exact up (minMax_ok hi he hs ho hb (fun ty cs args => rfl) h)
    · rename_i hb; exact up (minMax_ok hi he hs ho hb (fun ty cs args => rfl) h)
    · cases h
  · cases h
theorem opL_ok {o : Oper} {out : Out} (h : opL P e ((aimE e o).bind (hget H)) o = some out) : OpOK P d B env g w H a o ⟨out, H, []⟩ nobody := by
  unfold opL at h
  split at h
  · rename_i t p ho
    rw [show aimE e o = objOf (rawv e p) by simp [aimE, ho]] at h
    exact load_ok hi he hs ho h
  · rename_i t x ix ok ho
    rw [show aimE e o = objOf (ev e x) by simp [aimE, ho]] at h
    exact lookup_ok hi he hs ho h
  · rename_i c ho
    split at h
    · rename_i hb
      rw [show aimE e o = (match c.args.toList with | [x] => objOf (ev e x) | _ => none) by simp only [aimE, ho]; rfl] at h
      exact len_ok hi he hs ho hb h
    · cases h
  · cases h
/-- the operations that turn the heap, calls of functions aside -/
theorem opC_ok {X : Ctx} (hX : X.P = P) {facts fe : Env} (hf : FactsOK g w facts (tmOf a)) (hsf : Sub fe facts) {o : Oper} {c : OutC} (h : opC X e fe H o = some c) (hn : ∀ q f, o.op = .call q → q.callee ≠ .value f) : OpOK P d B env g w H a o c nobody := by
  subst hX
  unfold opC at h
  split at h
  · rename_i t x ho; exact box_okE hi he hs ho h
  · rename_i t p x ho; exact store_ok hi he hs ho h
  · rename_i t ho; cases h; exact makeMap_ok hi he hs ho
  · rename_i t m k x ho; exact mapPut_ok hi he hs (.inl ho) h
  · rename_i t m k x ho; exact mapPut_ok hi he hs (.inr ho) h
  · rename_i t x ho; exact range_ok hi he hs ho h
  · rename_i x s ho; exact next_ok hi he hs ho h
  · rename_i x ho; exact entry_ok hi he hs ho h
  · rename_i q ho
    split at h
    · rename_i hb; exact appendC_ok hi he hs hf hsf ho hb h
    · rename_i hb; exact delete_ok hi he hs ho hb h
    · rename_i f hb; exact absurd hb (hn q f ho)
    · cases h
  · cases h
end

/-! ### As the machine runs it -/
section
variable {P : Program} {X : Ctx} {pre : List (Nat × Nat)} {ops : List Oper} {r : Option Nat} {Q : Exit → Act → World → Prop} {K : Act → World → Prop}

theorem wp_of_run {o : Oper} {a : Act} {w w' : World} {x : Value} (hnd : ∀ c, o.op ≠ .defer c) (h : RunsAs P o a w w' x) (hK : K (a.put o.dst x) w') : o.wpIn (FW r) 0 P a w K Q := by
  refine ⟨fun _ _ => trivial, ?_⟩
  rw [Oper.semAt_eq _ _ _ hnd]
  rcases h with h | ⟨h, rfl⟩
  · rw [h]; exact hK
  · rw [h]; exact hK

theorem tmOf_put_un {o : Option Nat} {a : Act} {x : Value} (h : ∀ d, o = some d → d < a.tmps.size) : ∀ d, o = some d → tmOf (a.put o x) d = some x := by
  intro d hd
  subst hd
  rw [tmOf_put (h d rfl), tset_same]

variable {w0 ws w : World} {B d nt : Nat} {pn : Option Value} {gs g : G} {Hs : Heap} {st : St} {a : Act}
theorem put_defers {o : Option Nat} {x : Value} {a : Act} : (a.put o x).defers = a.defers := by cases o <;> rfl
theorem put_size {o : Option Nat} {x : Value} (a : Act) : (a.put o x).tmps.size = a.tmps.size := by
  cases o <;> simp [Act.put]
/-- a slot that may be written -/
def OkDst (nt : Nat) (pn : Option Value) (t : Nat) : Prop := t < nt ∧ (pn.isSome = true → t ≠ 0)
theorem put_pin {a : Act} {o : Option Nat} {x y : Value} (h : a.tmps[0]? = some x) (ho : ∀ t, o = some t → t ≠ 0) : (a.put o y).tmps[0]? = some x := by
  cases o with
  | none => exact h
  | some t =>
    have := ho t rfl
    simp only [Act.put]
    rw [Array.getElem?_setIfInBounds_ne (by omega)]
    exact h
/-- the situation behind an operation with this outcome -/
theorem Sit.left (h : Sit w0 B d nt pn gs ws Hs g w st a) {dst : Option Nat} {c : OutC} {born : Nat → Prop} {g' : G} {w' : World} {x : Value} {req : List Nat} (hl : Left d B st.env (tmOf a) g w st.heap dst c born g' w' x) (hok : okE req dst c = true)
    (hd : ∀ t, dst = some t → OkDst nt pn t) (hb : ∀ i, born i → Hs.length ≤ i) (hg : HG c.heap) (hlp : ∀ id lp, hget st.heap id = some (.loop lp) → ∃ lp', hget c.heap id = some (.loop lp')) : Sit w0 B d nt pn gs ws Hs g' w' (applyE none st dst c) (a.put dst x) := by
  have hd' : ∀ t, dst = some t → t < a.tmps.size := fun t ht => Nat.lt_of_lt_of_le (hd t ht).1 h.size
  obtain ⟨h1, h2⟩ := hl.fin h.env h.facts hd' hok
  exact ⟨hl.post.inv, h1, h2, by rw [put_size]; exact h.size, hg, h.kept.post h.inv hl.post, h.hist.then hl.post hb, fun id lp e => by obtain ⟨lp1, h1⟩ := h.loops id lp e; exact hlp id lp1 h1, by rw [put_defers]; exact h.defs.step hl.post.step, fun x hx => put_pin (h.pin x hx) fun t ht => (hd t ht).2 (by rw [hx]; rfl)⟩
/-- an operation that is passed by -/
theorem Sit.pass (h : Sit w0 B d nt pn gs ws Hs g w st a) {dst : Option Nat} (hd : ∀ t, dst = some t → OkDst nt pn t) :
    Sit w0 B d nt pn gs ws Hs g w { applyE none st dst ⟨⟨[], [], deadV, none⟩, st.heap, []⟩ with facts := factU (applyE none st dst ⟨⟨[], [], deadV, none⟩, st.heap, []⟩).facts dst } (a.put dst undef) := by
  have hl : Left d B st.env (tmOf a) g w st.heap dst ⟨⟨[], [], deadV, none⟩, st.heap, []⟩ nobody g w undef :=
    ⟨.refl h.inv, h.env, fun t _ => dead_slot, fun id off e => by cases e⟩
  have := h.left (req := []) hl (by rfl) hd (fun i e => e.elim) h.hg fun id lp e => ⟨lp, e⟩
  refine ⟨this.inv, this.env, ?_, this.size, this.hg, this.kept, this.hist, this.loops, this.defs, this.pin⟩
  cases dst with
  | none => exact this.facts
  | some t =>
    have ht : t < a.tmps.size := Nat.lt_of_lt_of_le (hd t rfl).1 h.size
    refine ⟨fun j id off hj => ?_, fun j hj => ?_⟩
    · simp only [factU] at hj
      rw [eget_eset] at hj
      split at hj
      · cases hj
      · exact this.facts.cell j id off hj
    · simp only [factU] at hj
      rw [eget_eset] at hj
      split at hj
      · rename_i e; subst e
        rw [tmOf_put ht, tset_same]
      · exact this.facts.un j hj

/-- what a slot says of whether an operation runs -/
theorem wanted_run (h : EnvOK g w d st.env (tmOf a)) (hf : FactsOK g w st.facts (tmOf a)) {os : Array Oper} (hops : os.toList = ops) {o : Oper} {b : Bool} (hw : wantedE (viewOf st.env (reqE ops o st)) (viewOf st.facts (slotsOf ops o)) ops o = some b) :
    Region.wanted o (yielded os a.tmps) = b := by
  unfold wantedE at hw
  unfold Region.wanted
  split at hw
  · rename_i hg; cases hw; rw [hg]
  · rename_i j want hg
    rw [hg]
    simp only []
    have hget : os[j]? = ops[j]? := by rw [← hops, Array.getElem?_toList]
    unfold yielded
    rw [hget]
    split at hw
    · rename_i dd hd
      rw [hd]
      have hds : dd ∈ slotsOf ops o := by simp [slotsOf, guardSlot, hg, hd]
      have v1 : eget (viewOf st.env (reqE ops o st)) dd = eget st.env dd := by rw [eget_viewOf, if_pos (by simp [reqE, hds])]
      have v2 : eget (viewOf st.facts (slotsOf ops o)) dd = eget st.facts dd := by rw [eget_viewOf, if_pos hds]
      rw [v1, v2] at hw
      simp only [Option.bind_some]
      split at hw
      · rename_i bb hb
        cases hw
        obtain ⟨x, hx, hs⟩ := h dd _ hb
        have hx : a.tmps[dd]? = some x := hx
        have hr : RelV g w (.bool bb) x := by simpa [SlotOK, HoldOK] using hs
        cases hr
        rw [hx]
        simp
      · split at hw
        · rename_i hu
          cases hw
          have hu : eget st.facts dd = some .nilFunc := by
            unfold isUn at hu
            split at hu
            · assumption
            · cases hu
          have : a.tmps[dd]? = some undef := hf.un dd hu
          rw [this]
          rfl
        · cases hw
    · rename_i hd
      cases hw
      rw [hd]
      rfl

/-- a part of a tuple is taken -/
theorem extract_ok (hi : Inv B g w st.heap) (he : EnvOK g w d st.env (tmOf a)) {o : Oper} {j i : Nat} {vs : List AVal} {v : AVal} (ho : o.op = .extract (.tmp j) i) (hd : o.dst ≠ some j) (hj : eget st.env j = some (.tup vs)) (hv : vs[i]? = some v) (hn : isTupN v = false) :
    ∃ g' x, (execOp a.eval o).run P w = .ok (.value x) w ∧ Left d B (punchE st.env (some (j, i))) (tmOf a) g w st.heap o.dst ⟨⟨[], [], v, none⟩, st.heap, []⟩ nobody g' w x ∧ EnvOK g w d (punchE st.env (some (j, i))) (tmOf a) := by
  obtain ⟨y, hy, hs⟩ := he j _ hj
  have hs : vs = [] ∨ ∃ xs : Array Value, y = .tuple xs ∧ xs.size = vs.length ∧ ∀ (k : Nat) (v : AVal), vs[k]? = some v → ∃ y, xs[k]? = some y ∧ CompOK g w (.comp d j k) v y := hs
  rcases hs with rfl | ⟨xs, rfl, hsz, hc⟩
  · simp at hv
  obtain ⟨x, hx, hcx⟩ := hc i v hv
  have hpe : ∀ k, eget (punchE st.env (some (j, i))) k = if k = j then some (.tup (vs.set i deadV)) else eget st.env k := fun k => by
    rw [eget_punch]
    by_cases e : k = j
    · subst e; simp [hj, pa, dead1]
    · rw [if_neg e]
      cases eget st.env k with
      | none => rfl
      | some u => simp [pa, Ne.symm e]
  have hE : EnvOK g w d (punchE st.env (some (j, i))) (tmOf a) := by
    intro k u hk
    rw [hpe] at hk
    split at hk
    · rename_i e; subst e
      cases hk
      refine ⟨_, hy, .inr ⟨xs, rfl, by simp [hsz], fun m u hm => ?_⟩⟩
      rw [List.getElem?_set] at hm
      split at hm
      · rename_i e; subst e
        split at hm
        · cases hm; exact ⟨x, hx, .inl rfl⟩
        · cases hm
      · exact hc m u hm
    · rename_i e
      obtain ⟨z, hz, hsz⟩ := he k u hk
      refine ⟨z, hz, hsz.congr fun m _ => ⟨fun l ow hl => ⟨ow, ?_⟩, rfl⟩⟩
      rw [hpe]
      by_cases e2 : m = j
      · subst e2; rw [hj] at hl; cases hl
      · rw [if_neg e2]; exact hl
  refine ⟨g.remap (give1to (.comp d j i) (.slot d (o.dst.getD 0))), x, ?_, ?_, hE⟩
  · simp only [execOp, ho, eval_tmp hy, Instr.extract, hx]
    rfl
  · have ht := turn_remap (σ := give1to (.comp d j i) (.slot d (o.dst.getD 0))) (d := d) hi (fun id off => give_ne (by simp)) (give_foreign not_foreign_comp)
    have hE' : EnvOK (g.remap (give1to (.comp d j i) (.slot d (o.dst.getD 0)))) w d (punchE st.env (some (j, i))) (tmOf a) := by
      refine hE.remap (fun k u _ => .inl (give_ne (by simp))) fun k us hk m u hm => ?_
      by_cases e : k = j ∧ m = i
      · obtain ⟨rfl, rfl⟩ := e
        rw [hpe, if_pos rfl] at hk
        cases hk
        rw [List.getElem?_set] at hm
        rw [if_pos rfl] at hm
        split at hm
        · cases hm; exact .inr trivial
        · cases hm
      · refine .inl (give_ne ?_)
        intro e2
        injection e2 with _ e3 e4
        exact e ⟨e3, e4⟩
    refine ⟨ht.post, hE', fun t htt => ?_, fun id off e => by cases e⟩
    have e3 : o.dst.getD 0 = t := by rw [htt]; rfl
    rcases hcx with rfl | hcx
    · exact dead_slot
    · have := hcx.remap (σ := give1to (.comp d j i) (.slot d (o.dst.getD 0)))
      rw [give_same, e3] at this
      rw [e3]
      cases v with
      | tup us =>
        cases us with
        | nil => exact .inl rfl
        | cons _ _ => cases hn
      | bor k => cases (show RelV _ w (.bor k) x from this)
      | sptr k p q => cases (show RelV _ w (.sptr k p q) x from this)
      | _ => exact this
end
end Go.Abs
end

section
/- A call's arguments. -/
namespace Go.Abs
open Go
set_option linter.unusedSimpArgs false
set_option linter.unusedVariables false
set_option linter.unusedSectionVars false

section
variable {B d : Nat} {g : G} {w : World} {H : Heap} {env e : Env} {a : Act} {tm : Nat → Option Value}
theorem take_exG {j : Nat} {l : List AVal} {k : Nat} (h : EnvOK g w d env tm) (hi : Inv B g w H) (hj : eget env j = some (.vec l (.ex k))) (h' : Holder) :
    ∃ x, tm j = some x ∧ Turn d B g (g.remap (give1to (.slot d j) h')) w H ∧ EnvOK (g.remap (give1to (.slot d j) h')) w d (esets (kills [j] env) [(j, deadV)]) tm ∧ ExOK (g.remap (give1to (.slot d j) h')) w h' l k x := by
  obtain ⟨x, hx, hs⟩ := h j _ hj
  have hs : ExOK g w (.slot d j) l k x := by simpa [SlotOK, HoldOK] using hs
  have hk : ∀ i, eget (kills [j] env) i = (eget env i).map (killv [j]) := eget_kills [j] env
  have h1 := (h.killed [j] hk).kill (NoBor.killed (by simp) hk) ⟨x, hx⟩
  refine ⟨x, hx, turn_remap hi (fun id off => give_ne (by simp)) (give_foreign not_foreign_slot), h1.remap (fun i v hv => ?_) (fun i vs hv j' v' hj' => .inl (give_ne (by simp))), ?_⟩
  · by_cases e : i = j
    · subst e
      rw [eget_eset_same] at hv
      cases hv
      exact .inr trivial
    · exact .inl (give_ne (by simp [e]))
  · have := hs.remap (σ := give1to (.slot d j) h')
    rwa [give_same] at this
theorem take_tipG {j : Nat} {l : List AVal} {k : Nat} (h : EnvOK g w d env tm) (hi : Inv B g w H) (hj : eget env j = some (.vec l (.tip k))) (h' : Holder) :
    ∃ x, tm j = some x ∧ Turn d B g (g.remap (give1to (.slot d j) h')) w H ∧ EnvOK (g.remap (give1to (.slot d j) h')) w d (esets env [(j, .vec l .ro)]) tm ∧ RelV (g.remap (give1to (.slot d j) h')) w (.vec l (.tip k)) x ∧ TipOK (g.remap (give1to (.slot d j) h')) w h' l k x := by
  obtain ⟨x, hx, hs⟩ := h j _ hj
  have hs : RelV g w (.vec l (.tip k)) x ∧ TipOK g w (.slot d j) l k x := by simpa [SlotOK, HoldOK] using hs
  have h1 := h.flag (o' := .ro) hj hx (hs.1.own _)
  refine ⟨x, hx, turn_remap hi (fun id off => give_ne (by simp)) (give_foreign not_foreign_slot), h1.remap (fun i v hv => ?_) (fun i vs hv j' v' hj' => .inl (give_ne (by simp))), hs.1.le (le_remap _ _ _), ?_⟩
  · by_cases e : i = j
    · subst e
      rw [eget_eset_same] at hv
      cases hv
      exact .inr trivial
    · exact .inl (give_ne (by simp [e]))
  · have := hs.2.remap (σ := give1to (.slot d j) h')
    rwa [give_same] at this
theorem freeze_slotX {i : Nat} {l : List AVal} {k : Nat} (h : EnvOK g w d env tm) (hi : Inv B g w H) (he : eget env i = some (.vec l (.ex k))) :
    ∃ g', Fix d B g g' w H ∧ (∀ b, g'.ext b ≠ g.ext b → g.ow b = some (.slot d i)) ∧ EnvOK g' w d (eset env i (.vec l (.tip k))) tm := by
  obtain ⟨x, hx, hs⟩ := h i _ he
  have hs : ExOK g w (.slot d i) l k x := by simpa [SlotOK, HoldOK] using hs
  obtain ⟨a, cap, rfl, t⟩ := hs
  rcases t with ⟨rfl, rfl⟩ | ⟨hk, hc, b, o, vs, rfl, how, hext, hu, hl, h1, hr, ht⟩
  · exact ⟨g, .refl hi, fun b hb => absurd rfl hb, h.flag he hx ⟨.vecE _ _ _ fun _ => rfl, ⟨a, 0, 0, rfl, .inl rfl⟩⟩⟩
  · have hvl : vs.length = l.length * k := by rw [← hl.length]; exact flat_length hu
    have hle : g.ext b ≤ o + l.length * k := by omega
    refine ⟨g.fix b (o + l.length * k), ⟨(chg_fix hle).step (.inr (.inr (by rw [how]; exact not_foreign_slot))), hi.fix hle how (by simp), rfl, rfl⟩, fun b' hb' => ?_, ?_⟩
    · by_cases e : b' = b
      · subst e; exact how
      · exact absurd (by simp [G.fix, e]) hb'
    refine h.turn hi (chg_fix hle) (fun j hj e => by rw [how] at e; cases e; exact hj rfl) (fun j p e => by rw [how] at e; cases e) he hx rfl (fun _ h => h) ?_
    have hext' : (g.fix b (o + l.length * k)).ext b = o + l.length * k := by simp [G.fix]
    refine ⟨.vec _ hu (hl.le (chg_fix (w := w) hle).le) h1 hr (by rw [hext', hvl]; exact Nat.le_refl _) hc (by simp; omega), ⟨_, _, cap, rfl, .inr ⟨hk, b, o, rfl, how, hu, hext', ?_⟩⟩⟩
    intro j hj
    have hcap : l.length * k + (cap - l.length) * k = cap * k := by rw [← Nat.add_mul]; congr 1; omega
    have := ht.1 (l.length * k + j) (by omega)
    rwa [show o + (l.length * k + j) = o + l.length * k + j by omega] at this

/-- a value that a callee's slot may hold -/
def plainV (v : AVal) : Prop := (∀ vs, v ≠ .tup vs) ∧ (∀ j, v ≠ .bor j) ∧ ∀ j p q, v ≠ .sptr j p q
theorem strip_plain {v : AVal} (h : plainV v) : plainV (strip v) := by
  obtain ⟨h1, h2, h3⟩ := h
  cases v with
  | tup vs => exact absurd rfl (h1 vs)
  | bor j => exact absurd rfl (h2 j)
  | sptr j p q => exact absurd rfl (h3 j p q)
  | vec l o => cases o <;> exact ⟨by simp [strip, strip1], by simp [strip, strip1], by simp [strip, strip1]⟩
  | _ => exact ⟨by simp [strip, strip1], by simp [strip, strip1], by simp [strip, strip1]⟩
theorem strip1_flags {v : AVal} : (∀ l k, strip1 v ≠ .vec l (.ex k)) ∧ ∀ l k, strip1 v ≠ .vec l (.tip (k + 1)) := by
  unfold strip1
  split
  · exact ⟨by simp, by simp⟩
  · exact ⟨by simp, by simp⟩
  · rename_i h0 h; first | exact ⟨fun l k e => h _ _ e, fun l k e => h _ _ e⟩ | exact ⟨fun l k e => h0 _ _ e, fun l k e => h0 _ _ e⟩
theorem strip_flags {v : AVal} : (∀ l k, strip v ≠ .vec l (.ex k)) ∧ ∀ l k, strip v ≠ .vec l (.tip (k + 1)) := by
  unfold strip
  split
  · exact ⟨by simp, by simp⟩
  · exact ⟨by simp, by simp⟩
  · exact strip1_flags
/-- what is read of a slot's value once it is handed on -/
theorem esc_cases (env : Env) (x : Operand) : esc env x = [] ∨ ∃ i l k, esc env x = [(i, .vec l (.tip k))] ∧ eget env i = some (.vec l (.ex k)) ∧ ((x = .tmp i) ∨ ∃ t, x = .tmp t ∧ eget env t = some (.bor i)) := by
  unfold esc
  split
  · split
    · rename_i t _ l k h; exact .inr ⟨_, _, _, rfl, h, .inl rfl⟩
    · split
      · rename_i t _ i h _ l k h2; exact .inr ⟨_, _, _, rfl, h2, .inr ⟨_, rfl, h⟩⟩
      · exact .inl rfl
    · exact .inl rfl
  · exact .inl rfl

/-- what has been made of a frame's slots when some arguments have been taken -/
structure ArgsInv (env E : Env) (s : ArgsE) : Prop where
  slot : ∀ t, t ∉ s.taken → eget E t = (eget env t).map (killv s.gone) ∨ ∃ l k, eget env t = some (.vec l (.ex k)) ∧ eget E t = some (.vec l (.tip k))
  unseen : ∀ t, t ∉ s.seen → lastOf s.ups t = none
  gone : ∀ i ∈ s.gone, i ∈ s.taken
  taken : ∀ i ∈ s.taken, i ∈ s.seen
  ups : ∀ p ∈ s.ups, varOk p.2 = true ∧ ∀ l k, p.2 ≠ .vec l (.ex k)

theorem anyN_false {a b : List Nat} (h : anyN a b = false) : ∀ i ∈ a, i ∉ b := by
  intro i hi hb
  unfold anyN at h
  rw [List.any_eq_false] at h
  exact h i hi (hasN_iff.2 hb)

theorem killv_notgone {gone : List Nat} {v : AVal} (h : ∀ r ∈ root1 v, r ∉ gone) : killv gone v = v := by
  cases v with
  | bor j => simp only [killv]; rw [if_neg (fun e => h j (by simp [root1]) (hasN_iff.1 e))]
  | sptr j a b => simp only [killv]; rw [if_neg (fun e => h j (by simp [root1]) (hasN_iff.1 e))]
  | _ => rfl

/-- an operand whose slots have not been taken reads as it did -/
theorem ArgsInv.ev {E : Env} {s : ArgsE} (hI : ArgsInv env E s) (hs : Sub e env) {x : Operand} {v : AVal} (hv : ev e x = some v) (hm : ∀ i ∈ heldIn e x, i ∉ s.taken) : ∃ v', ev E x = some v' ∧ strip v' = strip v := by
  rcases ev_cases hv with ⟨i, l, o, hr, hl, rfl⟩ | ⟨hr, h1, h2, h3⟩
  · cases x with
    | tmp t =>
      have hrt : eget e t = some (.bor i) := hr
      have hheld : heldIn e (.tmp t) = [t, i] := by simp [heldIn, hrt]
      have ht := hm t (by rw [hheld]; simp)
      have hi := hm i (by rw [hheld]; simp)
      have e1 : eget E t = some (.bor i) := by
        rcases hI.slot t ht with h | ⟨l', k', h, _⟩
        · rw [h, hs t _ hrt]
          simp only [Option.map_some]
          rw [killv_notgone]
          intro r hr hg
          simp [root1] at hr; subst hr
          exact hi (hI.gone _ hg)
        · rw [hs t _ hrt] at h; cases h
      have e2 : ∃ o', eget E i = some (.vec l o') := by
        rcases hI.slot i hi with h | ⟨l', k', h, h'⟩
        · rw [hs i _ hl] at h; exact ⟨o, h⟩
        · rw [hs i _ hl] at h; cases h; exact ⟨_, h'⟩
      obtain ⟨o', e2⟩ := e2
      refine ⟨.vec l .ro, ?_, rfl⟩
      simp [Abs.ev, rawv, evV, e1, e2]
    | const c => exact absurd (@ofV_rel ⟨fun _ => none, fun _ => 0, fun _ => none⟩ default _ _ hr) (by intro k; cases k)
    | global gl => cases hr
    | func f => cases hr
  · cases x with
    | tmp t =>
      have hrt : eget e t = some v := hr
      have hheld : t ∈ heldIn e (.tmp t) := by
        simp only [heldIn]; split <;> simp
      have ht := hm t hheld
      rcases hI.slot t ht with h | ⟨l, k, h, h'⟩
      · rw [hs t _ hrt] at h
        simp only [Option.map_some] at h
        rw [killv_notgone] at h
        · refine ⟨v, ?_, rfl⟩
          unfold Abs.ev
          simp only [rawv, h]
          cases v <;> simp_all [evV]
        · intro r hr
          cases v <;> simp_all [root1]
      · rw [hs t _ hrt] at h; cases h
        refine ⟨.vec l (.tip k), ?_, rfl⟩
        simp [Abs.ev, rawv, evV, h']
    | const c =>
      refine ⟨v, ?_, rfl⟩
      unfold Abs.ev
      have : rawv E (.const c) = some v := hr
      rw [this]
      cases v <;> simp_all [evV]
    | global gl => cases hr
    | func f =>
      refine ⟨v, ?_, rfl⟩
      unfold Abs.ev
      have : rawv E (.func f) = some v := hr
      rw [this]
      cases v <;> simp_all [evV]

theorem lastOf_cons {i : Nat} {u : AVal} {r : List (Nat × AVal)} {t : Nat} : lastOf ((i, u) :: r) t = (lastOf r t).or (if i = t then some u else none) := by
  unfold lastOf
  simp only [esets]
  rw [eget_esets_last, eget_eset]
  rfl
/-- slots behind the arguments -/
theorem env_args (s : ArgsE) (t : Nat) : eget (esets (kills s.gone env) s.ups) t = (lastOf s.ups t).or ((eget env t).map (killv s.gone)) := by
  rw [eget_esets_last, eget_kills]

def ArgHeld (g : G) (w : World) (d n0 : Nat) (a : Act) (vs : List AVal) (xs : List Operand) : Prop :=
  vs.length = xs.length ∧ ∀ (j : Nat) (v : AVal) (x : Operand), vs[j]? = some v → xs[j]? = some x → HoldOK g w (.slot (d + 1) (n0 + j)) v (a.eval x) ∧ plainV v
theorem ArgHeld.cons {n0 : Nat} {v : AVal} {x : Operand} {vs : List AVal} {xs : List Operand} (h : HoldOK g w (.slot (d + 1) n0) v (a.eval x)) (hp : plainV v) (t : ArgHeld g w d (n0 + 1) a vs xs) : ArgHeld g w d n0 a (v :: vs) (x :: xs) := by
  refine ⟨by simp [t.1], fun j v' x' h1 h2 => ?_⟩
  cases j with
  | zero => simp at h1 h2; subst h1; subst h2; exact ⟨h, hp⟩
  | succ j =>
    have := t.2 j v' x' (by simpa using h1) (by simpa using h2)
    rwa [show n0 + 1 + j = n0 + (j + 1) by omega] at this
theorem ArgHeld.remap {n0 : Nat} {vs : List AVal} {xs : List Operand} {j : Nat} {h' : Holder} (t : ArgHeld g w d n0 a vs xs) : ArgHeld (g.remap (give1to (.slot d j) h')) w d n0 a vs xs :=
  ⟨t.1, fun i v x h1 h2 => by
    obtain ⟨k1, k2⟩ := t.2 i v x h1 h2
    have := k1.remap (σ := give1to (.slot d j) h')
    rw [give_ne (by intro e; injection e with e1 _; omega)] at this
    exact ⟨this, k2⟩⟩
theorem ArgHeld.fixed {n0 : Nat} {vs : List AVal} {xs : List Operand} {i : Nat} {g' : G} (t : ArgHeld g w d n0 a vs xs) (f : Fix d B g g' w H) (hx : ∀ b, g'.ext b ≠ g.ext b → g.ow b = some (.slot d i)) : ArgHeld g' w d n0 a vs xs :=
  ⟨t.1, fun j v x h1 h2 => by
    obtain ⟨k1, k2⟩ := t.2 j v x h1 h2
    exact ⟨k1.fixed f.step.le f.ow hx (by intro e; injection e with e1 _; omega), k2⟩⟩

theorem ev_plain {x : Operand} {v : AVal} (hv : ev env x = some v) : plainV v := ⟨ev_noTup hv, ev_noBor hv, ev_noSptr hv⟩

/-- AN ARGUMENT THAT IS HANDED ON as what it reads. -/
theorem arg_plain {E : Env} {s : ArgsE} (hI : ArgsInv env E s) (hs : Sub e env) (hi : Inv B g w H) (hE : EnvOK g w d E (tmOf a)) {x : Operand} {v : AVal} (hv : ev e x = some v) (hm : ∀ i ∈ heldIn e x, i ∉ s.taken) :
    ∃ g' i, Fix d B g g' w H ∧ (∀ b, g'.ext b ≠ g.ext b → g.ow b = some (.slot d i)) ∧ EnvOK g' w d (esets E (esc e x)) (tmOf a) ∧ RelV g' w (strip v) (a.eval x) ∧ ∀ i l k, (i, AVal.vec l (.tip k)) ∈ esc e x → eget E i = some (.vec l (.ex k)) ∨ eget E i = some (.vec l (.tip k)) := by
  rcases esc_cases e x with h0 | ⟨i, l, k, h0, hei, hx⟩
  · -- nothing is frozen
    refine ⟨g, 0, .refl hi, fun b hb => absurd rfl hb, by rw [h0]; exact hE, ?_, fun i l k hm => by rw [h0] at hm; cases hm⟩
    have hno : ∀ l k, v ≠ .vec l (.ex k) := by
      rintro l k rfl
      rcases ev_cases hv with ⟨i, l', o, _, _, e3⟩ | ⟨hr, _⟩
      · cases e3
      · cases x with
        | tmp t => have hr : eget e t = some _ := hr; simp [esc, hr] at h0
        | const c => exact absurd (@ofV_rel ⟨fun _ => none, fun _ => 0, fun _ => none⟩ default _ _ hr) (by
            intro h
            simp only [rawv] at hr
            unfold ofV at hr
            split at hr
            · obtain ⟨_, _, e3⟩ := Option.map_eq_some_iff.1 hr; cases e3
            · split at hr <;> cases hr
            · unfold ofV1 at hr; split at hr <;> cases hr)
        | global gl => cases hr
        | func f => cases hr
    obtain ⟨v', h1, h2⟩ := hI.ev hs hv hm
    · have hesc : ∀ i u, (i, u) ∈ esc E x → eget E i = some u := by
        intro i u hmem
        exfalso
        rcases esc_cases E x with h3 | ⟨i', l', k', h3, hei, hx⟩
        · rw [h3] at hmem; cases hmem
        · -- a slot that was frozen is no longer its holder's alone
          have hmem' : (i' : Nat) ∈ heldIn e x := by
            rcases hx with rfl | ⟨t, rfl, ht⟩
            · simp only [heldIn]; split <;> simp
            · rcases ev_cases hv with ⟨i2, l2, o2, hr, hl, e3⟩ | ⟨hr, _, hb, _⟩
              · have hr : eget e t = some (.bor i2) := hr
                have := hI.slot t (hm t (by simp [heldIn, hr]))
                rw [hs t _ hr] at this
                rcases this with h | ⟨_, _, h, _⟩
                · rw [ht] at h
                  simp only [Option.map_some, Option.some.injEq] at h
                  have h := killv_ne h.symm (by simp [deadV])
                  cases h
                  simp [heldIn, hr]
                · cases h
              · have hr : eget e t = some v := hr
                have := hI.slot t (hm t (by simp only [heldIn]; split <;> simp))
                rw [hs t _ hr] at this
                rcases this with h | ⟨_, _, _, h⟩
                · rw [ht] at h
                  simp only [Option.map_some, Option.some.injEq] at h
                  have h := killv_ne h.symm (by simp [deadV])
                  exact absurd h.symm (hb i')
                · rw [ht] at h; cases h
          rcases hI.slot i' (hm i' hmem') with h | ⟨_, _, _, h⟩
          · rw [hei] at h
            obtain ⟨u', hu', hk'⟩ := Option.map_eq_some_iff.1 h.symm
            have := killv_ne hk' (by simp [deadV])
            subst this
            -- then it was so at the outset
            rcases hx with rfl | ⟨t, rfl, ht⟩
            · rcases ev_cases hv with ⟨i2, l2, o2, hr, hl, e3⟩ | ⟨hr, _, hb, _⟩
              · have hr : eget e i' = some (.bor i2) := hr
                rw [hs _ _ hr] at hu'; cases hu'
              · have hr : eget e i' = some v := hr
                rw [hs _ _ hr] at hu'; cases hu'
                exact hno _ _ rfl
            · rcases ev_cases hv with ⟨i2, l2, o2, hr, hl, e3⟩ | ⟨hr, _, hb, _⟩
              · have hr : eget e t = some (.bor i2) := hr
                have h4 := hI.slot t (hm t (by simp [heldIn, hr]))
                rw [hs t _ hr] at h4
                rcases h4 with h4 | ⟨_, _, h4, _⟩
                · rw [ht] at h4
                  simp only [Option.map_some, Option.some.injEq] at h4
                  have h4 := killv_ne h4.symm (by simp [deadV])
                  cases h4
                  rw [hs _ _ hl] at hu'; cases hu'
                  simp [esc, hr, hl] at h0
                · cases h4
              · have hr : eget e t = some v := hr
                have h4 := hI.slot t (hm t (by simp only [heldIn]; split <;> simp))
                rw [hs t _ hr] at h4
                rcases h4 with h4 | ⟨_, _, _, h4⟩
                · rw [ht] at h4
                  simp only [Option.map_some, Option.some.injEq] at h4
                  have h4 := killv_ne h4.symm (by simp [deadV])
                  exact absurd h4.symm (hb i')
                · rw [ht] at h4; cases h4
          · rw [hei] at h; cases h
      have := ev_frozen hE (.refl E) h1 hesc
      rw [← h2, ← strip_ro (ev_noTup h1)]
      exact this.strip
  · -- one slot is frozen
    have hmem : i ∈ heldIn e x := by
      rcases hx with rfl | ⟨t, rfl, ht⟩
      · simp only [heldIn]; split <;> simp
      · simp [heldIn, ht]
    have hEi : eget E i = some (.vec l (.ex k)) ∨ eget E i = some (.vec l (.tip k)) := by
      rcases hI.slot i (hm i hmem) with h | ⟨l', k', h, h'⟩
      · rw [hs i _ hei] at h; exact .inl h
      · rw [hs i _ hei] at h; cases h; exact .inr h'
    have hfz : ∃ g', Fix d B g g' w H ∧ (∀ b, g'.ext b ≠ g.ext b → g.ow b = some (.slot d i)) ∧ EnvOK g' w d (eset E i (.vec l (.tip k))) (tmOf a) ∧ Froze E (eset E i (.vec l (.tip k))) := by
      rcases hEi with h | h
      · obtain ⟨g', k1, k2, k3⟩ := freeze_slotX hE hi h
        refine ⟨g', k1, k2, k3, fun j => ?_⟩
        rw [eget_eset]
        split
        · rename_i e3; subst e3; exact .inr ⟨l, k, h, rfl⟩
        · exact .inl rfl
      · obtain ⟨y, hy, hsl⟩ := hE i _ h
        refine ⟨g, .refl hi, fun b hb => absurd rfl hb, hE.flag h hy (by simpa [SlotOK] using hsl), fun j => ?_⟩
        rw [eget_eset]
        split
        · rename_i e3; subst e3; exact .inl h.symm
        · exact .inl rfl
    obtain ⟨g', k1, k2, k3, k4⟩ := hfz
    refine ⟨g', i, k1, k2, by rw [h0]; exact k3, ?_, fun i' l' k' hm' => ?_⟩
    · obtain ⟨v', hvE, hro⟩ := hI.ev hs hv hm
      have hesc : ∀ i' u, (i', u) ∈ esc E x → eget (eset E i (.vec l (.tip k))) i' = some u := by
        intro i' u hmm
        rcases esc_cases E x with h3 | ⟨i2, l2, k2, h3, hei2, hx2⟩
        · rw [h3] at hmm; cases hmm
        · rw [h3] at hmm
          simp only [List.mem_singleton, Prod.mk.injEq] at hmm
          obtain ⟨rfl, rfl⟩ := hmm
          -- it is the slot that has been frozen
          have hii : i' = i := by
            rcases hx with rfl | ⟨t, rfl, ht⟩
            · rcases hx2 with e3 | ⟨t2, e3, ht2⟩
              · cases e3; rfl
              · cases e3
                rcases hEi with h | h <;> (rw [ht2] at h; cases h)
            · have hEt : eget E t = some (.bor i) := by
                rcases hI.slot t (hm t (by simp [heldIn, ht])) with h | ⟨_, _, h, _⟩
                · rw [hs t _ ht] at h
                  rw [h]
                  simp only [Option.map_some]
                  rw [killv_notgone]
                  intro r hr hg
                  simp [root1] at hr; subst hr
                  exact hm _ hmem (hI.gone _ hg)
                · rw [hs t _ ht] at h; cases h
              rcases hx2 with e3 | ⟨t2, e3, ht2⟩
              · cases e3; rw [hei2] at hEt; cases hEt
              · cases e3; rw [ht2] at hEt; cases hEt; rfl
          subst hii
          rw [eget_eset_same]
          rcases hEi with h | h
          · rw [hei2] at h; cases h; rfl
          · rw [hei2] at h; cases h
      have := ev_frozen k3 k4 hvE hesc
      rw [← hro, ← strip_ro (ev_noTup hvE)]
      exact this.strip
    · rw [h0] at hm'
      simp only [List.mem_singleton, Prod.mk.injEq, AVal.vec.injEq, Own.tip.injEq] at hm'
      obtain ⟨rfl, rfl, rfl⟩ := hm'
      exact hEi
end
end Go.Abs
end

