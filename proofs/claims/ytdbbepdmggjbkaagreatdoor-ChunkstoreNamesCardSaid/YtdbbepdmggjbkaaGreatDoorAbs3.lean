/- The evaluator and its proof, part 3 of 3. -/
import Derived.Test.YtdbbepdmggjbkaaGreatDoorAbs2
import Derived.RangeFuncRecord
import Derived.Deep.Slices
import Derived.OpenShut
import Derived.Carry
import Derived.CallsIn
set_option linter.unusedSectionVars false

section
/- A call, as the machine runs it. -/
namespace Go.Abs
open Go
set_option linter.unusedSimpArgs false
set_option linter.unusedVariables false
set_option linter.unusedSectionVars false

section
variable {B d : Nat} {g : G} {w : World} {H : Heap} {env e : Env} {a : Act} {tk : List Nat}

theorem lastOf_nil (t : Nat) : lastOf [] t = none := rfl
/-- THE ARGUMENTS, one after the other. -/
theorem args_ok (hs : Sub e env) (hi : Inv B g w H) (he : EnvOK g w d env (tmOf a)) : ∀ (xs : List Operand) (i n0 : Nat) (s : ArgsE), argsE e tk i xs = some s →
    ∃ g1, Turn d B g g1 w H ∧ EnvOK g1 w d (esets (kills s.gone env) s.ups) (tmOf a) ∧ ArgHeld g1 w d n0 a s.args xs ∧ ArgsInv env (esets (kills s.gone env) s.ups) s := by
  intro xs
  induction xs with
  | nil =>
    intro i n0 s h
    simp only [argsE] at h
    cases h
    exact ⟨g, .refl hi, he, ⟨rfl, fun j v x h _ => by simp at h⟩, ⟨fun t _ => .inl (by simp only [kills, esets]; cases eget env t <;> simp [killv_nil]), fun t _ => rfl, by simp, by simp, by simp⟩⟩
  | cons x r ih =>
    intro i n0 s h
    unfold argsE at h
    split at h
    case h_2 => cases h
    rename_i s0 v hs0 hv
    obtain ⟨g1, t1, hE, hheld, hI⟩ := ih (i + 1) (n0 + 1) s0 hs0
    simp only [] at h
    split at h
    · cases h
    rename_i hany
    have hm : ∀ i ∈ heldIn e x, i ∉ s0.taken := anyN_false (by simpa using hany)
    generalize hEd : esets (kills s0.gone env) s0.ups = E at hE hI
    have hEt : ∀ t, eget E t = (lastOf s0.ups t).or ((eget env t).map (killv s0.gone)) := fun t => by rw [← hEd]; exact env_args s0 t
    -- handed on as it reads
    have plain : ∀ s, s = (⟨strip v :: s0.args, esc e x ++ s0.ups, s0.gone, heldIn e x ++ s0.seen, s0.taken⟩ : ArgsE) →
        ∃ g1, Turn d B g g1 w H ∧ EnvOK g1 w d (esets (kills s.gone env) s.ups) (tmOf a) ∧ ArgHeld g1 w d n0 a s.args (x :: r) ∧ ArgsInv env (esets (kills s.gone env) s.ups) s := by
      rintro s rfl
      obtain ⟨g2, i0, f2, hx2, hE2, hrel, hwas⟩ := arg_plain hI hs t1.inv hE hv hm
      have hlast : ∀ t, eget (esets (kills s0.gone env) (esc e x ++ s0.ups)) t = eget (esets E (esc e x)) t := by
        intro t
        rcases esc_cases e x with h0 | ⟨i, l, k, h0, hei, _⟩
        · rw [h0, List.nil_append, hEd]; rfl
        · rw [h0]
          simp only [List.singleton_append]
          rw [eget_esets_last, lastOf_cons, eget_kills, esets_one, eget_eset, hEt]
          by_cases e3 : i = t
          · subst e3
            rw [if_pos rfl, if_pos rfl]
            cases hl : lastOf s0.ups i with
            | none => rfl
            | some u =>
              have h1 := hEt i
              rw [hl, Option.some_or] at h1
              rcases hwas i l k (by rw [h0]; simp) with h2 | h2
              · rw [h1] at h2
                cases h2
                exact absurd rfl ((hI.ups _ (lastOf_some hl)).2 l k)
              · rw [h1] at h2; cases h2; rfl
          · rw [if_neg e3, if_neg e3, Option.or_none]
      have hE3 := hE2.ext hlast
      refine ⟨g2, t1.trans f2.turn, hE3, .cons (hrel.hold strip_flags.1 strip_flags.2) (strip_plain (ev_plain hv)) (hheld.fixed f2 hx2), ?_⟩
      refine ⟨fun t ht => ?_, fun t ht => ?_, hI.gone, fun i hi' => List.mem_append_right _ (hI.taken i hi'), fun p hp => ?_⟩
      · rw [hlast]
        rcases esc_cases e x with h0 | ⟨i, l, k, h0, hei, _⟩
        · rw [h0]; exact hI.slot t ht
        · rw [h0, esets_one, eget_eset]
          by_cases e3 : i = t
          · subst e3
            rw [if_pos rfl]
            exact .inr ⟨l, k, hs i _ hei, rfl⟩
          · rw [if_neg e3]; exact hI.slot t ht
      · simp only [List.mem_append, not_or] at ht
        rcases esc_cases e x with h0 | ⟨i, l, k, h0, hei, hx⟩
        · rw [h0]; exact hI.unseen t ht.2
        · rw [h0]
          simp only [List.singleton_append]
          rw [lastOf_cons, hI.unseen t ht.2, Option.none_or, if_neg]
          rintro rfl
          refine ht.1 ?_
          rcases hx with rfl | ⟨t', rfl, ht'⟩
          · simp only [heldIn]; split <;> simp
          · simp [heldIn, ht']
      · rcases List.mem_append.1 hp with hp | hp
        · rcases esc_cases e x with h0 | ⟨i, l, k, h0, hei, _⟩
          · rw [h0] at hp; cases hp
          · rw [h0] at hp; simp at hp; subst hp; exact ⟨rfl, by simp⟩
        · exact hI.ups p hp
    -- a slot's slice is taken
    have takeEx : ∀ (j : Nat) (l : List AVal) (k : Nat), eget e j = some (.vec l (.ex k)) → j ∈ heldIn e x → j ∉ s0.seen → tmOf a j = some (a.eval x) → ∀ s, s = (⟨.vec l (.ex k) :: s0.args, (j, deadV) :: s0.ups, j :: s0.gone, heldIn e x ++ s0.seen, j :: s0.taken⟩ : ArgsE) →
        ∃ g1, Turn d B g g1 w H ∧ EnvOK g1 w d (esets (kills s.gone env) s.ups) (tmOf a) ∧ ArgHeld g1 w d n0 a s.args (x :: r) ∧ ArgsInv env (esets (kills s.gone env) s.ups) s := by
      rintro j l k hj hmem hns htx s rfl
      have hEj : eget E j = some (.vec l (.ex k)) := by rw [hEt, hI.unseen j hns, hs j _ hj]; rfl
      obtain ⟨y, hy, t2, hE2, hex⟩ := take_exG hE t1.inv hEj (.slot (d + 1) n0)
      rw [htx] at hy; cases hy
      have hlast : ∀ t, eget (esets (kills (j :: s0.gone) env) ((j, deadV) :: s0.ups)) t = eget (esets (kills [j] E) [(j, deadV)]) t := by
        intro t
        rw [eget_esets_last, lastOf_cons, eget_kills, esets_one, eget_eset, eget_kills, hEt]
        by_cases e3 : j = t
        · subst e3; rw [hI.unseen j hns]; simp
        · rw [if_neg e3, if_neg e3, Option.or_none]
          cases hl : lastOf s0.ups t with
          | some u =>
            simp only [Option.some_or, Option.map_some]
            rw [killv_varOk (hI.ups _ (lastOf_some hl)).1]
          | none =>
            simp only [Option.none_or, Option.map_map]
            congr 1
            funext u
            exact killv_cons
      refine ⟨_, t1.trans t2, hE2.ext hlast, .cons hex ⟨by simp, by simp, by simp⟩ hheld.remap, ?_⟩
      refine ⟨fun t ht => ?_, fun t ht => ?_, fun i hi' => ?_, fun i hi' => ?_, fun p hp => ?_⟩
      · simp only [List.mem_cons, not_or] at ht
        rw [hlast, esets_one, eget_eset, if_neg (Ne.symm ht.1), eget_kills]
        rcases hI.slot t ht.2 with h1 | ⟨l', k', h1, h2⟩
        · left
          rw [h1, Option.map_map]
          congr 1
          funext u
          exact killv_cons.symm
        · right
          exact ⟨l', k', h1, by rw [h2]; rfl⟩
      · simp only [List.mem_append, not_or] at ht
        rw [lastOf_cons, hI.unseen t ht.2, Option.none_or, if_neg]
        rintro rfl
        exact ht.1 hmem
      · rcases List.mem_cons.1 hi' with rfl | hi'
        · simp
        · exact List.mem_cons_of_mem _ (hI.gone i hi')
      · rcases List.mem_cons.1 hi' with rfl | hi'
        · exact List.mem_append_left _ hmem
        · exact List.mem_append_right _ (hI.taken i hi')
      · rcases List.mem_cons.1 hp with rfl | hp
        · exact ⟨rfl, by simp [deadV]⟩
        · exact hI.ups p hp
    have takeTip : ∀ (j : Nat) (l : List AVal) (k : Nat), eget e j = some (.vec l (.tip k)) → j ∈ heldIn e x → j ∉ s0.seen → tmOf a j = some (a.eval x) → ∀ s, s = (⟨.vec l (.tip k) :: s0.args, (j, .vec l .ro) :: s0.ups, s0.gone, heldIn e x ++ s0.seen, j :: s0.taken⟩ : ArgsE) →
        ∃ g1, Turn d B g g1 w H ∧ EnvOK g1 w d (esets (kills s.gone env) s.ups) (tmOf a) ∧ ArgHeld g1 w d n0 a s.args (x :: r) ∧ ArgsInv env (esets (kills s.gone env) s.ups) s := by
      rintro j l k hj hmem hns htx s rfl
      have hEj : eget E j = some (.vec l (.tip k)) := by rw [hEt, hI.unseen j hns, hs j _ hj]; rfl
      obtain ⟨y, hy, t2, hE2, hr2, ht2⟩ := take_tipG hE t1.inv hEj (.slot (d + 1) n0)
      rw [htx] at hy; cases hy
      have hlast : ∀ t, eget (esets (kills s0.gone env) ((j, .vec l .ro) :: s0.ups)) t = eget (esets E [(j, .vec l .ro)]) t := by
        intro t
        rw [eget_esets_last, lastOf_cons, eget_kills, esets_one, eget_eset, hEt]
        by_cases e3 : j = t
        · subst e3; rw [hI.unseen j hns]; simp
        · rw [if_neg e3, if_neg e3, Option.or_none]
      refine ⟨_, t1.trans t2, hE2.ext hlast, .cons (v := .vec l (.tip k)) ⟨hr2, ht2⟩ ⟨by simp, by simp, by simp⟩ hheld.remap, ?_⟩
      refine ⟨fun t ht => ?_, fun t ht => ?_, fun i hi' => List.mem_cons_of_mem _ (hI.gone i hi'), fun i hi' => ?_, fun p hp => ?_⟩
      · simp only [List.mem_cons, not_or] at ht
        rw [hlast, esets_one, eget_eset, if_neg (Ne.symm ht.1)]
        exact hI.slot t ht.2
      · simp only [List.mem_append, not_or] at ht
        rw [lastOf_cons, hI.unseen t ht.2, Option.none_or, if_neg]
        rintro rfl
        exact ht.1 hmem
      · rcases List.mem_cons.1 hi' with rfl | hi'
        · exact List.mem_append_left _ hmem
        · exact List.mem_append_right _ (hI.taken i hi')
      · rcases List.mem_cons.1 hp with rfl | hp
        · exact ⟨rfl, by simp⟩
        · exact hI.ups p hp
    -- a slice of which nothing more can be appended to is handed on as it is
    have keep0 : ∀ (l : List AVal), rawv e x = some (.vec l (.tip 0)) → ∀ s, s = (⟨.vec l (.tip 0) :: s0.args, s0.ups, s0.gone, heldIn e x ++ s0.seen, s0.taken⟩ : ArgsE) →
        ∃ g1, Turn d B g g1 w H ∧ EnvOK g1 w d (esets (kills s.gone env) s.ups) (tmOf a) ∧ ArgHeld g1 w d n0 a s.args (x :: r) ∧ ArgsInv env (esets (kills s.gone env) s.ups) s := by
      rintro l hr s rfl
      have hrE : rawv E x = some (.vec l (.tip 0)) := by
        cases x with
        | tmp t =>
          have hr' : eget e t = some (.vec l (.tip 0)) := hr
          rcases hI.slot t (hm t (by simp only [heldIn]; split <;> simp)) with h1 | ⟨l', k', h1, h2⟩
          · rw [hs t _ hr'] at h1; exact h1
          · rw [hs t _ hr'] at h1; cases h1
        | _ => exact hr
      have hrel := rawv_rel hE hrE trivial (by simp) (by simp) (by simp)
      refine ⟨g1, t1, by simp only [hEd]; exact hE, .cons (hrel.hold (by simp) (by simp)) ⟨by simp, by simp, by simp⟩ hheld, ?_⟩
      simp only [hEd]
      exact ⟨hI.slot, fun t ht => hI.unseen t (by simp only [List.mem_append, not_or] at ht; exact ht.2), hI.gone, fun i hi' => List.mem_append_right _ (hI.taken i hi'), hI.ups⟩
    have value : ∀ t v, eget e t = some v → (∀ l k, v ≠ .vec l (.ex k)) ∨ t ∉ s0.seen → t ∉ s0.taken → x = .tmp t → tmOf a t = some (a.eval x) := by
      rintro t v ht hc hnt rfl
      have : ∃ u, eget E t = some u := by
        rcases hI.slot t hnt with h1 | ⟨l', k', h1, h2⟩
        · rw [hs t _ ht] at h1; exact ⟨_, h1⟩
        · exact ⟨_, h2⟩
      obtain ⟨u, hu⟩ := this
      exact (rawv_slot hE (show rawv E (.tmp t) = some u from hu)).1
    split at h
    · rename_i htk
      simp only [Bool.and_eq_true, Bool.not_eq_true'] at htk
      have hns : ∀ i ∈ heldIn e x, i ∉ s0.seen := anyN_false htk.2
      split at h
      · rename_i l hr
        cases h
        exact keep0 l hr _ rfl
      · rename_i j l k hr
        cases h
        have hr' : eget e j = some (.vec l (.ex k)) := hr
        have hmem : j ∈ heldIn e (.tmp j) := by simp only [heldIn]; split <;> simp
        exact takeEx j l k hr' hmem (hns j hmem) (value j _ hr' (.inr (hns j hmem)) (hm j hmem) rfl) _ rfl
      · rename_i j l k hne hr
        cases h
        have hr' : eget e j = some (.vec l (.tip k)) := hr
        have hmem : j ∈ heldIn e (.tmp j) := by simp only [heldIn]; split <;> simp
        exact takeTip j l k hr' hmem (hns j hmem) (value j _ hr' (.inr (hns j hmem)) (hm j hmem) rfl) _ rfl
      · rename_i x x2 ov i0 hr
        cases x with
        | tmp t =>
          have hrt : eget e t = some (.bor i0) := hr
          have hheldx : heldIn e (.tmp t) = [t, i0] := by simp [heldIn, hrt]
          have hmem : i0 ∈ heldIn e (.tmp t) := by rw [hheldx]; simp
          have htmem : t ∈ heldIn e (.tmp t) := by rw [hheldx]; simp
          have htx : tmOf a i0 = some (a.eval (.tmp t)) := by
            have h1 : eget E t = some (.bor i0) := by
              rcases hI.slot t (hm t htmem) with h1 | ⟨l', k', h1, h2⟩
              · rw [hs t _ hrt] at h1
                rw [h1]
                simp only [Option.map_some]
                rw [killv_notgone]
                intro r hr' hg
                simp [root1] at hr'; subst hr'
                exact hm _ hmem (hI.gone _ hg)
              · rw [hs t _ hrt] at h1; cases h1
            obtain ⟨_, l', o', _, h2⟩ := rawv_slot hE (show rawv E (.tmp t) = some (.bor i0) from h1)
            exact h2
          split at h
          · rename_i l k hl
            cases h
            exact takeEx i0 l k hl hmem (hns i0 hmem) htx _ rfl
          · rename_i l k hl
            cases h
            exact takeTip i0 l k hl hmem (hns i0 hmem) htx _ rfl
          · cases h; exact plain _ rfl
        | const c => exact absurd (@ofV_rel ⟨fun _ => none, fun _ => 0, fun _ => none⟩ default _ _ hr) (by intro k; cases k)
        | global gl => cases hr
        | func f => cases hr
      · cases h; exact plain _ rfl
    · cases h; exact plain _ rfl
end
end Go.Abs
end

section
/- A call, as the machine runs it. -/
namespace Go.Abs
open Go
set_option linter.unusedSimpArgs false
set_option linter.unusedVariables false
set_option linter.unusedSectionVars false

/-- a result on its way -/
def ResOK (g : G) (w : World) (d : Nat) (v : AVal) (x : Value) : Prop := SlotOK g w d [] (fun _ => none) 0 x v
/-- what was handed back, with a slice that was lent or without -/
def AnsOK (g : G) (w : World) (d : Nat) (v : AVal) (x : Value) : Option Value → Prop
  | none => ResOK g w d v x
  | some y => ResOK g w d (lentV v).1 y ∧ (isScal (lentV v).2 = true → RelV g w (lentV v).2 x)
theorem scal_any {r : AVal} (h : isScal r = true) {g g' : G} {w w' : World} {x : Value} (hr : RelV g w r x) : RelV g' w' r x := by
  cases hr <;> first | exact RelV.int _ _ | exact RelV.bool _ | exact RelV.str _ | cases h
theorem scal_slot {r : AVal} (h : isScal r = true) {g : G} {w : World} {x : Value} (hr : RelV g w r x) (d : Nat) (env : Env) (tm : Nat → Option Value) (t : Nat) : SlotOK g w d env tm t x r := by
  cases r <;> first | exact hr | cases h
theorem lentV_snd (v : AVal) : (lentV v).2 = deadV ∨ isScal (lentV v).2 = true := by
  unfold lentV
  split
  · split
    · rename_i h; exact .inr h
    · exact .inl rfl
  · exact .inl rfl
theorem lent_slot {v : AVal} {g g' : G} {w w' : World} {x : Value} (h : isScal (lentV v).2 = true → RelV g w (lentV v).2 x) (d : Nat) (env : Env) (tm : Nat → Option Value) (t : Nat) : SlotOK g' w' d env tm t x (lentV v).2 := by
  rcases lentV_snd v with e | e
  · rw [e]; exact dead_slot
  · exact scal_slot e (scal_any e (h e)) _ _ _ _
/-- what a call comes to -/
def CallR (B d : Nat) (g : G) (w : World) (H : Heap) (v : AVal) (H' : Heap) (wr : List Nat) (arg : Option Value := none) : Ending → World → Prop := fun e w' =>
  ∃ x g', e = .returned x ∧ Post (d + 1) B g w H g' w' H' wr nobody ∧ AnsOK g' w' (d + 1) v x arg
/-- the argument that is lent -/
def lentArg (lt : Fn → Bool) (fn : Fn) (xs : List Value) : Option Value := if lt fn then xs[0]? else none
def ArgsOK (g : G) (w : World) (d : Nat) (args : List AVal) (xs : List Value) : Prop :=
  args.length = xs.length ∧ ∀ (i : Nat) (v : AVal), args[i]? = some v → ∃ x, xs[i]? = some x ∧ SlotOK g w d [] (fun _ => none) i x v
def roundTmps (L : Loop) (xs : Array Value) : Array Value := (L.params.zip xs).foldl (fun tmps (t, a) => tmps.setIfInBounds t a) L.tmps
/-- WHAT IS ASKED OF WHATEVER ANSWERS CALLS. -/
def CallOK (P : Program) (w0 : World) (B : Nat) (lt : Fn → Bool) (call : CallF) : Prop :=
  ∀ fn args H v H' wr, call fn args H = some (v, H', wr) → ∀ g w d xs, Inv B g w H → HG H → Kept B w0 w → ArgsOK g w (d + 1) args xs →
    match fn with
    | .func f => (∃ fn, P.funcs[f]? = some fn ∧ fn.body.isNone = false ∧ (fn.name == "runtime.NumGoroutine") = false) ∧ CallsIn (FW none) 0 P f xs.toArray w (CallR B d g w H v H' wr (lentArg lt (.func f) xs))
    | .yield id => ∀ b, g.rho id = some b → ∃ L, w.heap[b]? = some (.loop L) ∧ xs.length = L.params.size ∧ RoundIn (FW none) 0 P b L.fn (roundTmps L xs.toArray) L.assign L.body w (CallR B d g w H v H' wr)
    | _ => False

section
variable {P : Program} {B d : Nat} {g : G} {w w0 : World} {H : Heap} {env e : Env} {a : Act} {tk : List Nat} {r : Option Nat} {K : Act → World → Prop} {Q : Exit → Act → World → Prop}

theorem hold_slotP {tm : Nat → Option Value} {i : Nat} {v : AVal} {x : Value} (h : HoldOK g w (.slot d i) v x) (hp : plainV v) : SlotOK g w d env tm i x v := by
  obtain ⟨h1, h2, h3⟩ := hp
  cases v with
  | tup vs => exact absurd rfl (h1 vs)
  | bor j => exact absurd rfl (h2 j)
  | sptr j p q => exact absurd rfl (h3 j p q)
  | _ => exact h
theorem rel_slot {tm : Nat → Option Value} {i : Nat} {v : AVal} {x : Value} (h : RelV g w (strip v) x) : SlotOK g w d env tm i x (strip v) := by
  cases v with
  | tup vs =>
    simp only [strip] at h ⊢
    cases h with
    | tup hl =>
      rename_i xs
      refine .inr ⟨xs.toArray, rfl, by simpa using hl.length.symm, fun j u hj => ?_⟩
      obtain ⟨y, hy, hr⟩ := hl.get hj
      refine ⟨y, by simpa using hy, .inr ?_⟩
      rw [List.getElem?_map] at hj
      obtain ⟨u0, _, rfl⟩ := Option.map_eq_some_iff.1 hj
      exact hr.hold strip1_flags.1 strip1_flags.2
  | bor j => cases (show RelV g w (.bor j) x from h)
  | sptr j p q => cases (show RelV g w (.sptr j p q) x from h)
  | _ => exact hold_slotP (RelV.hold h strip_flags.1 strip_flags.2) (strip_plain ⟨by simp, by simp, by simp⟩)

/-- a callee's holders become the caller's -/
def fromCallee (d t : Nat) : Holder → Holder := fun o => match o with
  | .slot d' i => if d' = d + 1 ∧ i = 0 then .slot d t else .slot d' i
  | .comp d' i j => if d' = d + 1 ∧ i = 0 then .comp d t j else .comp d' i j
  | .cell id off => .cell id off
theorem fromCallee_foreign {d t : Nat} : ∀ o, Foreign d (some o) → fromCallee d t o = o := by
  intro o ho
  rcases ho with h | ⟨d', i, hd, h | ⟨j, h⟩⟩
  · cases h
  · cases h; simp only [fromCallee]; rw [if_neg (by omega)]
  · cases h; simp only [fromCallee]; rw [if_neg (by omega)]
theorem res_slot {g' : G} {tm : Nat → Option Value} {t : Nat} {v : AVal} {x : Value} (h : ResOK g w (d + 1) v x) : SlotOK (g.remap (fromCallee d t)) w d env tm t x v := by
  unfold ResOK at h
  cases v with
  | tup vs =>
    rcases h with h | ⟨xs, e1, hz, hc⟩
    · exact .inl h
    · refine .inr ⟨xs, e1, hz, fun j u hj => ?_⟩
      obtain ⟨y, hy, hk⟩ := hc j u hj
      refine ⟨y, hy, hk.imp id fun hk => ?_⟩
      have := hk.remap (σ := fromCallee d t)
      simpa [fromCallee] using this
  | bor j => obtain ⟨l, o, h1, _⟩ := h; cases h1
  | sptr j p q => obtain ⟨l, o, _, _, _, _, _, h1, _⟩ := h; cases h1
  | _ =>
    have h0 := SlotOK.hold h (by simp) (by simp) (by simp)
    have h1 := h0.remap (σ := fromCallee d t)
    have e3 : fromCallee d t (.slot (d + 1) 0) = .slot d t := by simp [fromCallee]
    rw [e3] at h1
    exact hold_slotP h1 ⟨by simp, by simp, by simp⟩
theorem Post.up {g' : G} {w' : World} {H' : Heap} {wr : List Nat} {born : Nat → Prop} (h : Post (d + 1) B g w H g' w' H' wr born) : Post d B g w H g' w' H' wr born :=
  ⟨h.step.mono (Nat.le_succ d), h.inv, h.len, h.pend, h.kept⟩

/-- WHAT A CALL LEAVES. -/
theorem call_left {g1 g' : G} {w' : World} {H' : Heap} {wr : List Nat} {s : ArgsE} {v : AVal} {x : Value} {dst : Option Nat} (t1 : Turn d B g g1 w H) (hE : EnvOK g1 w d (esets (kills s.gone env) s.ups) (tmOf a)) (hp : Post (d + 1) B g1 w H g' w' H' wr nobody) (hv : ResOK g' w' (d + 1) v x) :
    Left d B env (tmOf a) g w H dst ⟨⟨s.ups, s.gone, v, none⟩, H', wr⟩ nobody (g'.remap (fromCallee d (dst.getD 0))) w' x := by
  refine ⟨?_, ?_, fun t ht => ?_, fun id off h => by cases h⟩
  · have q := (t1.post.trans hp.up).trans (turn_remap (d := d) (σ := fromCallee d (dst.getD 0)) hp.inv (fun id off => rfl) fromCallee_foreign).post
    exact q.mono (by simp) (by simp [nobody])
  · refine (EnvOK.step t1.inv hp.step hE).remap (fun i u _ => .inl ?_) fun i us _ j u _ => .inl ?_
    · simp only [fromCallee]; rw [if_neg (by omega)]
    · simp only [fromCallee]; rw [if_neg (by omega)]
  · have e3 : dst.getD 0 = t := by rw [ht]; rfl
    rw [e3]
    exact res_slot (g' := g') hv

theorem slot_eval {x0 : Operand} {j : Nat} (he : EnvOK g w d env (tmOf a)) (hs : Sub e env) (h : slotAt e x0 = some j) : tmOf a j = some (a.eval x0) := by
  unfold slotAt at h
  split at h
  case h_2 => cases h
  rename_i t
  split at h
  · rename_i i hi
    cases h
    obtain ⟨_, l, o, _, h2⟩ := rawv_slot he (show rawv env (.tmp t) = some (.bor j) from hs t _ hi)
    exact h2
  · rename_i l o hv
    cases h
    exact (rawv_slot he (show rawv env (.tmp j) = some (.vec l o) from hs j _ hv)).1
  · cases h
/-- WHAT A CALL LEAVES to which a slice was lent. -/
theorem lend_left {g1 g' : G} {w' : World} {H' : Heap} {wr : List Nat} {s : ArgsE} {v : AVal} {x x0 : Value} {dst : Option Nat} {j : Nat} (t1 : Turn d B g g1 w H) (hE : EnvOK g1 w d (esets (kills s.gone env) s.ups) (tmOf a)) (hA : ArgsInv env (esets (kills s.gone env) s.ups) s)
    (hp : Post (d + 1) B g1 w H g' w' H' wr nobody) (hx : tmOf a j = some x0) (hj : j ∈ s.gone) (hv : ResOK g' w' (d + 1) v x0) {u : AVal} (hu : ∀ g w d env tm t, SlotOK g w d env tm t x u) :
    Left d B env (tmOf a) g w H dst ⟨⟨s.ups ++ [(j, v)], s.gone, u, none⟩, H', wr⟩ nobody (g'.remap (fromCallee d j)) w' x := by
  refine ⟨?_, ?_, fun t ht => hu _ _ _ _ _ _, fun id off h => by cases h⟩
  · have q := (t1.post.trans hp.up).trans (turn_remap (d := d) (σ := fromCallee d j) hp.inv (fun id off => rfl) fromCallee_foreign).post
    exact q.mono (by simp) (by simp [nobody])
  · have h1 : EnvOK (g'.remap (fromCallee d j)) w' d (esets (kills s.gone env) s.ups) (tmOf a) := by
      refine (EnvOK.step t1.inv hp.step hE).remap (fun i u _ => .inl ?_) fun i us _ j' u _ => .inl ?_
      · simp only [fromCallee]; rw [if_neg (by omega)]
      · simp only [fromCallee]; rw [if_neg (by omega)]
    have hno : NoBor (esets (kills s.gone env) s.ups) j := by
      intro t u hu
      rw [env_args] at hu
      cases hl : lastOf s.ups t with
      | some u0 =>
        rw [hl, Option.some_or] at hu
        cases hu
        have := (hA.ups _ (lastOf_some hl)).1
        exact ⟨fun e => (by subst e; cases this), fun p q e => (by subst e; cases this)⟩
      | none =>
        rw [hl, Option.none_or] at hu
        exact NoBor.killed (env := env) (env' := kills s.gone env) hj (eget_kills s.gone env) t u (by rw [eget_kills]; exact hu)
    have htm : tset (tmOf a) j x0 = tmOf a := by
      funext i
      unfold tset
      split
      · rename_i e3; subst e3; exact hx.symm
      · rfl
    show EnvOK _ _ _ (esets (kills s.gone env) (s.ups ++ [(j, v)])) _
    rw [esets_append, esets_one, ← htm]
    exact EnvOK.put h1 hno (res_slot (g := g') (g' := g') hv)

theorem callFunc_run {f : FuncId} {fn : Func} (hf : P.funcs[f]? = some fn) (hb : fn.body.isNone = false) (hn : (fn.name == "runtime.NumGoroutine") = false) (args : Array Value) (w : World) : (callFunc f args).run P w = .ok (.enter f args) w := by
  have hn' : ¬ fn.name = "runtime.NumGoroutine" := by simpa using hn
  have hb' : fn.body ≠ none := by intro e; rw [e] at hb; cases hb
  unfold callFunc
  simp [Sem.run_bind, Sem.run, hf, hb', hn']

variable (hi : Inv B g w H) (he : EnvOK g w d env (tmOf a)) (hs : Sub e env)
include hi he hs
theorem callOp_wp {X : Ctx} (hX : X.P = P) (hcall : CallOK P w0 B (lentF X.takes) X.call) (hg : HG H) (hk : Kept B w0 w) {o : Oper} {c : Call} {f : Operand} {oc : OutC} (ho : o.op = .call c) (hb : c.callee = .value f) (h : callOpE X e H c f = some oc)
    (hK : ∀ g' w' x, Left d B env (tmOf a) g w H o.dst oc nobody g' w' x → K (a.put o.dst x) w') : o.wpIn (FW r) 0 P a w K Q := by
  unfold callOpE at h
  split at h
  · rename_i oc' hx
    cases h
    rw [hX] at hx
    obtain ⟨g', w', x, h1, h2⟩ := extern_ok (P := P) hi he hs ho hb hx
    exact wp_of_run (fun c' hc' => by rw [ho] at hc'; cases hc') h1 (hK g' w' x h2)
  refine ⟨fun _ _ => trivial, ?_⟩
  rw [Oper.semAt_eq _ _ _ (by rw [ho]; simp)]
  split at h
  case h_2 => cases h
  rename_i fn first captured hf
  split at h
  case h_2 => cases h
  rename_i s hs0
  split at h
  case h_2 => cases h
  rename_i v H' wr hc
  obtain ⟨g1, t1, hE, hheld, hArgs⟩ := args_ok hs hi he c.args.toList 0 first.length s hs0
  have hfr := ev_rel he (ev_sub hs hf) (by simp)
  -- what the call is handed
  have argsOK : ∀ xs ys, RelL g w first xs → RelL g w captured ys → ArgsOK g1 w (d + 1) (first.map strip ++ s.args ++ captured.map strip) (xs ++ c.args.toList.map a.eval ++ ys) := by
    intro xs ys h1 h2
    have l1 := h1.length
    have l2 := h2.length
    have l3 := hheld.1
    refine ⟨by simp only [List.length_append, List.length_map]; omega, fun i u hu => ?_⟩
    rcases Nat.lt_or_ge i first.length with c1 | c1
    · rw [List.append_assoc, List.getElem?_append_left (by simpa using c1), List.getElem?_map] at hu
      obtain ⟨u0, hu0, rfl⟩ := Option.map_eq_some_iff.1 hu
      obtain ⟨y, hy, hr⟩ := h1.get hu0
      refine ⟨y, ?_, rel_slot ((hr.le t1.step.le).strip)⟩
      rw [List.append_assoc, List.getElem?_append_left (by omega)]
      exact hy
    · rcases Nat.lt_or_ge i (first.length + s.args.length) with c2 | c2
      · rw [List.getElem?_append_left (by simp; omega), List.getElem?_append_right (by simpa using c1), List.length_map] at hu
        have hlt : i - first.length < c.args.toList.length := by omega
        obtain ⟨k1, k2⟩ := hheld.2 (i - first.length) u _ hu (List.getElem?_eq_getElem hlt)
        rw [show first.length + (i - first.length) = i by omega] at k1
        refine ⟨a.eval (c.args.toList[i - first.length]), ?_, hold_slotP k1 k2⟩
        rw [List.getElem?_append_left (by simp only [List.length_append, List.length_map]; omega), List.getElem?_append_right (by omega), List.getElem?_map, ← l1, List.getElem?_eq_getElem hlt]
        rfl
      · rw [List.getElem?_append_right (by simp; omega), List.getElem?_map] at hu
        obtain ⟨u0, hu0, rfl⟩ := Option.map_eq_some_iff.1 hu
        obtain ⟨y, hy, hr⟩ := h2.get hu0
        refine ⟨y, ?_, rel_slot ((hr.le t1.step.le).strip)⟩
        rw [List.getElem?_append_right (by simp only [List.length_append, List.length_map]; omega)]
        rw [← hy]
        congr 1
        simp only [List.length_append, List.length_map]
        omega
  have plain : ∀ e' w', oc = ⟨⟨s.ups, s.gone, v, none⟩, H', wr⟩ → CallR B d g1 w H v H' wr none e' w' → ∃ x, e' = .returned x ∧ K (a.put o.dst x) w' := by
    rintro e' w' rfl ⟨x, g', rfl, hp, hv⟩
    exact ⟨x, rfl, hK _ _ x (call_left t1 hE hp hv)⟩
  have fin : ∀ e' w' xs ys, RelL g w first xs → CallR B d g1 w H v H' wr (lentArg (lentF X.takes) fn (xs ++ c.args.toList.map a.eval ++ ys)) e' w' → ∃ x, e' = .returned x ∧ K (a.put o.dst x) w' := by
    intro e' w' xs ys hxs hR
    unfold handE at h
    split at h
    · rename_i hl
      rw [lentArg, hl] at hR
      exact plain e' w' (Option.some.inj h).symm hR
    · rename_i hl
      rw [lentArg, hl] at hR
      simp only [if_true] at hR
      obtain ⟨x, g', rfl, hp, hv⟩ := hR
      split at h
      · cases h
        refine ⟨x, rfl, hK _ _ x (call_left t1 hE hp ?_)⟩
        split
        · rename_i hc5
          simp only [Bool.and_eq_true, Bool.not_eq_true'] at hc5
          have hf0 : first = [] := by simpa using hc5.1
          subst hf0
          cases hxs
          have hc6 := hc5.2
          cases hal : c.args.toList with
          | nil => rw [hal] at hc6; cases hc6
          | cons x0 r0 =>
            rw [hal] at hv
            exact lent_slot hv.2 _ _ _ _
        · exact dead_slot
      · rename_i j htk
        split at h
        case isFalse => cases h
        rename_i hc4
        cases h
        simp only [Bool.and_eq_true] at hc4
        obtain ⟨⟨⟨c1, c2⟩, c3⟩, c4⟩ := hc4
        have hf0 : first = [] := by simpa using c1
        subst hf0
        cases hxs
        unfold argAt at c2
        split at c2
        case h_2 => cases c2
        rename_i x0 r0 harg
        have hj0 : slotAt e x0 = some j := by simpa using c2
        have heval : tmOf a j = some (a.eval x0) := slot_eval he hs hj0
        rw [harg] at hv
        exact ⟨x, rfl, hK _ _ x (lend_left t1 hE hArgs hp (j := j) (x0 := a.eval x0) heval (hasN_iff.1 c3) hv.1 fun _ _ _ _ _ _ => lent_slot hv.2 _ _ _ _)⟩
      · cases h
  generalize hz : a.eval f = z at hfr
  cases hfr with
  | func hy h1 h2 =>
    rename_i xs ys
    have hok := hcall _ _ _ _ _ _ hc g1 w d _ t1.inv hg hk (argsOK xs ys h1 h2)
    cases fn with
    | func fid =>
      obtain ⟨⟨fn, hfn, hbody, hname⟩, hci⟩ := hok
      have run : (execOp a.eval o).run P w = .ok (.enter fid (xs ++ c.args.toList.map a.eval ++ ys).toArray) w := by
        simp only [execOp, ho, resolve, hb, hz, Deferred.ofValue, Sem.run_bind, Sem.run_pure, Result.andThen_ok, invoke]
        rw [callFunc_run hfn hbody hname]
        congr 2
        apply Array.ext'
        simp
      rw [run]
      refine ⟨fun h => by simp [FW] at h, ?_⟩
      refine CallsIn.mono (show CallsIn (FW r) 0 P fid _ w _ from hci) fun e' w' hR => ?_
      obtain ⟨x, rfl, hx⟩ := fin e' w' xs ys h1 hR
      exact hx
    | yield l => exact absurd rfl (hy l)
    | _ => exact hok.elim
  | yieldF hr =>
    rename_i id b
    have hok := hcall _ _ _ _ _ _ hc g1 w d _ t1.inv hg hk (argsOK [] [] .nil .nil)
    obtain ⟨L, hL, hsz, hround⟩ := hok b (by rw [t1.rho]; exact hr)
    simp only [List.nil_append, List.append_nil] at hsz hround
    have hargs : (c.args.map a.eval).toList = c.args.toList.map a.eval := by simp
    have hargs2 : c.args.map a.eval = (c.args.toList.map a.eval).toArray := by apply Array.ext'; simp
    have run : (execOp a.eval o).run P w = .ok (.round b L.fn (roundTmps L (c.args.toList.map a.eval).toArray) L.assign L.body) w := by
      simp only [execOp, ho, resolve, hb, hz, Deferred.ofValue, Sem.run_bind, Sem.run_pure, Result.andThen_ok, invoke]
      rw [show (#[] : Array Value) ++ c.args.map a.eval = (c.args.toList.map a.eval).toArray by rw [hargs2]; simp]
      rw [run_yield hL (by simpa using hsz)]
      rfl
    rw [run]
    refine ⟨fun h => by simp [FW] at h, ?_⟩
    refine RoundIn.mono (show RoundIn (FW r) 0 P b _ _ _ _ w _ from hround) fun e' w' hR => ?_
    obtain ⟨x, rfl, hx⟩ := plain e' w' (Option.some.inj (show handE e c [] false s v H' wr = some oc from h)).symm hR
    exact hx
end
end Go.Abs
end

section
/- The operations of a region, one after the other, as the machine runs them. -/
namespace Go.Abs
open Go
set_option linter.unusedSimpArgs false
set_option linter.unusedVariables false
set_option linter.unusedSectionVars false

section
variable {P : Program} {w0 ws w : World} {B d nt : Nat} {pn : Option Value} {gs g : G} {Hs : Heap} {st : St} {a : Act} {X : Ctx} {pre : List (Nat × Nat)} {ops : List Oper} {r : Option Nat} {Q : Exit → Act → World → Prop}

theorem Sit.eqv {s s' : St} (h : Sit w0 B d nt pn gs ws Hs g w s a) (e : Eqv s s') : Sit w0 B d nt pn gs ws Hs g w s' a := by
  refine ⟨by rw [← e.heap]; exact h.inv, h.env.ext fun i => (e.env i).symm, ⟨fun j id off hj => h.facts.cell j id off (by rw [e.facts]; exact hj), fun j hj => h.facts.un j (by rw [e.facts]; exact hj)⟩, h.size, by rw [← e.heap]; exact h.hg, h.kept, ?_, by rw [← e.heap]; exact h.loops, h.defs, h.pin⟩
  rw [← e.heap]
  exact h.hist.mono (fun i hi => (e.wr i).1 hi) fun _ h => h
theorem applyE_punch {p : Option (Nat × Nat)} {st : St} {dst : Option Nat} {c : OutC} (h : ∀ j i, p = some (j, i) → dst ≠ some j) : applyE p st dst c = applyE none { st with env := punchE st.env p } dst c := by
  have : goneOf st.env dst c.out.gone = goneOf (punchE st.env p) dst c.out.gone := by
    refine goneOf_same fun d hd => ?_
    rw [eget_punch]
    cases eget st.env d <;> rfl
  simp only [applyE, punchE, this]
theorem plan_fr {o : Oper} (hc : CallFr X.call) {p : Option (Nat × Nat)} {rd : List Nat} {c : OutC} {un : Bool} {lim : Option Nat} (hp : PlanE X pre ops o st p rd c un lim) : Fr True st.heap [] c.heap c.wr := by
  by_cases hk : kindE ops o = .C
  · rcases hp.body with ⟨rfl, _, hpl, _, _⟩ | ⟨_, _, _, _, hcc, _⟩
    · rw [hk] at hpl
      simp only [planE] at hpl
      split at hpl
      · rename_i c' hc'
        cases hpl
        have := opC_fr hc hc'
        exact this
      · cases hpl
    · rw [hcc]; exact .refl _ _ _
  · obtain ⟨h1, h2⟩ := hp.facts.heap hk
    rw [h1, h2]; exact .refl _ _ _

theorem Pend.tail {i : Nat} {σ : List Nat} {H H' : Heap} {g' : G} {w' : World} {wr : List Nat} {born : Nat → Prop} (h : Pend P Hs.length ops pre g H (i :: σ)) (hn : i ∉ σ) (hp : Post d B g w H g' w' H' wr born)
    (hb : ∀ id, born id → ∃ o t d', ops[i]? = some o ∧ o.op = .alloc t ∧ o.dst = some d' ∧ lookupN pre d' = some id) : Pend P Hs.length ops pre g' H' σ := by
  intro j hj o t d' ho hop hd
  obtain ⟨id, z, h1, h2, h3, h4, h5, h6, h7⟩ := h j (List.mem_cons_of_mem _ hj) o t d' ho hop hd
  obtain ⟨k1, k2⟩ := hp.pend id (hget_lt h6) h5 fun e => by
    obtain ⟨o', t', d2, ho', hop', hd', hl⟩ := hb id e
    have := h7 i (by simp) o' t' d2 ho' hop' hd' hl
    subst this
    exact hn hj
  exact ⟨id, z, h1, h2, h3, h4, k1, k2.trans h6, fun j' hj' => h7 j' (List.mem_cons_of_mem _ hj')⟩

/-- OPERATIONS IN WHATEVER ORDER, as the machine runs them. -/
theorem runT_wp (hX : X.P = P) (hcall : CallOK P w0 B (lentF X.takes) X.call) (hfr : CallFr X.call) {os : Array Oper} (hops : os.toList = ops) (hnt : ∀ o ∈ ops, ∀ d, o.dst = some d → OkDst nt pn d) {D : List Deferred} : ∀ (ts : List (Nat × STr)) (st st' : St) (g : G) (w : World) (a : Act),
    RunT X pre ops ts st st' → Sit w0 B d nt pn gs ws Hs g w st a → Pend P Hs.length ops pre g st.heap (ts.map (·.1)) → (ts.map (·.1)).Nodup → a.defers = D →
    (∀ g' w' a', Sit w0 B d nt pn gs ws Hs g' w' st' a' → a'.defers = D → Q .normal a' w') → wpOpsIn (FW r) 0 P os Q (ts.map (·.1)) a w := by
  intro ts
  induction ts with
  | nil =>
    intro st st' g w a hrun hsit _ _ hD hQ
    exact hQ g w a (hsit.eqv hrun) hD
  | cons q ts ih =>
    obtain ⟨i, t⟩ := q
    intro st st' g w a hrun hsit hpend hnd hD hQ
    obtain ⟨o, s1, ho, ⟨p, rd, c, un, lim, hp, heq, rfl⟩, hrest⟩ := hrun
    simp only [List.map_cons, List.nodup_cons] at hnd
    have ho' : os[i]? = some o := by rw [← Array.getElem?_toList, hops]; exact ho
    have hdst : ∀ d, o.dst = some d → OkDst nt pn d := hnt o (List.mem_of_getElem? ho)
    have hgood := (plan_fr hfr hp).good trivial hsit.hg
    have pfr := plan_fr hfr hp
    simp only [List.map_cons, wpOpsIn, ho']
    rcases hp.body with ⟨rfl, hw, hpl, hok, rfl⟩ | ⟨rfl, hw, rfl, rfl, rfl, rfl⟩
    · rw [if_pos (wanted_run hsit.env hsit.facts hops hw)]
      have hsub := sub_viewOf st.env (reqE ops o st)
      have hsubf := sub_viewOf st.facts (slotsOf ops o)
      -- the rest
      have fin : ∀ (st2 : St) (g2 : G) (g' : G) (w' : World) (x : Value) (born : Nat → Prop), endOp p false o st c = applyE none st2 o.dst c → Sit w0 B d nt pn gs ws Hs g w st2 a → st2.heap = st.heap → Left d B st2.env (tmOf a) g w st.heap o.dst c born g' w' x →
          (∀ id, born id → ∃ o' t' d', ops[i]? = some o' ∧ o'.op = .alloc t' ∧ o'.dst = some d' ∧ lookupN pre d' = some id) → wpOpsIn (FW r) 0 P os Q (ts.map (·.1)) (a.put o.dst x) w' := by
        intro st2 g2 g' w' x born he2 hsit2 hh2 hl hborn
        have hb : ∀ id, born id → Hs.length ≤ id := fun id hid => by
          obtain ⟨o', t', d', h1, h2, h3, h4⟩ := hborn id hid
          obtain ⟨id', z, k1, k2, _⟩ := hpend i (by simp) o' t' d' h1 h2 h3
          rw [h4] at k1; cases k1; exact k2
        have hl2 : Left d B st2.env (tmOf a) g w st2.heap o.dst c born g' w' x := by rw [hh2]; exact hl
        have hs2 := hsit2.left hl2 hok hdst hb hgood (by rw [hh2]; exact pfr.loop)
        rw [← he2] at hs2
        have hs3 := hs2.eqv heq
        refine ih s1 st' g' w' _ hrest hs3 ?_ hnd.2 (by rw [put_defers]; exact hD) hQ
        have := Pend.tail hpend hnd.1 hl.post hborn
        rw [← heq.heap, end_heap]
        exact this
      have fin0 : ∀ (g' : G) (w' : World) (x : Value) (born : Nat → Prop), p = none → Left d B st.env (tmOf a) g w st.heap o.dst c born g' w' x →
          (∀ id, born id → ∃ o' t' d', ops[i]? = some o' ∧ o'.op = .alloc t' ∧ o'.dst = some d' ∧ lookupN pre d' = some id) → wpOpsIn (FW r) 0 P os Q (ts.map (·.1)) (a.put o.dst x) w' := by
        intro g' w' x born hpn hl hb
        subst hpn
        exact fin st g g' w' x born rfl hsit rfl hl hb
      cases hk : kindE ops o with
      | N =>
        rw [hk] at hpl
        simp only [planE] at hpl
        split at hpl
        case h_2 => cases hpl
        rename_i out hout
        cases hpl
        obtain ⟨g', w', x, h1, h2⟩ := (opN_ok (P := P) hsit.inv hsit.env hsub hX hout fun t d' hop hd => by
          obtain ⟨id, z, k1, k2, k3, k4, k5, k6, _⟩ := hpend i (by simp) o t d' ho hop hd
          exact ⟨id, z, k1, k3, k4, k5, k6⟩).noFact
        refine wp_of_run (fun c hc => by simp [opN, hc] at hout) h1 (fin0 g' w' x _ rfl h2 fun id hid => ?_)
        obtain ⟨t, d', h3, h4, h5⟩ := hid
        exact ⟨o, t, d', ho, h3, h4, h5⟩
      | L =>
        rw [hk] at hpl
        simp only [planE] at hpl
        split at hpl
        case h_2 => cases hpl
        rename_i out hout
        cases hpl
        have hout' : opL P (viewOf st.env (reqE ops o st)) ((aimE (viewOf st.env (reqE ops o st)) o).bind (hget st.heap)) o = some out := by rw [← hX]; exact hout
        obtain ⟨g', w', x, h1, h2⟩ := (opL_ok (P := P) hsit.inv hsit.env hsub hout').factOf (id := aimE (viewOf st.env (reqE ops o st)) o)
        exact wp_of_run (fun c hc => by simp [opL, hc] at hout) h1 (fin0 g' w' x _ rfl h2 fun id hid => hid.elim)
      | C =>
        rw [hk] at hpl
        simp only [planE] at hpl
        split at hpl
        case h_2 => cases hpl
        rename_i oc hoc
        cases hpl
        by_cases hcl : ∃ q f, o.op = .call q ∧ q.callee = .value f
        · obtain ⟨q, f, hop, hcq⟩ := hcl
          have hoc' : callOpE X (viewOf st.env (reqE ops o st)) st.heap q f = some oc := by
            unfold opC at hoc
            rw [hop] at hoc
            simp only [hcq] at hoc
            exact hoc
          refine callOp_wp hsit.inv hsit.env hsub hX hcall hsit.hg hsit.kept hop hcq hoc' fun g' w' x hl => fin0 g' w' x nobody rfl ⟨hl.post, hl.slots, hl.val, fun id off e => by simp [noFact] at e⟩ fun id hid => hid.elim
        · obtain ⟨g', w', x, h1, h2⟩ := opC_ok (P := P) hsit.inv hsit.env hsub hX hsit.facts hsubf hoc fun q f hop hcq => hcl ⟨q, f, hop, hcq⟩
          exact wp_of_run (fun c hc => by simp [opC, hc] at hoc) h1 (fin0 g' w' x _ rfl ⟨h2.post, h2.slots, h2.val, fun id off e => by simp [noFact] at e⟩ fun id hid => hid.elim)
      | X =>
        obtain ⟨_, _, _, hpx⟩ := plan_shape hpl
        rw [hk] at hpl
        simp only [planE] at hpl
        split at hpl
        case h_2 => cases hpl
        rename_i j k hop
        split at hpl
        · cases hpl
        rename_i hvv
        split at hpl
        case h_2 => cases hpl
        rename_i vs hvs
        split at hpl
        case h_2 => cases hpl
        rename_i v hv
        split at hpl
        · cases hpl
        rename_i htn
        cases hpl
        have hj : eget st.env j = some (.tup vs) := hsub _ _ hvs
        obtain ⟨_, _, _, hd, _⟩ := hpx j k rfl
        obtain ⟨g', x, h1, h2, h3⟩ := extract_ok (P := P) hsit.inv hsit.env hop hd hj hv (by simpa using htn)
        refine wp_of_run (fun c hc => by rw [hop] at hc; cases hc) (.inl h1) ?_
        refine fin { st with env := punchE st.env (some (j, k)) } g g' w x nobody ?_ ⟨hsit.inv, h3, hsit.facts, hsit.size, hsit.hg, hsit.kept, hsit.hist, hsit.loops, hsit.defs, hsit.pin⟩ rfl h2 fun id hid => hid.elim
        simp only [endOp, Bool.false_eq_true, if_false]
        exact applyE_punch fun j' i' e => by cases e; exact hd
    · rw [if_neg (by rw [wanted_run hsit.env hsit.facts hops hw]; simp)]
      refine ⟨fun _ _ => trivial, ?_⟩
      have hs2 := hsit.pass (dst := o.dst) hdst
      have hs3 : Sit w0 B d nt pn gs ws Hs g w s1 (a.put o.dst undef) := Sit.eqv hs2 heq
      refine ih s1 st' g w _ hrest hs3 ?_ hnd.2 (by rw [put_defers]; exact hD) hQ
      have := Pend.tail (w' := w) hpend hnd.1 (.refl (d := d) hsit.inv) fun id hid => hid.elim
      rw [← heq.heap]
      exact this
end
end Go.Abs
end

section
/- A region, as the machine runs it. -/
namespace Go.Abs
open Go
set_option linter.unusedSimpArgs false
set_option linter.unusedVariables false
set_option linter.unusedSectionVars false

/-! ### A draw -/
section
variable {B d : Nat} {g : G} {w w' : World} {H : Heap} {b : Nat}
theorem SameW.chg (h : SameW w w') (b : Nat) (g : G) : Chg b g w g w' :=
  ⟨⟨fun _ _ h => h, fun _ => Nat.le_refl _, fun b' i _ => cell_old (by rw [h.heap])⟩, fun b' _ _ => ⟨by rw [h.heap], rfl, rfl⟩, by rw [h.heap]; exact Nat.le_refl _, h.os, h.tape, h.output, fun _ _ h => .inl h⟩
theorem Inv.same (hi : Inv B g w H) (h : SameW w w') : Inv B g w' H where
  rho id b hr := by have := hi.rho id b hr; rw [h.heap]; exact this
  inj := hi.inj
  ext b hb := by rw [h.heap]; exact hi.ext b hb
  ow b o ho := by rw [h.heap]; exact hi.ow b o ho
  obj id o b hg hr := (hi.obj id o b hg hr).chg hi (h.chg w.heap.size g) (by rw [h.heap]) fun off e => by rw [hi.ow_new] at e; cases e
  base := by rw [h.heap]; exact hi.base
theorem Inv.samePost (hi : Inv B g w H) (h : SameW w w') : Post d B g w H g w' H [] nobody :=
  ⟨(h.chg w.heap.size g).step (.inl (Nat.le_refl _)), hi.same h, Nat.le_refl _, fun _ _ hr _ => ⟨hr, rfl⟩, fun id b hr _ => by rw [h.heap]⟩
theorem EnvOK.same {env : Env} {tm : Nat → Option Value} (he : EnvOK g w d env tm) (hi : Inv B g w H) (h : SameW w w') : EnvOK g w' d env tm :=
  he.chg hi (h.chg w.heap.size g) (fun i e => by rw [hi.ow_new] at e; cases e) fun i j e => by rw [hi.ow_new] at e; cases e
end

section
variable {P : Program} {w0 ws w : World} {B d nt : Nat} {pn : Option Value} {gs g : G} {Hs : Heap} {st : St} {a : Act} {X : Ctx} {pre : List (Nat × Nat)} {ops : List Oper} {r : Option Nat} {Q : Exit → Act → World → Prop}
theorem Sit.same {w' : World} (h : Sit w0 B d nt pn gs ws Hs g w st a) (k : SameW w w') : Sit w0 B d nt pn gs ws Hs g w' st a := by
  have hp := h.inv.samePost (d := d) k
  refine ⟨hp.inv, h.env.same h.inv k, ⟨fun j id off hj => ?_, h.facts.un⟩, h.size, h.hg, h.kept.post h.inv hp, (h.hist.then hp fun _ e => e.elim).mono (by simp) fun _ h => h, h.loops, h.defs.step hp.step, h.pin⟩
  obtain ⟨b, c, e, fr, x, h1, h2, h3, h4⟩ := h.facts.cell j id off hj
  exact ⟨b, c, e, fr, x, h1, by rw [k.heap]; exact h2, h3, h4⟩

/-! ### The variables of a region -/
theorem pre_spec (P : Program) : ∀ (os : List Oper) (H : Heap) (pre : List (Nat × Nat)) (H' : Heap), preE P os H = some (pre, H') →
    H.length ≤ H'.length ∧ (∀ id, id < H.length → hget H' id = hget H id) ∧ (∀ d id, lookupN pre d = some id → H.length ≤ id ∧ id < H'.length) ∧ (∀ d d' id, lookupN pre d = some id → lookupN pre d' = some id → d = d') ∧
    (∀ (i : Nat) (o : Oper) (t : TypeId) (d : Nat), os[i]? = some o → o.op = .alloc t → o.dst = some d → ∃ id z, lookupN pre d = some id ∧ zeroOf P t = some z ∧ (∀ vs, z ≠ .tup vs) ∧ hget H' id = some (.box (z.cells.map ro1))) ∧
    (∀ (i j : Nat) (o o' : Oper) (t t' : TypeId) (d : Nat), os[i]? = some o → os[j]? = some o' → o.op = .alloc t → o'.op = .alloc t' → o.dst = some d → o'.dst = some d → i = j) ∧
    (∀ d, (lookupN pre d).isSome = false → ∀ (i : Nat) (o : Oper) (t : TypeId), os[i]? = some o → o.op = .alloc t → o.dst ≠ some d)
  | [], H, pre, H', h => by
    simp only [preE] at h
    cases h
    refine ⟨Nat.le_refl _, fun _ _ => rfl, fun d id h => (by cases h), fun d d' id h => (by cases h), fun i o t d h => (by simp at h), fun i j o o' t t' d h => (by simp at h), fun d _ i o t h => (by simp at h)⟩
  | o :: os, H, pre, H', h => by
    unfold preE at h
    split at h
    · rename_i t d hop hd
      split at h
      case h_2 => cases h
      rename_i z pre1 H1 hz hpre
      split at h
      · cases h
      rename_i hc
      cases h
      simp only [Bool.or_eq_true, not_or, Bool.not_eq_true] at hc
      obtain ⟨i1, i2, i3, i4, i5, i6, i7⟩ := pre_spec P os H _ _ hpre
      have hzt : ∀ vs, z ≠ .tup vs := fun vs e => by rw [e] at hc; simp [isTup] at hc
      have hnew : ∀ d' id, lookupN pre1 d' = some id → d' ≠ d := fun d' id h e => by subst e; rw [h] at hc; simp at hc
      refine ⟨by simp; omega, fun id hid => by rw [hget_cons, if_neg (by omega)]; exact i2 id hid, fun d' id hl => ?_, fun d1 d2 id h1 h2 => ?_, fun i o' t' d' ho ht hdd => ?_, fun i j o1 o2 t1 t2 d' h1 h2 h3 h4 h5 h6 => ?_, fun d' hn i o' t' ho ht hdd => ?_⟩
      · simp only [lookupN] at hl
        split at hl
        · cases hl; exact ⟨i1, by simp⟩
        · have := i3 d' id hl; exact ⟨this.1, by simp; omega⟩
      · simp only [lookupN] at h1 h2
        split at h1 <;> split at h2
        · simp_all
        · cases h1
          have := (i3 d2 _ h2).2; omega
        · cases h2
          have := (i3 d1 _ h1).2; omega
        · exact i4 d1 d2 id h1 h2
      · cases i with
        | zero =>
          simp at ho; subst ho
          rw [hd] at hdd; cases hdd
          rw [hop] at ht; cases ht
          exact ⟨H1.length, z, by simp [lookupN], hz, hzt, by rw [hget_cons, if_pos rfl]⟩
        | succ i =>
          obtain ⟨id, z', k1, k2, k3, k4⟩ := i5 i o' t' d' (by simpa using ho) ht hdd
          refine ⟨id, z', ?_, k2, k3, ?_⟩
          · simp only [lookupN]
            rw [if_neg (Ne.symm (hnew d' id k1))]
            exact k1
          · rw [hget_cons, if_neg (by have := (i3 d' id k1).2; omega)]
            exact k4
      · have clash : ∀ (k : Nat) (o' : Oper) (t' : TypeId), os[k]? = some o' → o'.op = .alloc t' → o'.dst ≠ some d := i7 d hc.2
        cases i with
        | zero =>
          simp at h1; subst h1
          rw [hd] at h5; cases h5
          cases j with
          | zero => rfl
          | succ j => exact absurd h6 (clash j o2 t2 (by simpa using h2) h4)
        | succ i =>
          cases j with
          | zero =>
            simp at h2; subst h2
            rw [hd] at h6; cases h6
            exact absurd h5 (clash i o1 t1 (by simpa using h1) h3)
          | succ j => rw [i6 i j o1 o2 t1 t2 d' (by simpa using h1) (by simpa using h2) h3 h4 h5 h6]
      · simp only [lookupN] at hn
        split at hn
        · cases hn
        · rename_i hne
          cases i with
          | zero => simp at ho; subst ho; rw [hd] at hdd; cases hdd; exact hne rfl
          | succ i => exact i7 d' hn i o' t' (by simpa using ho) ht hdd
    · rename_i hno
      obtain ⟨i1, i2, i3, i4, i5, i6, i7⟩ := pre_spec P os H _ _ h
      have hn0 : ∀ t d, o.op = .alloc t → o.dst = some d → False := fun t d h1 h2 => hno t d h1 h2
      refine ⟨i1, i2, i3, i4, fun i o' t' d' ho ht hdd => ?_, fun i j o1 o2 t1 t2 d' h1 h2 h3 h4 h5 h6 => ?_, fun d' hn i o' t' ho ht hdd => ?_⟩
      · cases i with
        | zero => simp at ho; subst ho; exact (hn0 _ _ ht hdd).elim
        | succ i => exact i5 i o' t' d' (by simpa using ho) ht hdd
      · cases i with
        | zero => simp at h1; subst h1; exact (hn0 _ _ h3 h5).elim
        | succ i => cases j with
          | zero => simp at h2; subst h2; exact (hn0 _ _ h4 h6).elim
          | succ j => rw [i6 i j o1 o2 t1 t2 d' (by simpa using h1) (by simpa using h2) h3 h4 h5 h6]
      · cases i with
        | zero => simp at ho; subst ho; exact hn0 _ _ ht hdd
        | succ i => exact i7 d' hn i o' t' (by simpa using ho) ht hdd

theorem Sit.laid (h : Sit w0 B d nt pn gs ws Hs g w st a) {H' : Heap} (hp : preE P ops st.heap = some (pre, H')) : Sit w0 B d nt pn gs ws Hs g w { st with heap := H' } a ∧ ∀ σ, Pend P Hs.length ops pre g H' σ := by
  obtain ⟨i1, i2, i3, i4, i5, i6, i7⟩ := pre_spec P _ _ _ _ hp
  have hpost : Post d B g w st.heap g w H' [] nobody := by
    refine ⟨.refl _ _ _, ?_, i1, fun id hl hr _ => ⟨hr, i2 id hl⟩, fun _ _ _ _ => rfl⟩
    exact { rho := fun id b hr => by have := h.inv.rho id b hr; exact ⟨by omega, this.2⟩, inj := h.inv.inj, ext := h.inv.ext, ow := h.inv.ow,
            obj := fun id o b hg hr => h.inv.obj id o b (by rw [← i2 id (h.inv.rho id b hr).1]; exact hg) hr, base := h.inv.base }
  refine ⟨⟨hpost.inv, h.env, h.facts, h.size, (pre_fr (w := []) hp).good trivial h.hg, h.kept, (h.hist.then hpost fun _ e => e.elim).mono (by simp) fun _ h => h, fun id lp e => by obtain ⟨lp1, h1⟩ := h.loops id lp e; exact (pre_fr (w := []) hp).loop id lp1 h1, h.defs, h.pin⟩, ?_⟩
  intro σ i hi o t d ho hop hd
  obtain ⟨id, z, k1, k2, k3, k4⟩ := i5 i o t d ho hop hd
  have hlen := i3 d id k1
  refine ⟨id, z, k1, Nat.le_trans h.hist.len hlen.1, k2, k3, ?_, k4, fun j hj o' t' d' ho' hop' hd' hl => ?_⟩
  · cases hr : g.rho id with
    | none => rfl
    | some b => have := (h.inv.rho id b hr).1; omega
  · have := i4 d d' id k1 hl
    subst this
    exact i6 j i o' o t' t d ho' ho hop' hop hd' hd

/-! ### The evaluator's own order -/
/-- a trace tells what an operation did -/
structure Told (t : STr) (tr : Tr) : Prop where
  rd : t.rd = tr.rd
  wr : t.wr = tr.wr
  req : t.req = tr.req
  wv : t.wv = tr.wv
  lim : t.lim = tr.lim
  kl : ∀ i, t.K i → i ∈ tr.kl
theorem ops_run : ∀ (os : List Oper) (k : Nat) (s s' : St) (acc acc' : List Tr), (∀ m o, os[m]? = some o → ops[k + m]? = some o) → opsE X pre ops os s acc = some (s', acc') →
    ∃ (ts : List (Nat × STr)) (trs : List Tr), ts.map (·.1) = List.range' k os.length ∧ RunT X pre ops ts s s' ∧ acc' = trs.reverse ++ acc ∧ trs.length = ts.length ∧ ∀ (m : Nat) (p : Nat × STr) (tr : Tr), ts[m]? = some p → trs[m]? = some tr → Told p.2 tr
  | [], k, s, s', acc, acc', _, h => by
    simp only [opsE] at h
    cases h
    exact ⟨[], [], rfl, .refl _, rfl, rfl, fun m p tr h => by simp at h⟩
  | o :: os, k, s, s', acc, acc', ho, h => by
    simp only [opsE] at h
    split at h
    case h_2 => cases h
    rename_i s1 tr hs
    obtain ⟨ts, trs, h1, h2, h3, h4, h5⟩ := ops_run os (k + 1) s1 s' (tr :: acc) acc' (fun m o' hm => by rw [show k + 1 + m = k + (m + 1) by omega]; exact ho (m + 1) o' (by simpa using hm)) h
    obtain ⟨t, ht, t1, t2, t3, t4, t5, t6⟩ := rd_of_step hs
    refine ⟨(k, t) :: ts, tr :: trs, ?_, ⟨o, s1, by have := ho 0 o rfl; simpa using this, ht, h2⟩, by rw [h3]; simp, by simp [h4], fun m p tr' hm hm' => ?_⟩
    · simp only [List.map_cons, h1, List.length_cons, List.range'_succ]
    · cases m with
      | zero => simp at hm hm'; subst hm; subst hm'; exact ⟨t1, t2, t3, t4, t5, t6⟩
      | succ m => exact h5 m p tr' (by simpa using hm) (by simpa using hm')

theorem okP_of_told {s t : STr} {a b : Tr} (hs : Told s a) (ht : Told t b) (h : trOk a b = true) : OkP s t := by
  simp only [trOk, Bool.and_eq_true] at h
  obtain ⟨⟨⟨⟨⟨⟨h1, h2⟩, h3⟩, h4⟩, h5⟩, h6⟩, h7⟩ := h
  refine ⟨by rw [hs.rd, ht.wr]; exact disjE_iff.1 h1, by rw [ht.rd, hs.wr]; exact disjE_iff.1 h2, by rw [hs.wv, ht.req]; exact disjE_iff.1 h3, by rw [ht.wv, hs.req]; exact disjE_iff.1 h4,
    fun i hi hK => disjE_iff.1 h5 i (hs.kl i hK) (by rw [← ht.req]; exact hi), fun n hn i hi => ?_, fun n hn i hi => ?_⟩
  · unfold limOk at h6
    rw [← hs.lim, hn] at h6
    rw [ht.rd] at hi
    simpa using List.all_eq_true.1 h6 i hi
  · unfold limOk at h7
    rw [← ht.lim, hn] at h7
    rw [hs.rd] at hi
    simpa using List.all_eq_true.1 h7 i hi
theorem trOk_quiet {acc : List Tr} (h : ((acc.all fun t => t.wr.isEmpty && t.wv.isEmpty && t.kl.isEmpty) && (acc.all (fun t => t.lim.isNone) || acc.all (fun t => t.rd.isEmpty))) = true) {a b : Tr} (ha : a ∈ acc) (hb : b ∈ acc) : trOk a b = true := by
  simp only [Bool.and_eq_true, Bool.or_eq_true, List.all_eq_true, List.isEmpty_iff] at h
  obtain ⟨h1, h2⟩ := h
  obtain ⟨⟨a1, a2⟩, a3⟩ := h1 a ha
  obtain ⟨⟨b1, b2⟩, b3⟩ := h1 b hb
  simp only [trOk, Bool.and_eq_true]
  refine ⟨⟨⟨⟨⟨⟨?_, ?_⟩, ?_⟩, ?_⟩, ?_⟩, ?_⟩, ?_⟩
  · rw [b1]; exact disjE_iff.2 fun i _ h => by cases h
  · rw [a1]; exact disjE_iff.2 fun i _ h => by cases h
  · rw [a2]; exact disjE_iff.2 fun i h => by cases h
  · rw [b2]; exact disjE_iff.2 fun i h => by cases h
  · rw [a3]; exact disjE_iff.2 fun i h => by cases h
  · unfold limOk
    rcases h2 with h2 | h2
    · have := h2 a ha
      rw [Option.isNone_iff_eq_none] at this
      rw [this]
    · split
      · rw [h2 b hb]; rfl
      · rfl
  · unfold limOk
    rcases h2 with h2 | h2
    · have := h2 b hb
      rw [Option.isNone_iff_eq_none] at this
      rw [this]
    · split
      · rw [h2 a ha]; rfl
      · rfl
/-- a region's operations may be run in any admissible order -/
theorem pairs_ok {ts : List (Nat × STr)} {trs : List Tr} (hm : ts.map (·.1) = List.range' 0 ops.length) (hl : trs.length = ts.length) (ht : ∀ (m : Nat) (p : Nat × STr) (tr : Tr), ts[m]? = some p → trs[m]? = some tr → Told p.2 tr)
    (hstat : statE ops = true) (hap : ((trs.all fun t => t.wr.isEmpty && t.wv.isEmpty && t.kl.isEmpty) && (trs.all (fun t => t.lim.isNone) || trs.all (fun t => t.rd.isEmpty))) = true ∨ apartE (beforeE ops []) trs = true) :
    ts.Pairwise (PairOK ops (befE ops)) := by
  have hlen : ts.length = ops.length := by have := congrArg List.length hm; simpa using this
  rw [List.pairwise_iff_getElem]
  intro i j hi hj hij op oq h1 h2
  have hfst : ∀ m (hm' : m < ts.length), (ts[m]).1 = m := fun m hm' => by
    have h3 : (ts.map (·.1))[m]? = some (ts[m]).1 := by rw [List.getElem?_map, List.getElem?_eq_getElem hm']; rfl
    rw [hm, List.getElem?_range' (by omega)] at h3
    simp at h3
    omega
  rw [hfst i hi] at h1
  rw [hfst j hj] at h2
  rw [hfst i hi, hfst j hj]
  by_cases hb : befE ops j i
  · exact .inl hb
  · have hbit : ((beforeE ops []).getD j 0).testBit i = false := by
      unfold befE at hb
      simpa using hb
    right
    simp only [statE, Bool.and_eq_true, List.all_eq_true, List.mem_range] at hstat
    have hs := hstat.2 j (by omega) i hij
    rw [hbit, h1, h2] at hs
    simp only [Bool.false_or, Bool.and_eq_true] at hs
    have hti : trs[i]? = some trs[i] := List.getElem?_eq_getElem (by omega)
    have htj : trs[j]? = some trs[j] := List.getElem?_eq_getElem (by omega)
    refine ⟨by simp only [offOk, Bool.and_eq_true]; exact hs, okP_of_told (ht i _ _ (List.getElem?_eq_getElem hi) hti) (ht j _ _ (List.getElem?_eq_getElem hj) htj) ?_⟩
    rcases hap with hap | hap
    · exact trOk_quiet hap (List.getElem_mem (by omega)) (List.getElem_mem (by omega))
    · simp only [apartE, List.all_eq_true, List.mem_range] at hap
      have := hap j (by omega) i hij
      rw [hbit] at this
      simp only [Bool.false_or] at this
      rwa [List.getD_eq_getElem?_getD, hti, List.getD_eq_getElem?_getD, htj] at this

theorem below_of {os : Array Oper} (h : lowE .any os.toList = true) : Below os := by
  intro x o ho e he hb
  have hx : x < os.toList.length := by
    have := (Array.getElem?_eq_some_iff.1 ho).1
    simpa using this
  simp only [lowE, List.all_eq_true, List.mem_range] at h
  have := h x hx
  rw [Array.getElem?_toList, ho] at this
  have := List.all_eq_true.1 this e (by simpa using he)
  rw [hb] at this
  simpa using this
theorem ranked_of_low {md : Region.Mode} {os : Array Oper} (h : lowE md os.toList = true) : Ranked md os := by
  refine ⟨id, fun x o ho e he hb => ?_⟩
  have hx : x < os.size := (Array.getElem?_eq_some_iff.1 ho).1
  simp only [lowE, List.all_eq_true, List.mem_range] at h
  have := h x (by simpa using hx)
  rw [Array.getElem?_toList, ho] at this
  have := List.all_eq_true.1 this e (by simpa using he)
  rw [hb] at this
  have hlt : e.on < x := by simpa using this
  exact ⟨by omega, hlt⟩
theorem mem_deps {m : Region.Mode} (os : List Oper) : ∀ {k x : Nat} {o : Oper}, os[x]? = some o → ∃ ds, (k + x, ds) ∈ depsE m k os ∧ ∀ e ∈ o.after, Region.binds m e = true → e.on ∈ ds := by
  induction os with
  | nil => intro k x o h; cases h
  | cons o' r ih =>
    intro k x o h
    cases x with
    | zero =>
      have : o' = o := by simpa using h
      subst this
      refine ⟨_, by unfold depsE; exact List.mem_cons_self, fun e he hb => ?_⟩
      exact List.mem_map.2 ⟨e, List.mem_filter.2 ⟨by simpa using he, hb⟩, rfl⟩
    | succ x =>
      obtain ⟨ds, h1, h2⟩ := ih (k := k + 1) (x := x) (by simpa using h)
      refine ⟨ds, ?_, h2⟩
      unfold depsE
      rw [show k + (x + 1) = k + 1 + x by omega]
      exact List.mem_cons_of_mem _ h1
theorem ranked_of_rank {md : Region.Mode} {os : Array Oper} (h : rankE md os.toList = true) : Ranked md os := by
  unfold rankE at h
  generalize ranksE os.toList.length 0 (depsE md 0 os.toList) [] = rk at h
  refine ⟨fun i => (lookupN rk i).getD 0, fun x o ho e he hb => ?_⟩
  obtain ⟨ds, h1, h2⟩ := mem_deps (m := md) os.toList (k := 0) (x := x) (o := o) (by rw [Array.getElem?_toList]; exact ho)
  rw [Nat.zero_add] at h1
  have h3 := List.all_eq_true.1 h _ h1
  have h4 := List.all_eq_true.1 h3 _ (h2 e he hb)
  simp only [Bool.and_eq_true, decide_eq_true_eq] at h4
  refine ⟨by simpa using h4.1, ?_⟩
  have h5 := h4.2
  unfold lessN at h5
  split at h5
  · rename_i a b ha hb'
    simp only [ha, hb', Option.getD_some]
    simpa using h5
  · cases h5
/-- A REGION. -/
theorem region_wp (hX : X.P = P) (hcall : CallOK P w0 B (lentF X.takes) X.call) (hfr : CallFr X.call) {id : Nat} {os : Array Oper} {draw : Bool} {st' : St} (hgood : goodCode nt (.region id os draw) = true) (hpn : pn.isSome = true → noDst0 (.region id os draw) = true) (h : regionE X os.toList draw st = some st') (hsit : Sit w0 B d nt pn gs ws Hs g w st a)
    (hQ : ∀ g' w' a', Sit w0 B d nt pn gs ws Hs g' w' st' a' → a'.defers = a.defers → Q .normal a' w') : (Code.region id os draw).wpIn (FW r) 0 P Q a w := by
  unfold regionE at h
  split at h
  case h_2 => cases h
  rename_i pre H' hpre
  split at h
  case h_2 => cases h
  rename_i s1 acc hops
  split at h
  case isFalse => cases h
  rename_i hcond
  cases h
  rw [hX] at hpre
  obtain ⟨hsit1, hpend⟩ := hsit.laid hpre
  obtain ⟨ts, trs, h1, h2, h3, h4, h5⟩ := ops_run (X := X) (pre := pre) (ops := os.toList) os.toList 0 _ _ _ _ (fun m o hm => by simpa using hm) hops
  simp only [List.append_nil] at h3
  subst h3
  have hnt : ∀ o ∈ os.toList, ∀ d, o.dst = some d → OkDst nt pn d := fun o ho d hd => by
    simp only [goodCode, Bool.and_eq_true, List.all_eq_true] at hgood
    have := hgood.1 o ho
    rw [hd] at this
    refine ⟨by simpa using this, fun hp => ?_⟩
    have h0 := hpn hp
    simp only [noDst0, List.all_eq_true] at h0
    have := h0 o ho
    rw [hd] at this
    rintro rfl
    simp at this
  have fin : ∀ g' w' a', Sit w0 B d nt pn gs ws Hs g' w' s1 a' → a'.defers = a.defers → Q .normal a' w' := fun g' w' a' hs hd =>
    hQ g' w' a' ⟨hs.inv, hs.env, ⟨fun j id off hj => (by cases hj), fun j hj => (by cases hj)⟩, hs.size, hs.hg, hs.kept, hs.hist, hs.loops, hs.defs, hs.pin⟩ hd
  cases draw with
  | false =>
    refine wpIn_region ?_
    have hr : ts.map (·.1) = List.range os.size := by rw [h1, List.range_eq_range']; simp
    rw [← hr]
    exact runT_wp hX hcall hfr rfl hnt ts _ _ g w a h2 hsit1 (hpend _) (by rw [hr]; exact List.nodup_range) rfl fin
  | true =>
    refine wpIn_region_draw fun t => ?_
    simp only [goodCode, Bool.not_true, Bool.false_or, Bool.and_eq_true] at hgood
    have hstat := hgood.2
    have hst := hstat
    simp only [statE, Bool.and_eq_true, Bool.or_eq_true] at hst
    obtain ⟨⟨k1, k2⟩, _⟩ := hst
    have hlow : Below os := below_of k1
    have hrk : ∀ md, Ranked md os := by
      intro md
      cases md with
      | any => exact ranked_of_low k1
      | text => exact k2.elim (fun h => ranked_of_low h.1) fun h => ranked_of_rank h.1
      | gc => exact k2.elim (fun h => ranked_of_low h.2) fun h => ranked_of_rank h.2
    have hlin : Lin (befE os.toList) (Region.schedule (P.follows .mixedOrders) os t) (List.range os.size) := by
      unfold Region.schedule
      split
      · exact lin_all os (befE_ok os hlow) (hrk _) t
      · exact lin_all os (befE_ok os hlow) (hrk _) (t / 2)
    have hap : ((trs.all fun t => t.wr.isEmpty && t.wv.isEmpty && t.kl.isEmpty) && (trs.all (fun t => t.lim.isNone) || trs.all (fun t => t.rd.isEmpty))) = true ∨ apartE (beforeE os.toList []) trs = true := by
      simp only [Bool.not_true, Bool.false_or, Bool.or_eq_true, List.reverse_reverse, List.all_reverse] at hcond
      exact hcond
    have hpairs := pairs_ok h1 h4 h5 hstat hap
    have hr : ts.map (·.1) = List.range os.size := by rw [h1, List.range_eq_range']; simp
    obtain ⟨ts', hm', hrun'⟩ := any_order (frameOK hfr) hlin hr h2 hpairs
    rw [← hm']
    have hnd : (ts'.map (·.1)).Nodup := by
      rw [hm']
      have : ∀ {σ l : List Nat}, Lin (befE os.toList) σ l → l.Nodup → σ.Nodup ∧ ∀ x ∈ σ, x ∈ l := by
        intro σ l hl
        induction hl with
        | nil => intro _; exact ⟨.nil, fun x h => h⟩
        | cons hb ht ih =>
          rename_i x σ l1 l2
          intro hn
          have hn' := List.nodup_append.1 hn
          have hn2 := List.nodup_cons.1 hn'.2.1
          have hxl : x ∉ l1 := fun h => hn'.2.2 x h x (by simp) rfl
          obtain ⟨i1, i2⟩ := ih (List.nodup_append.2 ⟨hn'.1, hn2.2, fun a ha b hb => hn'.2.2 a ha b (List.mem_cons_of_mem _ hb)⟩)
          refine ⟨List.nodup_cons.2 ⟨fun h => ?_, i1⟩, fun y hy => ?_⟩
          · rcases List.mem_append.1 (i2 x h) with h | h
            · exact hxl h
            · exact hn2.1 h
          · rcases List.mem_cons.1 hy with rfl | hy
            · simp
            · rcases List.mem_append.1 (i2 y hy) with h | h
              · exact List.mem_append_left _ h
              · exact List.mem_append_right _ (List.mem_cons_of_mem _ h)
      exact (this hlin List.nodup_range).1
    have hsit2 : Sit w0 B d nt pn gs ws Hs g { w with drawn := w.drawn + 1 } { st with heap := H' } a := hsit1.same ⟨rfl, rfl, rfl, rfl⟩
    exact runT_wp hX hcall hfr rfl hnt ts' _ _ g _ a hrun' hsit2 (hpend _) hnd rfl fin
end
end Go.Abs
end

section
/- Code, as the machine runs it. -/
namespace Go.Abs
open Go
set_option linter.unusedSimpArgs false
set_option linter.unusedVariables false
set_option linter.unusedSectionVars false

/-! ### Slots that live on -/
def Srt (e : Env) : Prop := e.Pairwise fun p q => p.1 < q.1
theorem srt_of : ∀ {e : Env}, sortedB e = true → Srt e
  | [], _ => .nil
  | [(a, v)], _ => List.pairwise_cons.2 ⟨by simp, .nil⟩
  | (a, v) :: (b, u) :: r, h => by
    simp only [sortedB, Bool.and_eq_true, decide_eq_true_eq] at h
    have ih : Srt ((b, u) :: r) := srt_of (by simpa [sortedB] using h.2)
    refine List.pairwise_cons.2 ⟨fun q hq => ?_, ih⟩
    rcases List.mem_cons.1 hq with rfl | hq
    · exact h.1
    · exact Nat.lt_trans h.1 ((List.pairwise_cons.1 ih).1 q hq)
theorem eget_of_mem : ∀ {e : Env}, Srt e → ∀ {i : Nat} {v : AVal}, (i, v) ∈ e → eget e i = some v
  | (j, u) :: r, hs, i, v, h => by
    obtain ⟨h1, h2⟩ := List.pairwise_cons.1 hs
    simp only [eget]
    rcases List.mem_cons.1 h with e | h
    · cases e; rw [if_pos rfl]
    · have := h1 _ h
      rw [if_neg (by simp only at this; omega)]
      exact eget_of_mem h2 h
theorem varV_ok (v : AVal) : varOk (varV v) = true := by
  unfold varV
  split
  · assumption
  · rfl
theorem trim_get {vars : Nat} {e : Env} {i : Nat} {v : AVal} (h : eget (trimE vars e) i = some v) : ∃ u, eget e i = some u ∧ v = varV u := by
  unfold trimE at h
  split at h
  · rename_i hs
    have := eget_mem h
    obtain ⟨p, hp, he⟩ := List.mem_map.1 this
    cases he
    exact ⟨p.2, eget_of_mem (srt_of hs) (List.mem_filter.1 hp).1, rfl⟩
  · cases h
theorem srt_trim {vars : Nat} {e : Env} : Srt (trimE vars e) := by
  unfold trimE
  split
  · rename_i hs
    have := (srt_of hs).filter fun p => vars.testBit p.1
    unfold Srt
    rw [List.pairwise_map]
    exact this
  · exact .nil
theorem mem_loopEnv : ∀ {e : Env} {i : Nat} {v : AVal}, (i, v) ∈ loopEnv e → ∃ u, (i, u) ∈ e ∧ ((∃ l k, u = .vec l (.tip k) ∧ v = .vec l .ro) ∨ (u = v ∧ plainV v ∧ (∀ l k, v ≠ .vec l (.ex k)) ∧ ∀ l k, v ≠ .vec l (.tip k)))
  | [], i, v, h => by cases h
  | (j, u) :: r, i, v, h => by
    have rest : (i, v) ∈ loopEnv r → ∃ u', (i, u') ∈ (j, u) :: r ∧ ((∃ l k, u' = .vec l (.tip k) ∧ v = .vec l .ro) ∨ (u' = v ∧ plainV v ∧ (∀ l k, v ≠ .vec l (.ex k)) ∧ ∀ l k, v ≠ .vec l (.tip k))) := fun h => by
      obtain ⟨u', h1, h2⟩ := mem_loopEnv h
      exact ⟨u', List.mem_cons_of_mem _ h1, h2⟩
    unfold loopEnv at h
    split at h
    · rename_i e; cases e
    · rename_i e; cases e; exact rest h
    · rename_i j' l k r' e
      cases e
      rcases List.mem_cons.1 h with e | h
      · cases e; exact ⟨_, by simp, .inl ⟨l, k, rfl, rfl⟩⟩
      · exact rest h
    · rename_i e; cases e; exact rest h
    · rename_i e; cases e; exact rest h
    · rename_i e; cases e; exact rest h
    · rename_i j' v' r' h1 h2 h3 h4 h5 e
      cases e
      rcases List.mem_cons.1 h with e | h
      · cases e
        exact ⟨_, by simp, .inr ⟨rfl, ⟨fun vs e => h5 vs e, fun q e => h3 q e, fun a b c e => h4 a b c e⟩, fun l k e => h1 l k e, fun l k e => h2 l k e⟩⟩
      · exact rest h

section
variable {P : Program} {w0 ws w : World} {B d nt : Nat} {pn : Option Value} {gs g : G} {Hs : Heap} {st : St} {a : Act} {X : Ctx} {r : Option Nat} {Q : Exit → Act → World → Prop}
theorem slot_varV {env env' : Env} {tm : Nat → Option Value} {i : Nat} {x : Value} {v : AVal} (h : SlotOK g w d env tm i x v) : SlotOK g w d env' tm i x (varV v) := by
  unfold varV
  split
  · rename_i hv
    refine h.congr fun j hj => ?_
    rcases hj with rfl | ⟨_, _, rfl⟩ <;> cases hv
  · exact dead_slot
theorem Sit.trim (h : Sit w0 B d nt pn gs ws Hs g w st a) (vars : Nat) : Sit w0 B d nt pn gs ws Hs g w { st with env := trimE vars st.env } a := by
  refine ⟨h.inv, fun i v hv => ?_, h.facts, h.size, h.hg, h.kept, h.hist, h.loops, h.defs, h.pin⟩
  obtain ⟨u, h1, rfl⟩ := trim_get hv
  obtain ⟨x, hx, hs⟩ := h.env i u h1
  exact ⟨x, hx, slot_varV hs⟩
/-- the slots that live on, all of them -/
theorem Sit.head (h : Sit w0 B d nt pn gs ws Hs g w st a) (vars : Nat) : Sit w0 B d nt pn gs ws Hs g w (headS vars nt st) a := by
  refine ⟨h.inv, fun i v hv => ?_, h.facts, h.size, h.hg, h.kept, h.hist, h.loops, h.defs, h.pin⟩
  have hm := eget_mem hv
  simp only [headS, headE, List.mem_filterMap, List.mem_range] at hm
  obtain ⟨j, hj, he⟩ := hm
  split at he
  · simp only [Option.some.injEq, Prod.mk.injEq] at he
    obtain ⟨rfl, rfl⟩ := he
    split
    · rename_i u hu
      obtain ⟨x, hx, hs⟩ := h.env _ u hu
      exact ⟨x, hx, slot_varV hs⟩
    · have hlt : j < a.tmps.size := Nat.lt_of_lt_of_le hj h.size
      exact ⟨a.tmps[j], by simp [tmOf, hlt], dead_slot⟩
  · cases he

def exOf : Ex → Exit
  | .normal => .normal
  | .exit id => .exit id
  | .ret => .ret

/-- the rounds of a loop see these of their frame's slots -/
theorem loopEnv_ok (h : EnvOK g w d st.env (tmOf a)) {vars : Nat} {i : Nat} {v : AVal} (hv : eget (loopEnv (trimE vars st.env)) i = some v) : ∃ x, a.tmps[i]? = some x ∧ RelV g w v x := by
  obtain ⟨u, hu, hor⟩ := mem_loopEnv (eget_mem hv)
  obtain ⟨u0, h1, hu0⟩ := trim_get (eget_of_mem srt_trim hu)
  obtain ⟨x, hx, hs0⟩ := h i u0 h1
  have hs : SlotOK g w d st.env (tmOf a) i x u := by rw [hu0]; exact slot_varV hs0
  refine ⟨x, hx, ?_⟩
  rcases hor with ⟨l, k, rfl, rfl⟩ | ⟨rfl, ⟨p1, p2, p3⟩, n1, n2⟩
  · exact (hs.hold (by simp) (by simp) (by simp)).1.own _
  · have := hs.hold p1 p2 p3
    unfold HoldOK at this
    split at this
    · exact absurd rfl (n1 _ _)
    · exact absurd rfl (n2 _ _)
    · exact this

/-- a block that is no object -/
theorem post_plain {w' : World} {H : Heap} {o : Obj} (hi : Inv B g w H) (hn : NewW w w' o) : Post d B g w H g w' H [] nobody := by
  have hc : Chg w.heap.size g w g w' := ⟨⟨fun _ _ h => h, fun _ => Nat.le_refl _, fun b i hb => cell_old (hn.old (hi.ext b (by omega)))⟩, fun b' hne hlt => ⟨hn.old hlt, rfl, rfl⟩, by rw [hn.size]; omega, hn.os, hn.tape, hn.output, fun _ _ h => .inl h⟩
  refine ⟨hc.step (.inl (Nat.le_refl _)), ?_, Nat.le_refl _, fun _ _ hr _ => ⟨hr, rfl⟩, fun id b hr _ => hn.old (hi.rho id b hr).2.2.1⟩
  exact { rho := fun id b hr => by have := hi.rho id b hr; rw [hn.size]; exact ⟨this.1, this.2.1, by omega, this.2.2.2⟩
          inj := hi.inj
          ext := fun b hb => by have := hi.ext b hb; rw [hn.size]; omega
          ow := fun b o' ho => by have := hi.ow b o' ho; rw [hn.size]; exact ⟨this.1, by omega⟩
          obj := fun id o' b hg hr => (hi.obj id o' b hg hr).chg hi hc (hn.old (hi.rho id b hr).2.2.1) fun off e => by rw [hi.ow_new] at e; cases e
          base := by have := hi.base; rw [hn.size]; omega }
theorem EnvOK.plain {env : Env} {tm : Nat → Option Value} {w' : World} {H : Heap} {o : Obj} (he : EnvOK g w d env tm) (hi : Inv B g w H) (hn : NewW w w' o) : EnvOK g w' d env tm := by
  have hc : Chg w.heap.size g w g w' := ⟨⟨fun _ _ h => h, fun _ => Nat.le_refl _, fun b i hb => cell_old (hn.old (hi.ext b (by omega)))⟩, fun b' hne hlt => ⟨hn.old hlt, rfl, rfl⟩, by rw [hn.size]; omega, hn.os, hn.tape, hn.output, fun _ _ h => .inl h⟩
  exact he.chg hi hc (fun i e => by rw [hi.ow_new] at e; cases e) fun i j e => by rw [hi.ow_new] at e; cases e

/-- a frame's round, if it is one: its loop stands in the heap -/
def RoundHas (gs : G) (Hs : Heap) : Option Nat → Prop
  | none => True
  | some l => ∃ id lp, gs.rho id = some l ∧ hget Hs id = some (.loop lp)

/-- entering a loop -/
theorem enter_ok (hr : RoundHas gs Hs r) (hsit : Sit w0 B d nt pn gs ws Hs g w st a) (hf : st.facts = []) (fn : FuncId) (ps : Array Tmp) (asg body : Code) {lp : ALoop} (hlp : lp.nt ≤ a.tmps.size ∧ lp.state = .ready ∧ lp.pend = none ∧ ps.toList = lp.params ∧ asg = lp.assign ∧ body = lp.body) (hlg : goodCode lp.nt lp.assign = true ∧ goodCode lp.nt lp.body = true ∧ (∀ p ∈ lp.params, p < lp.nt))
    (hle : ∀ i v, eget lp.env i = some v → ∃ x, a.tmps[i]? = some x ∧ RelV g w v x) :
    ∃ l mark w1 g1, (Instr.enterLoop fn a.tmps ps asg body r).run P w = .ok (l, mark) w1 ∧ g1.rho st.heap.length = some l ∧ Post d B g w st.heap g1 w1 (.loop lp :: st.heap) [] nobody ∧
      Sit w0 B d nt pn gs ws Hs g1 w1 { st with heap := .loop lp :: st.heap } { a with defers := mark ++ a.defers } := by
  -- the record is laid
  have lay : ∀ (w1 : World) (g1 : G) (dfr : Nat) (mark : List Deferred), Post d B g w st.heap g1 w1 st.heap [] nobody → EnvOK g1 w1 d st.env (tmOf a) → DefsOK g1 w1 ws (mark ++ a.defers) → g1.rho = g.rho →
      g1.rho st.heap.length = none → ∀ w2, w2 = w1.alloc (.loop { state := .ready, pending := none, fn, tmps := a.tmps, params := ps, assign := asg, body, defers := dfr }) →
      Post d B g w st.heap (g1.name st.heap.length w1.heap.size) w2 (.loop lp :: st.heap) [] nobody ∧ Sit w0 B d nt pn gs ws Hs (g1.name st.heap.length w1.heap.size) w2 { st with heap := .loop lp :: st.heap } { a with defers := mark ++ a.defers } := by
    rintro w1 g1 dfr mark hp he hd hrho hno w2 rfl
    have hn : NewW w1 (w1.alloc (.loop { state := .ready, pending := none, fn, tmps := a.tmps, params := ps, assign := asg, body, defers := dfr })) _ := ⟨rfl, rfl, rfl, rfl⟩
    have hp2 := post_name (d := d) hp.inv hn hno (H' := .loop lp :: st.heap) (by simp) (by simp) (fun i hne hlt => by rw [hget_cons, if_neg hne]) (fun ob hob => by
      rw [hget_cons, if_pos rfl] at hob
      cases hob
      obtain ⟨h1, h2, h3, h4, rfl, rfl⟩ := hlp
      refine ⟨_, hn.new, h1, h2.symm, by rw [h3]; rfl, h4, rfl, rfl, fun i v hv => ?_⟩
      obtain ⟨x, hx, hr⟩ := hle i v hv
      exact ⟨x, hx, hr.le (hp.step.le.trans (chg_name hp.inv hn hno).le)⟩)
    have hpp := (hp.trans hp2).unborn fun i hi => by
      rcases hi with hi | hi
      · exact hi.elim
      · rw [hi]; exact Nat.le_refl _
    have hpp' : Post d B g w st.heap (g1.name st.heap.length w1.heap.size) _ (.loop lp :: st.heap) [] nobody := hpp.mono (by simp) fun _ h => h
    refine ⟨hpp', ⟨hpp'.inv, he.name hp.inv hn hno, ?_, hsit.size, ?_, hsit.kept.post hsit.inv hpp', (hsit.hist.then hpp' fun _ e => e.elim).mono (by simp) fun _ h => h, fun id l e => ?_, hd.step (chg_name hp.inv hn hno |>.step (d := d) (.inl (Nat.le_refl _))), hsit.pin⟩⟩
    · simp only [hf]
      exact ⟨fun j id off h => (by cases h), fun j h => (by cases h)⟩
    · intro id l hl
      rw [hget_cons] at hl
      split at hl
      · cases hl; exact hlg
      · exact hsit.hg id l hl
    · obtain ⟨l1, h1⟩ := hsit.loops id l e
      exact ⟨l1, by rw [hget_cons, if_neg (by have := hget_lt h1; omega)]; exact h1⟩
  cases r with
  | none =>
    have hn0 : NewW w (w.alloc (.deferred (some []))) (.deferred (some [])) := ⟨rfl, rfl, rfl, rfl⟩
    have hp0 := post_plain (d := d) hsit.inv hn0
    have hd0 : DefsOK g (w.alloc (.deferred (some []))) ws ([{ target := .collected w.heap.size, args := #[] }] ++ a.defers) := by
      obtain ⟨bs, h1, h2, h3⟩ := hsit.defs.step hp0.step
      obtain ⟨bs', h1', h2', h3'⟩ := hsit.defs
      have hbs : ∀ b ∈ bs', b < w.heap.size := fun b hb => (h3' b hb).2.1
      refine ⟨w.heap.size :: bs', List.nodup_cons.2 ⟨fun h => by have := hbs _ h; omega, h1'⟩, by rw [h2']; rfl, fun b hb => ?_⟩
      rcases List.mem_cons.1 hb with rfl | hb
      · refine ⟨hsit.hist.step.size, by rw [hn0.size]; omega, hn0.new, hsit.inv.ow_new, fun id hr => ?_⟩
        have := (hsit.inv.rho id _ hr).2.2.1; omega
      · obtain ⟨k1, k2, k3, k4, k5⟩ := h3' b hb
        exact ⟨k1, by rw [hn0.size]; omega, (hn0.old k2).trans k3, k4, k5⟩
    have hno : g.rho st.heap.length = none := hsit.inv.rho_len
    obtain ⟨q1, q2⟩ := lay _ g w.heap.size [{ target := .collected w.heap.size, args := #[] }] hp0 (hsit.env.plain hsit.inv hn0) hd0 rfl hno _ rfl
    refine ⟨_, _, _, _, run_enterLoop_outer fn a.tmps ps asg body, ?_, q1, q2⟩
    simp [G.name, hn0.size]
  | some l0 =>
    obtain ⟨id0, lp0, hr0, hg0⟩ := hr
    obtain ⟨lp1, hg1⟩ := hsit.loops id0 lp0 hg0
    obtain ⟨L, hL, _⟩ := hsit.inv.obj id0 _ l0 hg1 (hsit.hist.step.le.rho id0 l0 hr0)
    obtain ⟨q1, q2⟩ := lay w g L.defers [] (.refl hsit.inv) hsit.env hsit.defs rfl hsit.inv.rho_len _ rfl
    refine ⟨w.heap.size, [], _, _, ?_, ?_, q1, q2⟩
    · unfold Instr.enterLoop
      simp only [Sem.run_bind, run_newObj_alloc, Result.andThen, Sem.run_pure, run_getLoop hL]
    · simp [G.name]
end
end Go.Abs
end

section
/- Code, as the machine runs it: all of it. -/
namespace Go.Abs
open Go
set_option linter.unusedSimpArgs false
set_option linter.unusedVariables false
set_option linter.unusedSectionVars false

section
variable {P : Program} {w0 ws : World} {B d : Nat} {pn : Option Value} {gs : G} {Hs : Heap} {X : Ctx} {r : Option Nat}

theorem iter_wp {c : Code} {vars : Nat} {Q : Exit → Act → World → Prop} {e : Ex} {st' : St} (hc : ∀ {Q : Exit → Act → World → Prop} {st : St} {e : Ex} {st' : St}, codeE X c st = some (e, st') → ∀ {g w a}, Sit w0 B d X.nt pn gs ws Hs g w st a → st.facts = [] → (∀ g' w' a', Sit w0 B d X.nt pn gs ws Hs g' w' st' a' → st'.facts = [] → Q (exOf e) a' w') → c.wpIn (FW r) 0 P Q a w)
    (n : Nat) {st : St} {g : G} {w : World} {a : Act} (h : iterE (fun s => codeE X c (headS vars X.nt s)) n st = some (e, st')) (hs : Sit w0 B d X.nt pn gs ws Hs g w st a) (hf : st.facts = []) (hQ : ∀ g' w' a', Sit w0 B d X.nt pn gs ws Hs g' w' st' a' → st'.facts = [] → Q (exOf e) a' w') : (Code.loop c).wpIn (FW r) 0 P Q a w := by
  let I : Nat → Act → World → Prop := fun n a w => ∃ st g, iterE (fun s => codeE X c (headS vars X.nt s)) n st = some (e, st') ∧ Sit w0 B d X.nt pn gs ws Hs g w st a ∧ st.facts = []
  -- the least number of rounds
  have least : ∀ a w, (∃ n, I n a w) → ∃ m, I m a w ∧ ∀ n, I n a w → m ≤ n := by
    intro a w ⟨n, hn⟩
    induction n using Nat.strongRecOn with
    | _ n ih =>
      by_cases hx : ∃ k, k < n ∧ I k a w
      · obtain ⟨k, hk, hI⟩ := hx
        exact ih k hk hI
      · exact ⟨n, hn, fun k hk => by
          rcases Nat.lt_or_ge k n with h1 | h1
          · exact absurd ⟨k, h1, hk⟩ hx
          · exact h1⟩
  let μ : Act → World → Nat := fun a w => open Classical in if hx : ∃ n, I n a w then (least a w hx).choose else 0
  have hμ : ∀ a w (hx : ∃ n, I n a w), I (μ a w) a w ∧ ∀ n, I n a w → μ a w ≤ n := fun a w hx => by
    simp only [μ]
    rw [dif_pos hx]
    exact (least a w hx).choose_spec
  refine wpIn_loop (fun a w => ∃ n, I n a w) μ ⟨n, st, g, h, hs, hf⟩ fun a w hx => ?_
  obtain ⟨⟨st1, g1, h1, hs1, hf1⟩, _⟩ := hμ a w hx
  generalize hm : μ a w = m at h1
  cases m with
  | zero => cases h1
  | succ m =>
    simp only [iterE] at h1
    split at h1
    · rename_i st2 h2
      refine hc h2 (hs1.head vars) hf1 fun g' w' a' hs' hf' => ?_
      have hI : I m a' w' := ⟨st2, g', h1, hs', hf'⟩
      refine ⟨⟨m, hI⟩, ?_⟩
      have := (hμ a' w' ⟨m, hI⟩).2 m hI
      omega
    · rename_i hne
      refine hc h1 (hs1.head vars) hf1 fun g' w' a' hs' hf' => ?_
      have hQ' := hQ g' w' a' hs' hf'
      cases e with
      | normal => exact absurd h1 (hne st')
      | exit id => exact hQ'
      | ret => exact hQ'

/-- CODE. -/
theorem code_wp (hX : X.P = P) (hcall : CallOK P w0 B (lentF X.takes) X.call) (hfr : CallFr X.call) (hrnd : RoundHas gs Hs r) : ∀ (c : Code) {Q : Exit → Act → World → Prop} {st : St} {e : Ex} {st' : St}, codeE X c st = some (e, st') → goodCode X.nt c = true → (pn.isSome = true → noDst0 c = true) →
    ∀ {g w a}, Sit w0 B d X.nt pn gs ws Hs g w st a → st.facts = [] → (∀ g' w' a', Sit w0 B d X.nt pn gs ws Hs g' w' st' a' → st'.facts = [] → Q (exOf e) a' w') → c.wpIn (FW r) 0 P Q a w
  | .skip, Q, st, e, st', h, _, _, g, w, a, hs, hf, hQ => by
    simp only [codeE] at h; cases h
    exact wpIn_skip (hQ g w a hs hf)
  | .region i os draw, Q, st, e, st', h, hg, hn, g, w, a, hs, hf, hQ => by
    simp only [codeE] at h
    obtain ⟨s, hsr, he⟩ := Option.map_eq_some_iff.1 h
    cases he
    have hfacts : st'.facts = [] := by
      unfold regionE at hsr
      split at hsr
      · split at hsr
        · split at hsr
          · cases hsr; rfl
          · cases hsr
        · cases hsr
      · cases hsr
    exact region_wp hX hcall hfr hg hn hsr (hs.trim X.hint.vars) fun g' w' a' hs' _ => hQ g' w' a' hs' hfacts
  | .seq x y, Q, st, e, st', h, hg, hn, g, w, a, hs, hf, hQ => by
    simp only [goodCode, Bool.and_eq_true] at hg
    simp only [noDst0, Bool.and_eq_true] at hn
    simp only [codeE] at h
    refine wpIn_seq ?_
    split at h
    · rename_i s1 h1
      exact code_wp hX hcall hfr hrnd x h1 hg.1 (fun p => (hn p).1) hs hf fun g' w' a' hs' hf' => code_wp hX hcall hfr hrnd y h hg.2 (fun p => (hn p).2) hs' hf' hQ
    · rename_i hne
      refine code_wp hX hcall hfr hrnd x h hg.1 (fun p => (hn p).1) hs hf fun g' w' a' hs' hf' => ?_
      have := hQ g' w' a' hs' hf'
      cases e with
      | normal => exact absurd h (hne st')
      | exit id => exact this
      | ret => exact this
  | .cond q x y, Q, st, e, st', h, hg, hn, g, w, a, hs, hf, hQ => by
    simp only [goodCode, Bool.and_eq_true] at hg
    simp only [noDst0, Bool.and_eq_true] at hn
    simp only [codeE] at h
    split at h
    · rename_i t hq
      have hr := ev_rel hs.env hq (by simp)
      generalize hz : a.eval q = z at hr
      cases hr
      refine wpIn_cond hz ?_
      split at h
      · rename_i ht
        subst ht
        exact code_wp hX hcall hfr hrnd x h hg.1 (fun p => (hn p).1) hs hf hQ
      · rename_i ht
        have : t = false := by simpa using ht
        subst this
        exact code_wp hX hcall hfr hrnd y h hg.2 (fun p => (hn p).2) hs hf hQ
    · cases h
  | .block id c, Q, st, e, st', h, hg, hn, g, w, a, hs, hf, hQ => by
    simp only [goodCode] at hg
    simp only [noDst0] at hn
    simp only [codeE] at h
    refine wpIn_block ?_
    split at h
    · rename_i i s1 h1
      split at h
      · rename_i hid
        cases h
        refine code_wp hX hcall hfr hrnd c h1 hg hn hs hf fun g' w' a' hs' hf' => ?_
        simp only [exOf, Exit.inBlock, hid, if_true]
        exact hQ g' w' a' hs' hf'
      · rename_i hid
        cases h
        refine code_wp hX hcall hfr hrnd c h1 hg hn hs hf fun g' w' a' hs' hf' => ?_
        simp only [exOf, Exit.inBlock, hid, if_false]
        exact hQ g' w' a' hs' hf'
    · rename_i hne
      refine code_wp hX hcall hfr hrnd c h hg hn hs hf fun g' w' a' hs' hf' => ?_
      have := hQ g' w' a' hs' hf'
      cases e with
      | normal => exact this
      | exit i => exact absurd h (hne i st')
      | ret => exact this
  | .loop c, Q, st, e, st', h, hg, hn, g, w, a, hs, hf, hQ => by
    simp only [goodCode] at hg
    simp only [noDst0] at hn
    simp only [codeE] at h
    obtain ⟨p, hp, he⟩ := Option.map_eq_some_iff.1 h
    cases he
    exact iter_wp (vars := X.hint.vars) (fun {Q st e st'} h' {g w a} hs' hf' hQ' => code_wp hX hcall hfr hrnd c h' hg hn hs' hf' hQ') X.n (e := p.1) (st' := p.2) hp hs hf fun g' w' a' hs' hf' => hQ g' w' a' (hs'.head X.hint.vars) hf'
  | .exit id, Q, st, e, st', h, _, _, g, w, a, hs, hf, hQ => by
    simp only [codeE] at h; cases h
    exact wpIn_exit (hQ g w a hs hf)
  | .ret, Q, st, e, st', h, _, _, g, w, a, hs, hf, hQ => by
    simp only [codeE] at h; cases h
    exact wpIn_ret (hQ g w a hs hf)
  | .rangeFunc f ps asg body, Q, st, e, st', h, hg, hn, g, w, a, hs, hf, hQ => by
    simp only [codeE] at h
    split at h
    case h_2 => cases h
    rename_i gf first captured hfv
    split at h
    case h_2 => cases h
    rename_i v H w1' hc
    split at h
    case h_2 => cases h
    rename_i lp' hlp'
    split at h
    · cases h
    rename_i hbusy
    simp only [goodCode, Bool.and_eq_true] at hg
    refine wpIn_rangeFunc fun fn _ => ?_
    obtain ⟨l, mark, w1, g1, henter, hrho, hpost, hsit1⟩ := enter_ok hrnd hs hf fn ps asg body (lp := { nt := X.nt, env := loopEnv (trimE X.hint.vars st.env), fn := X.fn, params := ps.toList, assign := asg, body := body, resv := X.resv, state := .ready, pend := none })
      ⟨hs.size, rfl, rfl, rfl, rfl, rfl⟩ ⟨hg.1.2, hg.2, fun p hp => by simpa using List.all_eq_true.1 hg.1.1 p hp⟩ (fun i v hv => loopEnv_ok hs.env hv)
    have hfr0 := ev_rel hs.env hfv (by simp)
    have hfr1 := hfr0.le hpost.step.le
    generalize hz : a.eval f = z at hfr1
    cases hfr1 with
    | func hy h1 h2 =>
      rename_i xs ys
      have argsOK : ArgsOK g1 w1 (d + 1) ((first ++ [AVal.func (.yield st.heap.length) [] []] ++ captured).map strip) (xs ++ [Value.func (.yield l) #[] #[]] ++ ys) := by
        have hall : RelL g1 w1 (first ++ [AVal.func (.yield st.heap.length) [] []] ++ captured) (xs ++ [Value.func (.yield l) #[] #[]] ++ ys) := (h1.append (.cons (.yieldF hrho) .nil)).append h2
        refine ⟨by rw [List.length_map]; exact hall.length, fun i u hu => ?_⟩
        rw [List.getElem?_map] at hu
        obtain ⟨u0, hu0, rfl⟩ := Option.map_eq_some_iff.1 hu
        obtain ⟨y, hy', hr⟩ := hall.get hu0
        exact ⟨y, hy', rel_slot hr.strip⟩
      obtain ⟨⟨fn', hfn', hbody, hname⟩, hci⟩ := hcall _ _ _ _ _ _ hc g1 w1 d _ hpost.inv hsit1.hg hsit1.kept argsOK
      refine ⟨l, mark, w1, { target := .fn (.func gf) ys.toArray, args := xs.toArray ++ #[.func (.yield l) #[] #[]] }, w1, gf, (xs ++ [Value.func (.yield l) #[] #[]] ++ ys).toArray, w1, henter, ?_, fun _ _ => trivial, ?_, fun h => by simp [FW] at h, ?_⟩
      · simp only [resolve, rangeCall, hz, Deferred.ofValue, Sem.run_pure]
        congr 3
        apply Array.ext'
        simp only [Array.toList_map, List.map_cons, List.map_nil, Act.eval]
      · simp only [invoke]
        rw [callFunc_run hfn' hbody hname]
        congr 2
        apply Array.ext'
        simp
      · refine CallsIn.mono (show CallsIn (FW r) 0 P gf _ w1 _ from hci) fun e' w2 hR => ?_
        obtain ⟨x, g2, rfl, hp2, _⟩ := hR
        -- the loop's record
        have hp2u := hp2.up
        obtain ⟨L, hL, k0, k1, k2, k3, k4, k5, k6⟩ := hp2.inv.obj _ _ l hlp' (hp2.step.le.rho _ _ hrho)
        have hend := run_endLoop (P := P) hL (by rw [k1]; exact hbusy)
        have hlt : l < w2.heap.size := (Array.getElem?_eq_some_iff.1 hL).1
        have hupd : Upd l w2 (w2.putObj l (.loop { L with state := .exhausted })) := ⟨fun b' hb' => World.putObj_heap_other hb', by simp, rfl, rfl, rfl⟩
        obtain ⟨q1, q2⟩ := obj_upd (d := d) hp2.inv (hp2.step.le.rho _ _ hrho) hupd (ob := .loop { lp' with state := .exhausted }) (by
          refine ⟨{ L with state := .exhausted }, World.putObj_heap_same hlt, k0, rfl, k2, k3, k4, k5, fun i v hv => ?_⟩
          obtain ⟨x, hx, hr⟩ := k6 i v hv
          exact ⟨x, hx, hr.le (hupd.chg fun i hi => by rw [(hp2.inv.rho _ _ (hp2.step.le.rho _ _ hrho)).2.2.2.1] at hi; omega).le⟩)
        have hpp := (hp2u.trans q1).mono (r' := st.heap.length :: w1') (n' := nobody) (by simp) (by simp [nobody])
        have hfrc := hfr _ _ _ _ _ _ hc
        have hsit2 : Sit w0 B d X.nt pn gs ws Hs g2 (w2.putObj l (.loop { L with state := .exhausted })) { st with heap := hset H st.heap.length (.loop { lp' with state := .exhausted }), wr := st.heap.length :: w1' ++ st.wr } { a with defers := mark ++ a.defers } := by
          have hH2 : HG H := hfrc.good trivial hsit1.hg
          refine ⟨hpp.inv, q2 (EnvOK.step hpost.inv hp2.step hsit1.env), ?_, hs.size, ?_, hsit1.kept.post hpost.inv hpp, ?_, fun id lp e => ?_, hsit1.defs.step hpp.step, hsit1.pin⟩
          · simp only [hf]
            exact ⟨fun j id off h => (by cases h), fun j h => (by cases h)⟩
          · intro id lp hl
            rw [hget_hset (hget_lt hlp')] at hl
            split at hl
            · cases hl
              have := hH2 _ _ hlp'
              exact this
            · exact hH2 id lp hl
          · exact hsit1.hist.then hpp fun _ e => e.elim
          · obtain ⟨lp1, h1⟩ := hsit1.loops id lp e
            obtain ⟨lp2, h2⟩ := hfrc.loop id lp1 h1
            rw [hget_hset (hget_lt hlp')]
            split
            · exact ⟨_, rfl⟩
            · exact ⟨lp2, h2⟩
        refine ⟨L.pending, _, hend, ?_⟩
        generalize w2.putObj l (.loop { L with state := .exhausted }) = w4 at hsit2 ⊢
        rw [k2]
        split at h
        · rename_i hpn
          cases h
          rw [hpn]
          exact hQ _ _ _ hsit2 hf
        · rename_i e0 hpn
          cases h
          rw [hpn]
          cases e with
          | normal => exact hQ _ _ _ hsit2 hf
          | exit id => exact wpIn_exit (hQ _ _ _ hsit2 hf)
          | ret => exact wpIn_ret (hQ _ _ _ hsit2 hf)
  | .scope _, Q, st, e, st', h, _, _, g, w, a, hs, hf, hQ => by simp only [codeE] at h; cases h
  | .label _, Q, st, e, st', h, _, _, g, w, a, hs, hf, hQ => by simp only [codeE] at h; cases h
  | .goto _, Q, st, e, st', h, _, _, g, w, a, hs, hf, hQ => by simp only [codeE] at h; cases h
  | .refuse _, Q, st, e, st', h, _, _, g, w, a, hs, hf, hQ => by simp only [codeE] at h; cases h
end
end Go.Abs
end

section
/- What a call hands back: its results; what goes with the callee's own objects. -/
namespace Go.Abs
open Go
set_option linter.unusedSimpArgs false
set_option linter.unusedVariables false
set_option linter.unusedSectionVars false

/-! ### What is handed back leads to no late object -/
theorem noIdsL_split {n : Nat} : ∀ (a b : List AVal), noIdsL n (a ++ b) = true → noIdsL n a = true ∧ noIdsL n b = true := by
  intro a
  induction a with
  | nil => intro b h; exact ⟨rfl, h⟩
  | cons x a ih =>
    intro b h
    simp only [List.cons_append, noIdsL, Bool.and_eq_true] at h ⊢
    exact ⟨⟨h.1, (ih b h.2).1⟩, (ih b h.2).2⟩
theorem noIds_cells {n : Nat} {v : AVal} (h : noIdsL n v.cells = true) : noIds n v = true := by
  unfold AVal.cells at h
  split at h
  · simpa [noIds] using h
  · simp only [noIdsL, Bool.and_true] at h; exact h
theorem noIdsL_unflat {n : Nat} : ∀ {l : List AVal}, noIdsL n (l.flatMap AVal.cells) = true → noIdsL n l = true
  | [], _ => rfl
  | v :: l, h => by
    rw [List.flatMap_cons] at h
    obtain ⟨h1, h2⟩ := noIdsL_split _ _ h
    simp only [noIdsL, Bool.and_eq_true]
    exact ⟨noIds_cells h1, noIdsL_unflat h2⟩
theorem noIdsL_get {n : Nat} : ∀ {l : List AVal}, noIdsL n l = true → ∀ {j : Nat} {v : AVal}, l[j]? = some v → noIds n v = true
  | u :: l, h, j, v, hj => by
    simp only [noIdsL, Bool.and_eq_true] at h
    cases j with
    | zero => simp at hj; subst hj; exact h.1
    | succ j => exact noIdsL_get h.2 (by simpa using hj)
section low
variable {g : G} {w : World} {B : Nat} {H : Heap}
mutual
theorem RelV.ids (hi : Inv B g w H) : ∀ {v : AVal} {x : Value}, RelV g w v x → noIds H.length v = true
  | _, _, .bool _ => rfl
  | _, _, .int _ _ => rfl
  | _, _, .str _ => rfl
  | _, _, .ptrN => rfl
  | _, _, .ptr off hr => by simpa [noIds] using (hi.rho _ _ hr).1
  | _, _, .eptr off hl h1 hh hb => by simpa [noIds] using RelL.ids hi hl
  | _, _, .vecE own a cap ho hz => rfl
  | _, _, .vec own hk hl h1 hh hb hc ho hz => by
    have := RelL.ids hi hl
    simp only [noIds]
    exact noIdsL_unflat this
  | _, _, .mapN => rfl
  | _, _, .map hr => by simpa [noIds] using (hi.rho _ _ hr).1
  | _, _, @RelV.func _ _ fn fs cs xs ys hy h1 h2 => by
    have a1 := RelL.ids hi h1
    have a2 := RelL.ids hi h2
    cases fn with
    | yield l => exact absurd rfl (hy l)
    | _ => simp [noIds, a1, a2]
  | _, _, .yieldF hr => by simpa [noIds, noIdsL] using (hi.rho _ _ hr).1
  | _, _, .nilFunc => rfl
  | _, _, .agg hl h1 => by simpa [noIds] using RelL.ids hi hl
  | _, _, .tup hl => by simpa [noIds] using RelL.ids hi hl
  | _, _, .face t hv => by simpa [noIds] using RelV.ids hi hv
  | _, _, .nilFace => rfl
theorem RelL.ids (hi : Inv B g w H) : ∀ {v : List AVal} {x : List Value}, RelL g w v x → noIdsL H.length v = true
  | _, _, .nil => rfl
  | _, _, .cons h1 h2 => by
    have a1 := RelV.ids hi h1
    have a2 := RelL.ids hi h2
    simp [noIdsL, a1, a2]
end
theorem noIds_ro1 {n : Nat} {v : AVal} : noIds n (ro1 v) = noIds n v := by
  unfold ro1
  split <;> simp [noIds]

/-! ### The callee's own objects go -/
def G.cut (g : G) (n : Nat) : G := { g with rho := fun i => if i < n then g.rho i else none }
theorem le_cut {n : Nat} {v : AVal} {x : Value} (h : RelV g w v x) (hn : noIds n v = true) : RelV (g.cut n) w v x :=
  RelV.low (g := g) (g' := g.cut n) (fun id b hid hr => by simp only [G.cut]; rw [if_pos hid]; exact hr) (fun _ => Nat.le_refl _) h hn
theorem tip_cut {n : Nat} {h : Holder} {l : List AVal} {k : Nat} {x : Value} (t : TipOK g w h l k x) : TipOK (g.cut n) w h l k x := t
theorem hold_cut {n : Nat} {h : Holder} {v : AVal} {x : Value} (t : HoldOK g w h v x) (hn : noIds n v = true) : HoldOK (g.cut n) w h v x := by
  unfold HoldOK at *
  split
  · obtain ⟨a, cap, hx, t⟩ := t
    refine ⟨a, cap, hx, ?_⟩
    rcases t with t | ⟨hk, hc, b, o, vs, ha, how, hext, hu, hl, h1, hr, ht⟩
    · exact .inl t
    · exact .inr ⟨hk, hc, b, o, vs, ha, how, hext, hu, RelL.low (g := g) (g' := g.cut n) (fun id b hid hr => by simp only [G.cut]; rw [if_pos hid]; exact hr) (fun _ => Nat.le_refl _) hl (noIdsL_flat (by simpa [noIds] using hn)), h1, hr, ht⟩
  · exact ⟨le_cut t.1 hn, t.2⟩
  · exact le_cut (by simpa using t) hn
theorem res_cut {n d : Nat} {v : AVal} {x : Value} (t : ResOK g w d v x) (hn : noIds n v = true) : ResOK (g.cut n) w d v x := by
  unfold ResOK at *
  cases v with
  | tup vs =>
    rcases t with t | ⟨xs, e, hz, hc⟩
    · exact .inl t
    · refine .inr ⟨xs, e, hz, fun j u hj => ?_⟩
      obtain ⟨y, hy, hk⟩ := hc j u hj
      exact ⟨y, hy, hk.imp id fun hk => hold_cut hk (noIdsL_get (by simpa [noIds] using hn) hj)⟩
  | bor j => obtain ⟨l, o, h1, _⟩ := t; cases h1
  | sptr j p q => obtain ⟨l, o, _, _, _, _, _, h1, _⟩ := t; cases h1
  | _ => exact hold_slotP (hold_cut (SlotOK.hold t (by simp) (by simp) (by simp)) hn) ⟨by simp, by simp, by simp⟩

/-- an object all of whose values are old -/
def oldO (n : Nat) : AObj → Prop
  | .box cs => ∀ (j : Nat) (v : AVal), cs[j]? = some v → noIds n v = true
  | .map es s => ∀ (j : Nat) (e : AVal × AVal), es[j]? = some e → noIds n e.1 = true ∧ noIds n e.2 = true
  | .loop l => ∀ i v, eget l.env i = some v → noIds n v = true
  | .iter m _ _ _ => noIds n (.map m) = true
theorem oldO_of {n : Nat} {o : AObj} (h : noIdsO n (some o) = true) : oldO n o := by
  cases o with
  | box cs => exact fun j v hj => noIdsL_get (by simpa [noIdsO] using h) hj
  | map es s =>
    intro j e hj
    simp only [noIdsO, List.all_eq_true, Bool.and_eq_true] at h
    exact h e (List.mem_of_getElem? hj)
  | loop l =>
    intro i v hv
    simp only [noIdsO, List.all_eq_true] at h
    exact h _ (eget_mem hv)
  | iter m since seen last => exact h
theorem oldO_rel {id b : Nat} {o : AObj} (hi : Inv B g w H) (h : ObjOK g w id b o) : oldO H.length o := by
  cases o with
  | box cs =>
    obtain ⟨c, e, fr, _, _, _, h4⟩ := h
    intro j v hj
    obtain ⟨x, _, hc⟩ := h4 j v hj
    exact hc.2.1.ids hi
  | map es s =>
    obtain ⟨ents, clock, _, _, h3⟩ := h
    intro j e hj
    obtain ⟨m, _, k1, k2⟩ := h3 j e hj
    exact ⟨k1.ids hi, k2.ids hi⟩
  | iter m since seen last =>
    obtain ⟨q, _, h2⟩ := h
    exact h2.ids hi
  | loop l =>
    obtain ⟨L, _, _, _, _, _, _, _, h8⟩ := h
    intro i v hv
    obtain ⟨x, _, k⟩ := h8 i v hv
    exact k.ids hi
theorem oldO_sim {n : Nat} {o o' : AObj} (h : simO (some o') (some o)) (k : oldO n o) : oldO n o' := by
  rcases h.cases with ⟨a, b, e1, e2, h⟩ | e
  · cases e1; cases e2
    intro j v hj
    have h1 : (a.map ro1)[j]? = some (ro1 v) := by rw [List.getElem?_map, hj]; rfl
    rw [h, List.getElem?_map] at h1
    obtain ⟨u, hu, hr⟩ := Option.map_eq_some_iff.1 h1
    rw [← noIds_ro1, ← hr, noIds_ro1]
    exact k j u hu
  · cases e; exact k
theorem obj_cut {n id b : Nat} {o : AObj} (h : ObjOK g w id b o) (k : oldO n o) : ObjOK (g.cut n) w id b o := by
  cases o with
  | box cs =>
    obtain ⟨c, e, fr, h1, h2, h3, h4⟩ := h
    refine ⟨c, e, fr, h1, h2, h3, fun j v hj => ?_⟩
    obtain ⟨x, hx, hc⟩ := h4 j v hj
    exact ⟨x, hx, hc.1, le_cut hc.2.1 (k j v hj), hc.2.2⟩
  | map es s =>
    obtain ⟨ents, clock, h1, h2, h3⟩ := h
    refine ⟨ents, clock, h1, h2, fun j e hj => ?_⟩
    obtain ⟨m, hm, k1, k2⟩ := h3 j e hj
    exact ⟨m, hm, le_cut k1 (k j e hj).1, le_cut k2 (k j e hj).2⟩
  | iter m since seen last =>
    obtain ⟨q, h1, h2⟩ := h
    exact ⟨q, h1, le_cut h2 k⟩
  | loop l =>
    obtain ⟨L, h1, h0, h2, h3, h5, h6, h7, h8⟩ := h
    refine ⟨L, h1, h0, h2, h3, h5, h6, h7, fun i v hv => ?_⟩
    obtain ⟨x, hx, kk⟩ := h8 i v hv
    exact ⟨x, hx, le_cut kk (k i v hv)⟩
end low

section
variable {P : Program} {w0 ws w : World} {B d : Nat} {gs g : G} {Hs : Heap}
theorem post_filter {w' : World} {g' : G} {H' : Heap} {wr : List Nat} (h : Post d B gs ws Hs g' w' H' wr nobody) (hi : Inv B gs ws Hs) : Post d B gs ws Hs g' w' H' (wr.filter fun i => decide (i < Hs.length)) nobody :=
  ⟨h.step, h.inv, h.len, h.pend, fun id b hr hw => h.kept id b hr fun e => hw (by simp [e, (hi.rho id b hr).1])⟩
/-- WHAT A CALL HANDS BACK. -/
theorem end_ok {v v' : AVal} {x : Value} {st : St} {H' : Heap} {wr : List Nat} (hi : Inv B gs ws Hs) (hp : Post d B gs ws Hs g w st.heap st.wr nobody) (hfr : Fr True Hs [] st.heap st.wr) (hv : ResOK g w d v x) (he : endE Hs.length v st = (v', H', wr)) :
    ∃ g', Post d B gs ws Hs g' w H' wr nobody ∧ ResOK g' w d v' x := by
  unfold endE at he
  simp only [] at he
  split at he
  · rename_i hc
    cases he
    simp only [Bool.and_eq_true] at hc
    have hlen := hfr.len
    -- the objects that stay
    have old : ∀ id o b, id < Hs.length → hget st.heap id = some o → g.rho id = some b → oldO Hs.length o := by
      intro id o b hid ho hr
      by_cases hw : id ∈ st.wr
      · have := List.all_eq_true.1 hc.2 id (by simp [hw, hid])
        rw [ho] at this
        exact oldO_of this
      · have hs := hfr.sim id hid hw
        rw [ho] at hs
        -- it was there
        cases hg0 : gs.rho id with
        | none =>
          have := (hp.pend id hid hg0 fun e => e.elim).1
          rw [this] at hr; cases hr
        | some b0 =>
          cases ho0 : hget Hs id with
          | none => rw [ho0] at hs; simp [simO] at hs
          | some o0 =>
            rw [ho0] at hs
            exact oldO_sim hs (oldO_rel hi (hi.obj id o0 b0 ho0 hg0))
    refine ⟨g.cut Hs.length, ⟨⟨⟨fun id b hr => ?_, hp.step.le.ext, hp.step.le.cell⟩, hp.step.size, hp.step.os, hp.step.tape, hp.step.output, fun b hb hr hf => ?_⟩, ?_, ?_, fun id hl hr hb => ?_, fun id b hr hw => ?_⟩, res_cut hv hc.1⟩
    · simp only [G.cut]
      rw [if_pos (hi.rho id b hr).1]
      exact hp.step.le.rho id b hr
    · obtain ⟨k1, k2, k3, k4⟩ := hp.step.keep b hb hr hf
      refine ⟨k1, k2, k3, fun id e => ?_⟩
      simp only [G.cut] at e
      split at e
      · exact k4 id e
      · cases e
    · exact {
        rho := fun id b hr => by
          simp only [G.cut] at hr
          split at hr
          · rename_i hid
            have := hp.inv.rho id b hr
            exact ⟨by rw [List.length_drop]; omega, this.2⟩
          · cases hr
        inj := fun i j b h1 h2 => by
          simp only [G.cut] at h1 h2
          split at h1 <;> split at h2 <;> first | exact hp.inv.inj i j b h1 h2 | cases h1 | cases h2
        ext := hp.inv.ext
        ow := hp.inv.ow
        obj := fun id o b ho hr => by
          simp only [G.cut] at hr
          split at hr
          · rename_i hid
            rw [hget_drop hlen, if_pos hid] at ho
            exact obj_cut (hp.inv.obj id o b ho hr) (old id o b hid ho hr)
          · cases hr
        base := hp.inv.base }
    · rw [List.length_drop]; omega
    · obtain ⟨k1, k2⟩ := hp.pend id hl hr hb
      refine ⟨by simp only [G.cut]; rw [if_pos hl]; exact k1, ?_⟩
      rw [hget_drop hlen, if_pos hl]
      exact k2
    · exact (post_filter hp hi).kept id b hr hw
  · cases he
    exact ⟨g, post_filter hp hi, hv⟩

/-! ### Results -/
theorem nodupN_iff : ∀ {l : List Nat}, nodupN l = true → l.Nodup
  | [], _ => .nil
  | a :: r, h => by
    simp only [nodupN, Bool.and_eq_true, Bool.not_eq_true'] at h
    refine List.nodup_cons.2 ⟨fun hm => ?_, nodupN_iff h.2⟩
    rw [hasN_iff.2 hm] at h; cases h.1
/-- a result variable's value, and whose it is -/
theorem result_ok {st : St} {a : Act} (hi : Inv B g w st.heap) (he : EnvOK g w d st.env (tmOf a)) {rv : ResultVar} {v : AVal} (h : resE P st rv = some v) :
    ∃ x, ((match rv with | .tmp t => pure (a.tmps.getD t undef) | .cell c t => do loadVar t (← asAddr (a.tmps.getD c undef))) : Sem Value).run P w = .ok x w ∧ isTupN v = false ∧
      ((∃ t, rv = .tmp t ∧ CompOK g w (.slot d t) v x) ∨ (plainV v ∧ ∀ h, HoldOK g w h v x)) := by
  unfold resE at h
  split at h
  · rename_i t
    split at h
    · cases h
    · cases h
    · cases h
    · rename_i o v0 h1 h2 h3
      obtain ⟨x, hx, hs⟩ := he t v h
      have hx : a.tmps[t]? = some x := hx
      refine ⟨x, by simp [Array.getD_eq_getD_getElem?, hx], ?_, .inl ⟨t, rfl, ?_⟩⟩
      · cases v with
        | tup vs =>
          cases vs with
          | nil => rfl
          | cons u us => exact absurd h (h3 u us)
        | _ => rfl
      · cases v with
        | tup vs =>
          cases vs with
          | nil => exact .inl rfl
          | cons u us => exact absurd h (h3 u us)
        | bor j => exact absurd h (h1 j)
        | sptr j p q => exact absurd h (h2 j p q)
        | _ => exact .inr (SlotOK.hold hs (by simp) (by simp) (by simp))
  · rename_i c t
    split at h
    case h_2 => cases h
    rename_i id off hc
    split at h
    case h_2 => cases h
    rename_i cs hg
    obtain ⟨x, hx, hs⟩ := he c _ hc
    have hx : a.tmps[c]? = some x := hx
    have hr : RelV g w (.ptr (some (id, off))) x := by simpa [SlotOK, HoldOK] using hs
    cases hr with
    | ptr _ hrho =>
      rename_i b
      obtain ⟨cc, el, fr, hb, _, hsz, hl, h1, hh⟩ := box_cells (hi.obj _ _ _ hg hrho)
      obtain ⟨z, hz, hrz, hnt, hro, _⟩ := loadVar_ok (P := P) hl h1 hh h
      rw [Nat.zero_add] at hz
      have hp : plainV v := ⟨hrz.noTup hnt, hrz.noBor.1, hrz.noBor.2⟩
      refine ⟨z, by simp [Array.getD_eq_getD_getElem?, hx, asAddr, hz], ?_, .inr ⟨hp, fun h => ?_⟩⟩
      · cases v with
        | tup vs => exact absurd rfl (hp.1 vs)
        | _ => rfl
      · refine hrz.hold ?_ ?_
        · intro l k e; rw [← hro] at e; exact ro_flags.1 l k e
        · intro l k e; rw [← hro] at e; exact ro_flags.2 l k e
end
end Go.Abs
end

section
/- Calls: the evaluator's answer is the machine's. -/
namespace Go.Abs
open Go
set_option linter.unusedSimpArgs false
set_option linter.unusedVariables false
set_option linter.unusedSectionVars false

section
variable {P : Program} {w0 ws w : World} {B d nt : Nat} {pn : Option Value} {gs g : G} {Hs : Heap}

/-! ### Results -/
theorem hold_give1 {h : Holder} {v : AVal} {x : Value} (t : HoldOK g w h v x) : HoldOK g w h (give1 v) x := by
  unfold give1
  split
  · rename_i cs
    have hr : RelV g w (.agg cs) x := t
    exact hr.strip
  · exact t
theorem give1_plain {v : AVal} (h : plainV v) : plainV (give1 v) := by
  unfold give1
  split
  · exact ⟨by simp [strip], by simp [strip], by simp [strip]⟩
  · exact h
def resF (a : Act) : ResultVar → Sem Value := fun rv => match rv with
  | .tmp t => pure (a.tmps.getD t undef)
  | .cell c t => do loadVar t (← asAddr (a.tmps.getD c undef))
def ResWhose (g : G) (w : World) (d : Nat) (rv : ResultVar) (v : AVal) (x : Value) : Prop :=
  isTupN v = false ∧ ((∃ t, rv = .tmp t ∧ CompOK g w (.slot d t) v x) ∨ (plainV v ∧ ∀ h, HoldOK g w h v x))
theorem results_list {st : St} {a : Act} (hi : Inv B g w st.heap) (he : EnvOK g w d st.env (tmOf a)) : ∀ {rvs : List ResultVar} {vs : List AVal}, mapO (resE P st) rvs = some vs →
    ∃ xs : List Value, vs.length = xs.length ∧ vs.length = rvs.length ∧ (∀ (j : Nat) (v : AVal) (rv : ResultVar), vs[j]? = some v → rvs[j]? = some rv → ∃ x, xs[j]? = some x ∧ ResWhose g w d rv v x) ∧ (rvs.mapM (resF a)).run P w = .ok xs w
  | [], vs, h => by
    simp only [mapO] at h; cases h
    exact ⟨[], rfl, rfl, fun j v rv h => by simp at h, rfl⟩
  | rv :: rvs, vs, h => by
    simp only [mapO] at h
    split at h
    · rename_i v us hv hus
      cases h
      obtain ⟨xs, h1, h2, h3, h4⟩ := results_list hi he hus
      obtain ⟨x, k1, k2, k3⟩ := result_ok (P := P) hi he hv
      refine ⟨x :: xs, by simp [h1], by simp [h2], fun j v' rv' hj hj' => ?_, ?_⟩
      · cases j with
        | zero => simp at hj hj'; subst hj; subst hj'; exact ⟨x, rfl, k2, k3⟩
        | succ j => exact h3 j v' rv' (by simpa using hj) (by simpa using hj')
      · have k1' : (resF a rv).run P w = .ok x w := k1
        rw [List.mapM_cons]
        simp [k1', h4]
    · cases h
def tupR : List Value → Value
  | [x] => x
  | xs => .tuple xs.toArray
theorem results_run {fn : Func} {a : Act} {xs : List Value} (h : (fn.results.toList.mapM (resF a)).run P w = .ok xs w) : (results fn a.tmps).run P w = .ok (tupR xs) w := by
  unfold results
  change Sem.run P (do let vs ← Array.mapM (resF a) fn.results; pure (if h : vs.size = 1 then vs[0] else Value.tuple vs)) w = _
  rw [Array.mapM_eq_mapM_toList]
  simp only [map_eq_pure_bind, Sem.run_bind, h, Result.andThen_ok, Sem.run_pure]
  congr 1
  clear h
  match xs with
  | [] => rfl
  | [x] => rfl
  | x :: y :: r => simp [tupR]

def idxR : List ResultVar → Nat → Option Nat
  | [], _ => none
  | .tmp s :: r, t => if s = t then some 0 else (idxR r t).map (· + 1)
  | .cell .. :: r, t => (idxR r t).map (· + 1)
def slotsR (l : List ResultVar) : List Nat := l.filterMap fun | .tmp t => some t | _ => none
theorem mem_slotsR {l : List ResultVar} {j t : Nat} (h : l[j]? = some (.tmp t)) : t ∈ slotsR l :=
  List.mem_filterMap.2 ⟨_, List.mem_of_getElem? h, rfl⟩
theorem idxR_of : ∀ {l : List ResultVar}, (slotsR l).Nodup → ∀ {j t : Nat}, l[j]? = some (.tmp t) → idxR l t = some j
  | .tmp s :: r, hn, j, t, h => by
    have hn' : (s :: slotsR r).Nodup := hn
    obtain ⟨n1, n2⟩ := List.nodup_cons.1 hn'
    cases j with
    | zero => simp at h; subst h; simp [idxR]
    | succ j =>
      have h' : r[j]? = some (.tmp t) := by simpa using h
      have hne : s ≠ t := fun e => n1 (e ▸ mem_slotsR h')
      simp only [idxR]
      rw [if_neg hne, idxR_of n2 h']
      rfl
  | .cell a b :: r, hn, j, t, h => by
    cases j with
    | zero => simp at h
    | succ j =>
      simp only [idxR]
      rw [idxR_of (show (slotsR r).Nodup from hn) (by simpa using h)]
      rfl
def outH (d : Nat) (l : List ResultVar) : Holder → Holder := fun o => match o with
  | .slot d' i => if d' = d then (match idxR l i with | some j => .comp d 0 j | none => .slot d' i) else .slot d' i
  | o => o
def outH1 (d : Nat) : Option ResultVar → Holder → Holder
  | some (.tmp t) => give1to (.slot d t) (.slot d 0)
  | _ => id
theorem outH1_cell {rv : Option ResultVar} (id off : Nat) : outH1 d rv (.cell id off) = .cell id off := by
  match rv with
  | some (.tmp t) => exact give_ne (by simp)
  | some (.cell c t) => rfl
  | none => rfl
theorem outH1_foreign {rv : Option ResultVar} : ∀ o, Foreign d (some o) → outH1 d rv o = o := by
  match rv with
  | some (.tmp t) => exact give_foreign not_foreign_slot
  | some (.cell c t) => exact fun _ _ => rfl
  | none => exact fun _ _ => rfl
theorem results_ok {st : St} {a : Act} {fn : Func} {vs : List AVal} (hi : Inv B g w st.heap) (he : EnvOK g w d st.env (tmOf a)) (hn : nodupN (resSlots fn) = true) (h : mapO (resE P st) fn.results.toList = some vs) :
    ∃ x g', (results fn a.tmps).run P w = .ok x w ∧ Post d B g w st.heap g' w st.heap [] nobody ∧ ResOK g' w d (give (tupA vs)) x := by
  obtain ⟨xs, h1, h2, h3, h4⟩ := results_list (P := P) hi he h
  have hrun := results_run h4
  have many : ∀ us, us = vs → us.length ≠ 1 → ∃ g', Post d B g w st.heap g' w st.heap [] nobody ∧ ResOK g' w d (give (.tup us)) (.tuple xs.toArray) := by
    rintro us rfl hlen
    have ht := turn_remap (σ := outH d fn.results.toList) (d := d) hi (fun id off => rfl) (fun o ho => by
      rcases ho with e | ⟨d', i, hd, e | ⟨j, e⟩⟩
      · cases e
      · cases e; simp only [outH]; rw [if_neg (by omega)]
      · cases e; rfl)
    refine ⟨_, ht.post, .inr ⟨xs.toArray, rfl, by simp [h1], fun j v hj => ?_⟩⟩
    rw [List.getElem?_map] at hj
    obtain ⟨v0, hv0, rfl⟩ := Option.map_eq_some_iff.1 hj
    have hlt : j < fn.results.toList.length := by
      have := (List.getElem?_eq_some_iff.1 hv0).1; omega
    obtain ⟨x, hx, htn, hw⟩ := h3 j v0 _ hv0 (List.getElem?_eq_getElem hlt)
    refine ⟨x, by simpa using hx, ?_⟩
    rcases hw with ⟨t, ht', hc⟩ | ⟨hp, hall⟩
    · rcases hc with rfl | hc
      · exact .inl rfl
      · have := hold_give1 (hc.remap (σ := outH d fn.results.toList))
        have e3 : outH d fn.results.toList (.slot d t) = .comp d 0 j := by
          simp only [outH, if_true]
          rw [idxR_of (nodupN_iff hn) (by rw [List.getElem?_eq_getElem hlt, ht'])]
        rw [e3] at this
        exact .inr this
    · have := hold_give1 ((hall (.comp d 0 j)).remap (σ := outH d fn.results.toList))
      exact .inr this
  clear h h4
  match vs, xs, h1, h2, h3, hrun, many with
  | [v], [x], _, h2, h3, hrun, _ =>
    have hlt : 0 < fn.results.toList.length := by rw [← h2]; simp
    obtain ⟨x', hx', htn, hw⟩ := h3 0 v _ rfl (List.getElem?_eq_getElem hlt)
    simp at hx'; subst hx'
    have ht := turn_remap (σ := outH1 d (some fn.results.toList[0])) (d := d) hi outH1_cell outH1_foreign
    refine ⟨x, _, hrun, ht.post, ?_⟩
    have key : ∀ (h : Holder), outH1 d (some fn.results.toList[0]) h = .slot d 0 → HoldOK g w h v x → plainV v → ResOK (g.remap (outH1 d (some fn.results.toList[0]))) w d (give v) x := by
      intro h hh hold hp
      have h5 := hold_give1 (hold.remap (σ := outH1 d (some fn.results.toList[0])))
      rw [hh] at h5
      have e3 : give v = give1 v := by
        cases v with
        | tup us => exact absurd rfl (hp.1 us)
        | _ => rfl
      rw [e3]
      exact hold_slotP h5 (give1_plain hp)
    rcases hw with ⟨t, ht', hc⟩ | ⟨hp, hall⟩
    · by_cases hv0 : v = .tup []
      · subst hv0; exact .inl rfl
      rcases hc with rfl | hc
      · exact .inl rfl
      · refine key (.slot d t) ?_ hc ?_
        · rw [ht']; exact give_same _ _
        · cases v with
          | tup us =>
            cases us with
            | nil => exact absurd rfl hv0
            | cons _ _ => cases htn
          | bor j => cases (show RelV g w (.bor j) x from hc)
          | sptr j p q => cases (show RelV g w (.sptr j p q) x from hc)
          | _ => exact ⟨by simp, by simp, by simp⟩
    · have hcases : (∃ t, fn.results.toList[0] = .tmp t) ∨ ∃ c t, fn.results.toList[0] = .cell c t := by
        cases fn.results.toList[0] with
        | tmp t => exact .inl ⟨t, rfl⟩
        | cell c t => exact .inr ⟨c, t, rfl⟩
      rcases hcases with ⟨t, hrv⟩ | ⟨c, t, hrv⟩
      · exact key (.slot d t) (by rw [hrv]; exact give_same _ _) (hall _) hp
      · exact key (.slot d 0) (by rw [hrv]; rfl) (hall _) hp
  | [], [], _, _, _, hrun, many =>
    obtain ⟨g', k1, k2⟩ := many [] rfl (by simp)
    exact ⟨_, g', hrun, k1, k2⟩
  | v :: v2 :: vs, x :: x2 :: xs, _, _, _, hrun, many =>
    obtain ⟨g', k1, k2⟩ := many _ rfl (by simp)
    exact ⟨_, g', hrun, k1, k2⟩
end
end Go.Abs
end

section
/- Calls: the evaluator's answer is the machine's. -/
namespace Go.Abs
open Go
set_option linter.unusedSimpArgs false
set_option linter.unusedVariables false
set_option linter.unusedSectionVars false

section
variable {P : Program} {w0 ws w : World} {B d nt : Nat} {pn : Option Value} {gs g : G} {Hs : Heap} {st : St} {a : Act}

/-- a range statement's block for deferred calls is shut -/
theorem Sit.touch {w' : World} {b : Nat} {o o' : Obj} (h : Sit w0 B d nt pn gs ws Hs g w st { a with defers := [] }) (hB : B ≤ ws.heap.size) (hb : ws.heap.size ≤ b) (how : g.ow b = none) (hrho : ∀ id, g.rho id ≠ some b) (u : Upd b w w')
    (ho : w.heap[b]? = some o) (ho' : w'.heap[b]? = some o') (hc : ∀ c e f, o ≠ .cells c e f) (hc' : ∀ c e f, o' ≠ .cells c e f) : Sit w0 B d nt pn gs ws Hs g w' st { a with defers := [] } := by
  have hcell : ∀ i, w'.cell? ⟨b, i, none⟩ = w.cell? ⟨b, i, none⟩ := by
    intro i
    simp only [World.cell?, ho, ho']
    split <;> split <;> simp_all
  have chg : Chg b g w g w' := u.chg fun i _ => hcell i
  have hle : Le g w g w' := chg.le
  have hinv : Inv B g w' st.heap := {
    rho := fun id b' hr => by have := h.inv.rho id b' hr; rw [u.size]; exact this
    inj := h.inv.inj
    ext := fun b' hb' => by rw [u.size]; exact h.inv.ext b' hb'
    ow := fun b' o ho => by rw [u.size]; exact h.inv.ow b' o ho
    obj := fun id ob b' hg hr => by
      have hne : b' ≠ b := by rintro rfl; exact hrho id hr
      exact (h.inv.obj id ob b' hg hr).chg h.inv chg (u.oth b' hne) fun off e => by rw [how] at e; cases e
    base := by rw [u.size]; exact h.inv.base }
  refine ⟨hinv, h.env.chg h.inv chg (fun i e => by rw [how] at e; cases e) (fun i j e => by rw [how] at e; cases e), ⟨fun j id off hj => ?_, h.facts.un⟩, h.size, h.hg, ⟨fun b' hb' => ?_, u.os.trans h.kept.os, u.tape.trans h.kept.tape, u.output.trans h.kept.output⟩, ?_, h.loops, ⟨[], .nil, rfl, by simp⟩, h.pin⟩
  · obtain ⟨b', c, e, fr, x, h1, h2, h3, h4⟩ := h.facts.cell j id off hj
    exact ⟨b', c, e, fr, x, h1, (u.oth b' (by rintro rfl; exact hrho id h1)).trans h2, h3, h4⟩
  · exact (u.oth b' (by omega)).trans (h.kept.heap b' hb')
  · have hp := h.hist
    refine ⟨⟨hp.step.le.trans hle, by rw [u.size]; exact hp.step.size, u.os.trans hp.step.os, u.tape.trans hp.step.tape, u.output.trans hp.step.output, fun b' hb' hr hf => ?_⟩, hinv, hp.len, hp.pend, fun id b' hr hw => ?_⟩
    · obtain ⟨k1, k2, k3, k4⟩ := hp.step.keep b' hb' hr hf
      exact ⟨(u.oth b' (by omega)).trans k1, k2, k3, k4⟩
    · have hne : b' ≠ b := by rintro rfl; exact hrho id (hp.step.le.rho id _ hr)
      exact (u.oth b' hne).trans (hp.kept id b' hr hw)

/-- A FRAME LEAVES. -/
theorem leave_ok {fn : Func} {R : Ending → World → Prop} (hB : B ≤ ws.heap.size) (fin : ∀ w, Sit w0 B d nt pn gs ws Hs g w st { a with defers := [] } → ∃ v, (results fn a.tmps).run P w = .ok v w ∧ R (.returned v) w) : ∀ (bs : List Nat) (w : World), bs.Nodup →
    (∀ b ∈ bs, ws.heap.size ≤ b ∧ b < w.heap.size ∧ w.heap[b]? = some (.deferred (some [])) ∧ g.ow b = none ∧ ∀ id, g.rho id ≠ some b) → Sit w0 B d nt pn gs ws Hs g w st { a with defers := [] } →
    LeavesInM (FW none) 0 P fn a.tmps R (bs.map fun b => { target := .collected b, args := #[] }) .returning w := by
  intro bs
  induction bs with
  | nil => intro w _ _ hs; exact fin w hs
  | cons b bs ih =>
    intro w hnd hb hs
    obtain ⟨n1, n2⟩ := List.nodup_cons.1 hnd
    obtain ⟨k1, k2, k3, k4, k5⟩ := hb b (by simp)
    have hu : Upd b w (w.putObj b (.deferred none)) := ⟨fun b' hb' => World.putObj_heap_other hb', by simp, rfl, rfl, rfl⟩
    refine ⟨by simp, .inl ⟨b, w.putObj b (.deferred none), rfl, run_takeDeferred k3, ih _ n2 (fun b' hb' => ?_) (hs.touch hB k1 k4 k5 hu k3 (World.putObj_heap_same k2) (by simp) (by simp))⟩⟩
    obtain ⟨m1, m2, m3, m4, m5⟩ := hb b' (List.mem_cons_of_mem _ hb')
    have hne : b' ≠ b := by rintro rfl; exact n1 hb'
    exact ⟨m1, by rw [hu.size]; exact m2, (hu.oth b' hne).trans m3, m4, m5⟩

/-- what is asked of the functions that are taken by a contract -/
structure OraOK (P : Program) (w0 : World) (B : Nat) (ora : FuncId → List AVal → Heap → Option (AVal × Heap × List Nat)) : Prop where
  calls : ∀ f args H v H' wr, ora f args H = some (v, H', wr) → ∀ g w d xs, Inv B g w H → HG H → Kept B w0 w → ArgsOK g w (d + 1) args xs →
    (∃ fn, P.funcs[f]? = some fn ∧ fn.body.isNone = false ∧ (fn.name == "runtime.NumGoroutine") = false) ∧ CallsIn (FW none) 0 P f xs.toArray w (CallR B d g w H v H' wr)
  fr : ∀ f args H v H' wr, ora f args H = some (v, H', wr) → Fr True H [] H' wr

theorem eget_enum : ∀ (args : List AVal) (n i : Nat), eget (enumFrom' n args) i = if n ≤ i then args[i - n]? else none
  | [], n, i => by simp [enumFrom', eget]
  | v :: r, n, i => by
    simp only [enumFrom', eget]
    rw [eget_enum r (n + 1) i]
    by_cases h1 : n = i
    · subst h1; simp
    · rw [if_neg h1]
      by_cases h2 : n ≤ i
      · rw [if_pos h2, if_pos (by omega), show i - n = (i - (n + 1)) + 1 by omega, List.getElem?_cons_succ]
      · rw [if_neg h2, if_neg (by omega)]
theorem slot_any {env : Env} {tm : Nat → Option Value} {i : Nat} {v : AVal} {x : Value} (h : SlotOK g w d [] (fun _ => none) i x v) : SlotOK g w d env tm i x v := by
  refine h.congr fun j hj => ?_
  rcases hj with rfl | ⟨p, q, rfl⟩
  · obtain ⟨l, o, h1, _⟩ := h; cases h1
  · obtain ⟨l, o, _, _, _, _, _, h1, _⟩ := h; cases h1

/-- a round's slots -/
theorem round_slots : ∀ (ps : List Nat) (args : List AVal) (xs : List Value) (env : Env) (tmps : Array Value), args.length = xs.length → (∀ p ∈ ps, p < tmps.size) →
    (∀ i v, eget env i = some v → ∃ x, tmps[i]? = some x ∧ SlotOK g w d [] (fun _ => none) i x v) → (∀ (j : Nat) (v : AVal), args[j]? = some v → ∃ x, xs[j]? = some x ∧ ∀ i, SlotOK g w d [] (fun _ => none) i x v) →
    (∀ i v, eget (esets env (ps.zip args)) i = some v → ∃ x, ((ps.zip xs).foldl (fun (tmps : Array Value) (p : Nat × Value) => tmps.setIfInBounds p.1 p.2) tmps)[i]? = some x ∧ SlotOK g w d [] (fun _ => none) i x v) ∧
      ((ps.zip xs).foldl (fun (tmps : Array Value) (p : Nat × Value) => tmps.setIfInBounds p.1 p.2) tmps).size = tmps.size
  | [], args, xs, env, tmps, _, _, h, _ => ⟨h, rfl⟩
  | p :: ps, [], [], env, tmps, _, _, h, _ => ⟨h, rfl⟩
  | p :: ps, v :: args, x :: xs, env, tmps, hl, hp, h, ha => by
    simp only [List.zip_cons_cons, esets, List.foldl_cons]
    obtain ⟨x0, hx0, hs0⟩ := ha 0 v rfl
    simp at hx0; subst hx0
    have hps := hp p (by simp)
    obtain ⟨k1, k2⟩ := round_slots ps args xs (eset env p v) (tmps.setIfInBounds p x) (by simpa using hl) (fun q hq => by simpa using hp q (List.mem_cons_of_mem _ hq)) (fun i u hu => by
      rw [eget_eset] at hu
      split at hu
      · rename_i e; subst e; cases hu
        exact ⟨x, by simp [hps], hs0 _⟩
      · rename_i e
        obtain ⟨y, hy, hs⟩ := h i u hu
        exact ⟨y, by rw [Array.getElem?_setIfInBounds_ne e]; exact hy, hs⟩) (fun j u hj => by
      obtain ⟨y, hy, hs⟩ := ha (j + 1) u (by simpa using hj)
      exact ⟨y, by simpa using hy, hs⟩)
    exact ⟨k1, by rw [k2]; simp⟩
  | p :: ps, [], x :: xs, env, tmps, hl, _, _, _ => by simp at hl
  | p :: ps, v :: args, [], env, tmps, hl, _, _, _ => by simp at hl

theorem slot_pass {v : AVal} {x : Value} {i : Nat} (h : SlotOK g w d [] (fun _ => none) i x v) (hp : passB v = true) (j : Nat) : SlotOK g w d [] (fun _ => none) j x v := by
  cases v with
  | tup vs =>
    cases vs with
    | nil => exact .inl rfl
    | cons _ _ => cases hp
  | bor j => obtain ⟨l, o, h1, _⟩ := h; cases h1
  | sptr j p q => obtain ⟨l, o, _, _, _, _, _, h1, _⟩ := h; cases h1
  | vec l o =>
    have h1 := SlotOK.hold h (by simp) (by simp) (by simp)
    have hr : RelV g w (.vec l o) x := by
      cases o with
      | ro => exact h1
      | nul => exact h1
      | tip k => exact h1.1
      | ex k => cases hp
    refine hold_slotP (hr.hold ?_ ?_) ⟨by simp, by simp, by simp⟩
    · intro l' k e; cases e; cases hp
    · intro l' k e; cases e; cases hp
  | _ =>
    have h1 := SlotOK.hold h (by simp) (by simp) (by simp)
    exact hold_slotP (RelV.hold h1 (by simp) (by simp)) ⟨by simp, by simp, by simp⟩

theorem rel_pass {v : AVal} {x : Value} (h : RelV g w v x) (hp : passB v = true) (j : Nat) : SlotOK g w d [] (fun _ => none) j x v := by
  cases v with
  | tup vs =>
    cases vs with
    | nil => exact .inl rfl
    | cons _ _ => cases hp
  | bor j => cases h
  | sptr j p q => cases h
  | vec l o =>
    refine hold_slotP (h.hold ?_ ?_) ⟨by simp, by simp, by simp⟩
    · intro l' k e; cases e; cases hp
    · intro l' k e; cases e; cases hp
  | _ => exact hold_slotP (RelV.hold h (by simp) (by simp)) ⟨by simp, by simp, by simp⟩
/-- THE EVALUATOR's CALLS ARE THE MACHINE's. -/
theorem call_ok (hP : progGood P = true) (hint : FuncId → Hint) (takes : FuncId → List Nat) {ora : FuncId → List AVal → Heap → Option (AVal × Heap × List Nat)} (hora : OraOK P w0 B ora) : ∀ n, CallOK P w0 B (lentF takes) (callE P hint takes ora n) := by
  intro n
  induction n with
  | zero => intro f args H v H' wr h; simp [callE] at h
  | succ n ih =>
    intro f args H v H' wr h g w d xs hi hg hk hargs
    have hfr := call_fr hP hint takes ora hora.fr n
    cases f with
    | func f =>
      simp only [callE] at h
      split at h
      · rename_i r hr
        cases h
        split at hr
        · cases hr
        · rename_i hl
          have hl' : lentF takes (.func f) = false := by simpa [lentF] using hl
          simp only [lentArg, hl', Bool.false_eq_true, if_false]
          exact hora.calls f args H v H' wr hr g w d xs hi hg hk hargs
      · split at h
        case h_2 => cases h
        rename_i fn hfn
        split at h
        case h_2 => cases h
        rename_i body hb
        have hgb : goodCode fn.ntmps body = true ∧ (fn.name == "runtime.NumGoroutine") = false := by
          have := List.all_eq_true.1 hP fn (by simpa using Array.mem_of_getElem? hfn)
          rw [hb] at this
          simp only [Bool.and_eq_true, Bool.not_eq_true'] at this
          exact this
        split at h
        · cases h
        rename_i hlend
        refine ⟨⟨fn, hfn, by rw [hb]; rfl, hgb.2⟩, ?_⟩
        have hpin : (lentArg (lentF takes) (.func f) xs).isSome = true → noDst0 body = true := by
          intro hp
          unfold lentArg at hp
          split at hp
          · rename_i hl
            have hl' : hasN (takes f) lentN = true := hl
            rw [hl'] at hlend
            simp only [Bool.true_and, Bool.or_eq_true, Bool.not_eq_true', not_or] at hlend
            simpa using hlend.1
          · cases hp
        have hbase := hi.base
        -- the frame's first situation
        have hsit : Sit w0 B (d + 1) fn.ntmps (lentArg (lentF takes) (.func f) xs) g w H g w { env := enumFrom' 0 args, facts := [], heap := H, wr := [] } { tmps := xs.toArray ++ Array.replicate (fn.ntmps - xs.toArray.size) undef, defers := [] } := by
          refine ⟨hi, fun i u hu => ?_, ⟨fun j id off e => (by cases e), fun j e => (by cases e)⟩, ?_, hg, hk, .refl hi, fun id lp e => ⟨lp, e⟩, ⟨[], .nil, rfl, by simp⟩, fun x hx => ?_⟩
          · simp only [eget_enum, Nat.zero_le, if_true, Nat.sub_zero] at hu
            obtain ⟨x, hx, hs⟩ := hargs.2 i u hu
            refine ⟨x, ?_, slot_any hs⟩
            have hlt : i < xs.length := (List.getElem?_eq_some_iff.1 hx).1
            simp only [tmOf]
            rw [Array.getElem?_append_left (by simpa using hlt)]
            simpa using hx
          · simp only [Array.size_append, Array.size_replicate]
            omega
          · have hx' : xs[0]? = some x := by
              unfold lentArg at hx
              split at hx
              · exact hx
              · cases hx
            have hlt : 0 < xs.length := (List.getElem?_eq_some_iff.1 hx').1
            rw [Array.getElem?_append_left (by simpa using hlt)]
            simpa using hx'
        have fin : ∀ (e : Ex) (st : St), codeE { P := P, nt := fn.ntmps, call := callE P hint takes ora n, n := n, hint := hint f, takes := takes, resv := resSlots fn, fn := f } body { env := enumFrom' 0 args, facts := [], heap := H, wr := [] } = some (e, st) →
            (∀ vs, mapO (resE P st) fn.results.toList = some vs → nodupN (resSlots fn) = true → outE H.length (hasN (takes f) lentN) vs st = some (v, H', wr) → e = .normal ∨ e = .ret → CallsIn (FW none) 0 P f xs.toArray w (CallR B d g w H v H' wr (lentArg (lentF takes) (.func f) xs))) := by
          intro e st hst vs hvs hnd hend hex
          refine callsIn_of_wp_marks hfn hb trivial ?_ rfl
          refine code_wp (r := none) (X := { P := P, nt := fn.ntmps, call := callE P hint takes ora n, n := n, hint := hint f, takes := takes, resv := resSlots fn, fn := f }) rfl ih hfr trivial body hst hgb.1 hpin hsit rfl fun g' w' a' hs' hf' => ?_
          have leave : LeavesInM (FW none) 0 P fn a'.tmps (CallR B d g w H v H' wr (lentArg (lentF takes) (.func f) xs)) a'.defers .returning w' := by
            obtain ⟨bs, b1, b2, b3⟩ := hs'.defs
            rw [b2]
            refine leave_ok (a := a') hbase (fun w2 hs2 => ?_) bs w' b1 b3 ⟨hs'.inv, hs'.env, hs'.facts, hs'.size, hs'.hg, hs'.kept, hs'.hist, hs'.loops, ⟨[], .nil, rfl, by simp⟩, hs'.pin⟩
            obtain ⟨x, g2, k1, k2, k3⟩ := results_ok (P := P) (a := a') hs2.inv hs2.env hnd hvs
            have hp2 := (hs2.hist.then k2 fun _ e => e.elim).mono (r' := st.wr) (by simp) fun _ h => h
            have hfr1 : Fr True H [] st.heap st.wr := (code_fr (X := { P := P, nt := fn.ntmps, call := callE P hint takes ora n, n := n, hint := hint f, takes := takes, resv := resSlots fn, fn := f }) hfr body hst).mono fun _ => hgb.1
            unfold outE at hend
            split at hend
            · rename_i hl
              obtain ⟨g3, m1, m2⟩ := end_ok hi hp2 hfr1 k3 (Option.some.inj hend)
              have hl' : lentF takes (.func f) = false := hl
              refine ⟨x, k1, x, g3, rfl, m1, ?_⟩
              simp only [lentArg, hl', Bool.false_eq_true, if_false]
              exact m2
            · rename_i hl
              have hl' : lentF takes (.func f) = true := hl
              split at hend
              case h_2 => cases hend
              rename_i l o hv0
              obtain ⟨x0, hx0, hs0⟩ := hs2.env 0 _ hv0
              have hx0' : a'.tmps[0]? = some x0 := hx0
              have hl2 : hasN (takes f) lentN = true := hl
              rw [hl2] at hlend
              simp only [Bool.true_and, Bool.or_eq_true, Bool.not_eq_true', not_or] at hlend
              have hlen : 0 < xs.length := by
                rw [← hargs.1]
                exact List.length_pos_iff.2 (by simpa using hlend.2)
              obtain ⟨x1, hx1⟩ : ∃ x1, xs[0]? = some x1 := ⟨xs[0], List.getElem?_eq_getElem hlen⟩
              have hp1 : a'.tmps[0]? = some x1 := hs2.pin x1 (by rw [lentArg, if_pos hl', hx1])
              rw [hx0'] at hp1
              cases hp1
              split at hend
              rename_i v3 h3 w3 hE3
              have hv3 : v3 = .vec l o := by
                have : (endE H.length (.vec l o) st).1 = .vec l o := by unfold endE; dsimp only; split <;> rfl
                rw [hE3] at this; exact this
              obtain ⟨g3, m1, m2⟩ := end_ok hi hs2.hist hfr1 (show ResOK _ w2 (d + 1) (.vec l o) x0 from hs0) hE3
              cases hend
              refine ⟨x, k1, x, g3, rfl, m1, ?_⟩
              rw [lentArg, if_pos hl', hx1]
              subst hv3
              unfold lendV
              split
              · rename_i r
                split
                · rename_i hsc
                  have h7 : lentV (.tup [.vec l o, r]) = (.vec l o, r) := by simp [lentV, hsc]
                  refine ⟨by rw [h7]; exact m2, fun _ => ?_⟩
                  rw [h7]
                  have k4 : give (tupA [r]) = r := by cases r <;> first | rfl | cases hsc
                  rw [k4] at k3
                  have k5 : RelV g2 w2 r x := by cases r <;> first | exact k3 | cases hsc
                  exact scal_any hsc k5
                · exact ⟨m2, fun h => by cases h⟩
              · exact ⟨m2, fun h => by cases h⟩
          rcases hex with rfl | rfl
          · exact leave
          · exact leave
        split at h
        case h_3 => cases h
        · rename_i st hst
          split at h
          case h_2 => cases h
          rename_i vs hvs
          split at hvs
          case isFalse => cases hvs
          rename_i hnd
          exact fin _ st hst vs hvs hnd h (.inl rfl)
        · rename_i st hst
          split at h
          case h_2 => cases h
          rename_i vs hvs
          split at hvs
          case isFalse => cases hvs
          rename_i hnd
          exact fin _ st hst vs hvs hnd h (.inr rfl)
    | yield id =>
      intro b hrho
      simp only [callE] at h
      split at h
      case h_2 => cases h
      rename_i lp hlp
      split at h
      case isFalse => cases h
      rename_i hcond
      obtain ⟨hready, hlen, hpass, hpassE⟩ := hcond
      split at h
      case h_2 => cases h
      rename_i st hst
      split at h
      case h_2 => cases h
      rename_i lp1 hlp1
      split at h
      · cases h
      rename_i hready1
      split at h
      case h_2 => cases h
      rename_i e st2 hst2
      split at h
      case h_2 => cases h
      rename_i lp2 hlp2
      simp only [Option.some.injEq, Prod.mk.injEq] at h
      obtain ⟨rfl, rfl, rfl⟩ := h
      obtain ⟨g1, g2, g3⟩ := hg id lp hlp
      obtain ⟨L, hL, k0, k1, k2, k3, k4, k5, k6⟩ := hi.obj id _ b hlp hrho
      refine ⟨L, hL, ?_, ?_⟩
      · rw [← hargs.1, ← hlen, ← k3]; simp
      refine roundIn_of_wpIn trivial ?_
      have hX : ∀ c Q a w, Code.wpIn (FW (some b)) 0 P c Q a w → Code.wpIn ((FW none).inRound b) 0 P c Q a w := fun _ _ _ _ h => h
      have hrnd : RoundHas g H (some b) := ⟨id, lp, hrho, hlp⟩
      -- the round's slots
      have hzip : roundTmps L xs.toArray = (lp.params.zip xs).foldl (fun (tmps : Array Value) (p : Nat × Value) => tmps.setIfInBounds p.1 p.2) L.tmps := by
        unfold roundTmps
        rw [← k3]
        rw [← Array.foldl_toList, Array.toList_zip]
      obtain ⟨r1, r2⟩ := round_slots (g := g) (w := w) (d := d + 1) lp.params args xs lp.env L.tmps hargs.1 (fun p hp => Nat.lt_of_lt_of_le (g3 p hp) k0) (fun i u hu => by
        obtain ⟨x, hx, hr⟩ := k6 i u hu
        exact ⟨x, hx, rel_pass hr (List.all_eq_true.1 hpassE _ (eget_mem hu)) i⟩) (fun j u hj => by
        obtain ⟨x, hx, hs⟩ := hargs.2 j u hj
        exact ⟨x, hx, fun i => slot_pass hs (List.all_eq_true.1 hpass u (List.mem_of_getElem? hj)) i⟩)
      have hsit : Sit w0 B (d + 1) lp.nt none g w H g w { env := roundEnv lp.params args lp.env, facts := [], heap := H, wr := [] } { tmps := roundTmps L xs.toArray, defers := [] } := by
        refine ⟨hi, fun i u hu => ?_, ⟨fun j id off e => (by cases e), fun j e => (by cases e)⟩, by simp only [hzip, r2]; exact k0, hg, hk, .refl hi, fun id lp e => ⟨lp, e⟩, ⟨[], .nil, rfl, by simp⟩, fun x hx => by cases hx⟩
        obtain ⟨x, hx, hs⟩ := r1 i u hu
        exact ⟨x, by simp only [tmOf, hzip]; exact hx, slot_any hs⟩
      refine hX _ _ _ _ (code_wp (r := some b) (X := { P := P, nt := lp.nt, call := callE P hint takes ora n, n := n, hint := hint lp.fn, takes := takes, resv := lp.resv, fn := lp.fn }) rfl ih hfr hrnd L.assign (by rw [k4]; exact hst) (by rw [k4]; exact g1) (fun h => by cases h) hsit rfl fun g' w' a' hs' hf' => ?_)
      have hr1 := hs'.hist.step.le.rho id b hrho
      obtain ⟨L1, hL1, q0, q1, q2, q3, q4, q5, q6⟩ := hs'.inv.obj id _ b hlp1 hr1
      have hlt1 : b < w'.heap.size := (Array.getElem?_eq_some_iff.1 hL1).1
      refine ⟨_, run_beginRound hL1 (by rw [q1]; simpa using hready1), ?_⟩
      have hu1 : Upd b w' (w'.putObj b (.loop { L1 with state := .busy })) := ⟨fun b' hb' => World.putObj_heap_other hb', by simp, rfl, rfl, rfl⟩
      obtain ⟨p1, p2⟩ := obj_upd (d := d + 1) hs'.inv hr1 hu1 (ob := .loop { lp1 with state := .busy }) (by
        refine ⟨{ L1 with state := .busy }, World.putObj_heap_same hlt1, q0, rfl, q2, q3, q4, q5, fun i v hv => ?_⟩
        obtain ⟨x, hx, hr⟩ := q6 i v hv
        exact ⟨x, hx, hr.le (hu1.chg fun i hi => by rw [(hs'.inv.rho _ _ hr1).2.2.2.1] at hi; omega).le⟩)
      have hsit2 : Sit w0 B (d + 1) lp.nt none g w H g' (w'.putObj b (.loop { L1 with state := .busy })) { st with heap := hset st.heap id (.loop { lp1 with state := .busy }), wr := id :: st.wr } a' := by
        refine ⟨p1.inv, p2 hs'.env, ?_, hs'.size, ?_, hs'.kept.post hs'.inv p1, (hs'.hist.then p1 fun _ e => e.elim).mono (by simp) fun _ h => h, fun i l e => ?_, hs'.defs.step p1.step, fun x hx => by cases hx⟩
        · simp only [hf']
          exact ⟨fun j id off e => (by cases e), fun j e => (by cases e)⟩
        · intro i l hl
          rw [hget_hset (hget_lt hlp1)] at hl
          split at hl
          · cases hl
            have := hs'.hg _ _ hlp1
            exact this
          · exact hs'.hg i l hl
        · obtain ⟨l1, hl1⟩ := hs'.loops i l e
          rw [hget_hset (hget_lt hlp1)]
          split
          · exact ⟨_, rfl⟩
          · exact ⟨l1, hl1⟩
      refine hX _ _ _ _ (code_wp (r := some b) (X := { P := P, nt := lp.nt, call := callE P hint takes ora n, n := n, hint := hint lp.fn, takes := takes, resv := lp.resv, fn := lp.fn }) rfl ih hfr hrnd L.body (by rw [k5]; exact hst2) (by rw [k5]; exact g2) (fun h => by cases h) hsit2 hf' fun g3 w3 a3 hs3 hf3 => ?_)
      have hr2 := hs3.hist.step.le.rho id b hrho
      obtain ⟨L2, hL2, u0, u1, u2, u3, u4, u5, u6⟩ := hs3.inv.obj id _ b hlp2 hr2
      have hlt2 : b < w3.heap.size := (Array.getElem?_eq_some_iff.1 hL2).1
      -- the round ends
      have fin : ∀ (pend : Option Ex), (∀ e', pend = some e' → e' ≠ .normal) → CallR B d g w H (.bool pend.isNone) (hset st2.heap id (.loop { lp2 with state := if pend.isNone then .ready else .done, pend := pend })) (id :: st2.wr.filter fun i => decide (i < H.length)) none (.returned (.bool (exCode pend).isNone))
          (w3.putObj b (.loop { L2 with state := if (exCode pend).isNone then .ready else .done, pending := exCode pend })) := by
        intro pend hpe
        have hiso : (exCode pend).isNone = pend.isNone := by
          cases pend with
          | none => rfl
          | some e' => cases e' with
            | normal => exact absurd rfl (hpe _ rfl)
            | _ => rfl
        rw [hiso]
        have hu2 : Upd b w3 (w3.putObj b (.loop { L2 with state := if pend.isNone then .ready else .done, pending := exCode pend })) := ⟨fun b' hb' => World.putObj_heap_other hb', by simp, rfl, rfl, rfl⟩
        obtain ⟨v1, v2⟩ := obj_upd (d := d + 1) hs3.inv hr2 hu2 (ob := .loop { lp2 with state := if pend.isNone then .ready else .done, pend := pend }) (by
          refine ⟨{ L2 with state := if pend.isNone then .ready else .done, pending := exCode pend }, World.putObj_heap_same hlt2, u0, rfl, rfl, u3, u4, u5, fun i v hv => ?_⟩
          obtain ⟨x, hx, hr⟩ := u6 i v hv
          exact ⟨x, hx, hr.le (hu2.chg fun i hi => by rw [(hs3.inv.rho _ _ hr2).2.2.2.1] at hi; omega).le⟩)
        have hpp := hs3.hist.then v1 fun _ e => e.elim
        refine ⟨_, g3, rfl, ⟨hpp.step, hpp.inv, hpp.len, hpp.pend, fun id' b' hr hw => hpp.kept id' b' hr fun hm => hw ?_⟩, show ResOK g3 _ (d + 1) _ _ from slot_ro (.bool _) (by simp) (by simp) (by simp) (by simp) (by simp)⟩
        rcases List.mem_append.1 hm with hm | hm
        · simp at hm; subst hm; simp
        · exact List.mem_cons_of_mem _ (by simp [hm, (hi.rho id' b' hr).1])
      cases e with
      | normal => exact ⟨_, _, run_endRound none hL2, fin none (fun _ e => by cases e)⟩
      | ret => exact ⟨_, _, run_endRound (some .ret) hL2, fin (some .ret) (fun e' e => by cases e; simp)⟩
      | exit i => exact ⟨_, _, run_endRound (some (.exit i)) hL2, fin (some (.exit i)) (fun e' e => by cases e; simp)⟩
    | _ => simp [callE] at h
end
end Go.Abs
end

section
/- Structs of plain values, compared. -/
namespace Go.Abs
open Go
variable {R : Type}
theorem pureRun_bind {α β : Type} {P : Program} (s : Sem α) (f : α → Sem β) : pureRun P (s >>= f) = (pureRun P s).bind fun a => pureRun P (f a) := by
  show pureRun P (Sem.bind s f) = _
  induction s with
  | pure a => rfl
  | program k ih => simp only [Sem.bind, pureRun]; exact ih P
  | mark m k ih => simp only [Sem.bind, pureRun]; exact ih
  | _ => rfl
theorem pureRun_pure {α : Type} {P : Program} (a : α) : pureRun P (pure a : Sem α) = some a := rfl
theorem pureRun_underlying {P : Program} {t : TypeId} {d : TypeDesc} (h : P.underlying t = some d) : pureRun P (underlying t) = some d := by
  unfold underlying
  rw [pureRun_bind]
  show pureRun P (match P.underlying t with | some d => pure d | none => stuck "no such type") = some d
  rw [h]
  rfl

def scalarT (P : Program) (t : TypeId) : Bool := match P.underlying t with
  | some .bool => true
  | some (.int _) => true
  | some .string => true
  | _ => false
/-- the types of the fields of a struct of plain values, one cell each -/
def flatFields (P : Program) : List Field → Nat → Option (List TypeId)
  | [], _ => some []
  | f :: r, i => if f.name ≠ "_" ∧ f.offset = i ∧ scalarT P f.type = true then (flatFields P r (i + 1)).map (f.type :: ·) else none
def flatStruct (P : Program) (t : TypeId) : Option (List TypeId) := match P.underlying t with
  | some (.struct fs) => if P.stoodInHeld t = false ∧ P.eqGuardType P.depth t = false then flatFields P fs.toList 0 else none
  | _ => none
/-- two plain values of a type, compared -/
def eq1 (P : Program) (t : TypeId) (a b : AVal) : Option Bool := match P.underlying t with
  | some (.int _) => (match a, b with
    | .int k m, .int k' n => if k = k' then some (m == n) else none
    | _, _ => none)
  | some .string => (match a, b with
    | .str s, .str u => some (s == u)
    | _, _ => none)
  | some .bool => (match a, b with
    | .bool s, .bool u => some (s == u)
    | _, _ => none)
  | _ => none
def eqL (P : Program) : List TypeId → List AVal → List AVal → Option Bool
  | [], xs, ys => (match xs, ys with
    | [], [] => some true
    | _, _ => none)
  | t :: ts, xs, ys => (match xs, ys with
    | a :: xs, b :: ys => (match eq1 P t a b with
      | some e => (match eqL P ts xs ys with
        | some r => some (e && r)
        | none => none)
      | none => none)
    | _, _ => none)
/-- two structs of plain values, compared -/
def eqStruct (P : Program) (t : TypeId) (xs ys : List AVal) : Option Bool := match flatStruct P t with
  | some ts => eqL P ts xs ys
  | none => none

theorem bytes_beq (s u : List UInt8) : ((⟨s.toArray⟩ : ByteArray) == ⟨u.toArray⟩) = (s == u) := by
  show (s.toArray == u.toArray) = (s == u)
  simp
theorem eq1_run {P : Program} {t : TypeId} {a b : AVal} {e : Bool} (h : eq1 P t a b = some e) (d : Nat) : ∃ u v, toV1 a = some u ∧ toV1 b = some v ∧ scalarT P t = true ∧ pureRun P (Op.equalIn (d + 1) t u v) = some e := by
  unfold eq1 at h
  split at h
  · rename_i kd ht
    split at h
    · rename_i k m k' n
      split at h
      · rename_i hk
        subst hk
        cases h
        refine ⟨_, _, rfl, rfl, by simp [scalarT, ht], ?_⟩
        unfold Op.equalIn
        rw [pureRun_bind, pureRun_underlying ht]
        simp [pureRun_pure]
      · cases h
    · cases h
  · rename_i ht
    split at h
    · cases h
      refine ⟨_, _, rfl, rfl, by simp [scalarT, ht], ?_⟩
      unfold Op.equalIn
      rw [pureRun_bind, pureRun_underlying ht]
      simp only [Option.bind_some, pureRun_pure]
      rw [bytes_beq]
    · cases h
  · rename_i ht
    split at h
    · cases h
      refine ⟨_, _, rfl, rfl, by simp [scalarT, ht], ?_⟩
      unfold Op.equalIn
      rw [pureRun_bind, pureRun_underlying ht]
      simp [pureRun_pure]
    · cases h
  · cases h
theorem isAgg_scalar {P : Program} {t : TypeId} (h : scalarT P t = true) : pureRun P (isAgg t) = some false := by
  unfold scalarT at h
  unfold isAgg
  rw [pureRun_bind]
  split at h
  · rename_i ht; rw [pureRun_underlying ht]; rfl
  · rename_i ht; rw [pureRun_underlying ht]; rfl
  · rename_i ht; rw [pureRun_underlying ht]; rfl
  · cases h
theorem part_scalar {P : Program} {t : TypeId} (h : scalarT P t = true) {cs : Array Value} {i : Nat} {v : Value} (hv : cs[i]? = some v) : pureRun P (part t cs i) = some v := by
  unfold part
  rw [pureRun_bind, isAgg_scalar h]
  simp only [Option.bind_some, Bool.false_eq_true, if_false, hv]
  rfl
theorem forIn_eq {P : Program} {d : Nat} {us vs : Array Value} : ∀ {fs : List Field} {i : Nat} {ts : List TypeId} {xs ys : List AVal} {e : Bool}, flatFields P fs i = some ts → eqL P ts xs ys = some e →
    (∃ ul vl, mapO toV1 xs = some ul ∧ mapO toV1 ys = some vl) ∧ (∀ ul vl, mapO toV1 xs = some ul → mapO toV1 ys = some vl → (∀ j, us[i + j]? = ul[j]?) → (∀ j, vs[i + j]? = vl[j]?) →
    pureRun P (do
      for f in fs do
        if f.name ≠ "_" then
          if !(← Op.equalIn (d + 1) f.type (← part f.type us f.offset) (← part f.type vs f.offset)) then return false
      pure true) = some e)
  | [], i, ts, xs, ys, e, h1, h2 => by
    simp only [flatFields] at h1
    cases h1
    simp only [eqL] at h2
    split at h2
    · cases h2
      exact ⟨⟨[], [], rfl, rfl⟩, fun ul vl _ _ _ _ => rfl⟩
    · cases h2
  | f :: fs, i, ts, xs, ys, e, h1, h2 => by
    simp only [flatFields] at h1
    split at h1
    case isFalse => cases h1
    rename_i hc
    obtain ⟨ts', h3, rfl⟩ := Option.map_eq_some_iff.1 h1
    simp only [eqL] at h2
    split at h2
    case h_2 => cases h2
    rename_i a xs b ys
    split at h2
    case h_2 => cases h2
    rename_i e1 he1
    split at h2
    case h_2 => cases h2
    rename_i e2 he2
    cases h2
    obtain ⟨u, v, k1, k2, k3, k4⟩ := eq1_run he1 d
    obtain ⟨⟨ul, vl, q1, q2⟩, q3⟩ := forIn_eq h3 he2
    refine ⟨⟨u :: ul, v :: vl, by simp [mapO, k1, q1], by simp [mapO, k2, q2]⟩, ?_⟩
    intro ul' vl' m1 m2 hu hv
    simp only [mapO, k1, q1] at m1
    simp only [mapO, k2, q2] at m2
    cases m1
    cases m2
    have hu0 := hu 0
    have hv0 := hv 0
    simp only [Nat.add_zero, List.getElem?_cons_zero] at hu0 hv0
    have hrest := q3 ul vl q1 q2 (fun j => by have := hu (j + 1); rw [show i + (j + 1) = i + 1 + j by omega] at this; simpa using this) (fun j => by have := hv (j + 1); rw [show i + (j + 1) = i + 1 + j by omega] at this; simpa using this)
    rw [List.forIn_cons]
    simp only [pureRun_bind] at hrest ⊢
    simp only [hc.1, ne_eq, not_false_eq_true, if_true, hc.2.1, pureRun_bind, part_scalar hc.2.2 hu0, part_scalar hc.2.2 hv0, Option.bind_some, k4]
    cases e1 with
    | false => rfl
    | true =>
      simp only [Bool.not_true, Bool.false_eq_true, if_false, pureRun_pure, Option.bind_some, Bool.true_and]
      exact hrest
theorem struct_run {P : Program} {t : TypeId} {xs ys : List AVal} {e : Bool} (h : eqStruct P t xs ys = some e) : ∃ ul vl, mapO toV1 xs = some ul ∧ mapO toV1 ys = some vl ∧ pureRun P (Op.equal t (.agg ul.toArray) (.agg vl.toArray)) = some e ∧ P.eqGuardType P.depth t = false := by
  unfold eqStruct at h
  split at h
  case h_2 => cases h
  rename_i ts hts
  unfold flatStruct at hts
  split at hts
  case h_2 => cases hts
  rename_i fs hfs
  split at hts
  case isFalse => cases hts
  rename_i hc
  obtain ⟨⟨ul, vl, k1, k2⟩, _⟩ := forIn_eq (d := 9998) (us := #[]) (vs := #[]) hts h
  refine ⟨ul, vl, k1, k2, ?_, hc.2⟩
  have k3 := (forIn_eq (d := 9998) (us := ul.toArray) (vs := vl.toArray) hts h).2 ul vl k1 k2 (fun j => by simp) (fun j => by simp)
  show pureRun P (Op.equalIn (9999 + 1) t _ _) = _
  unfold Op.equalIn
  rw [pureRun_bind, pureRun_underlying hfs]
  simp only [Option.bind_some]
  rw [pureRun_bind]
  show (Option.bind (some P) _) = _
  simp only [Option.bind_some, hc.1, Bool.false_eq_true, if_false]
  rw [← Array.forIn_toList]
  exact k3
theorem binE_struct {P : Program} {t : TypeId} {x y : Operand} {xs ys : List AVal} {e : Bool} (h : eqStruct P t xs ys = some e) : binE P .eql t x y (.agg xs) (.agg ys) = some (.bool e) ∧ binE P .neq t x y (.agg xs) (.agg ys) = some (.bool !e) := by
  obtain ⟨ul, vl, h1, h2, h3, h4⟩ := struct_run h
  have hg : ∀ op, pureRun P (eqGuard op t x y (.agg ul.toArray) (.agg vl.toArray)) = some () := by
    intro op
    unfold eqGuard
    have h4' := h4
    unfold Program.depth at h4'
    cases op <;> simp [pureRun_bind, pureRun_pure, pureRun, h4', Program.depth, Go.program]
  constructor
  · simp only [binE, ground2, toV, h1, h2, Option.map_some]
    rw [pureRun_bind, hg]
    show (pureRun P (Op.equal t (.agg ul.toArray) (.agg vl.toArray) >>= fun b => pure (Value.bool b))).bind ofV = _
    rw [pureRun_bind, h3]
    rfl
  · simp only [binE, ground2, toV, h1, h2, Option.map_some]
    rw [pureRun_bind, hg]
    show (pureRun P (Op.equal t (.agg ul.toArray) (.agg vl.toArray) >>= fun b => pure (Value.bool !b))).bind ofV = _
    rw [pureRun_bind, h3]
    rfl
end Go.Abs
end

section
/- The evaluator once more, with what comes behind handed down: what hangs on a datum that is not known then stands outermost. -/
namespace Go.Abs
open Go
variable {R : Type}

def nIte (b : Bool) (y n : Option R) : Option R := match b with
  | true => y
  | false => n
def nOpt {α : Type} (o : Option α) (k : α → Option R) : Option R := match o with
  | some a => k a
  | none => none

/-! ### A value that is not known is told apart by its type's zero -/
def eta1K (z v : AVal) (k : AVal → Option R) : Option R := match z with
  | .int kd _ => (match v with
    | .int kd' n => nIte (decide (kd' = kd)) (k (.int kd n)) none
    | _ => none)
  | .bool _ => (match v with
    | .bool b => k (.bool b)
    | _ => none)
  | .str _ => (match v with
    | .str s => k (.str s)
    | _ => none)
  | .vec _ _ => (match v with
    | .vec l o => (match o with
      | .ro => k (.vec l .ro)
      | _ => none)
    | _ => none)
  | _ => k v
def etasK : List AVal → List AVal → (List AVal → Option R) → Option R
  | [], vs, k => match vs with
    | [] => k []
    | _ => none
  | z :: zs, vs, k => match vs with
    | v :: r => eta1K z v fun v' => etasK zs r fun r' => k (v' :: r')
    | [] => none
def etaK (z v : AVal) (k : AVal → Option R) : Option R := match z with
  | .agg zs => (match v with
    | .agg cs => etasK zs cs fun cs' => k (.agg cs')
    | _ => none)
  | z => eta1K z v k

theorem nIte_eq {b : Bool} {y n : Option R} {r : R} (h : nIte b y n = some r) : (b = true ∧ y = some r) ∨ (b = false ∧ n = some r) := by
  cases b
  · exact .inr ⟨rfl, h⟩
  · exact .inl ⟨rfl, h⟩
theorem nIte_none {b : Bool} {y : Option R} {r : R} (h : nIte b y none = some r) : b = true ∧ y = some r := by
  cases b
  · cases h
  · exact ⟨rfl, h⟩
theorem nIte_none' {b : Bool} {n : Option R} {r : R} (h : nIte b none n = some r) : b = false ∧ n = some r := by
  cases b
  · exact ⟨rfl, h⟩
  · cases h
theorem nOpt_eq {α : Type} {o : Option α} {k : α → Option R} {r : R} (h : nOpt o k = some r) : ∃ a, o = some a ∧ k a = some r := by
  cases o
  · cases h
  · exact ⟨_, rfl, h⟩
theorem eta1K_eq {z v : AVal} {k : AVal → Option R} {r : R} (h : eta1K z v k = some r) : k v = some r := by
  unfold eta1K at h
  split at h
  · split at h
    · obtain ⟨h1, h2⟩ := nIte_none h
      rw [of_decide_eq_true h1]
      exact h2
    · cases h
  · split at h
    · exact h
    · cases h
  · split at h
    · exact h
    · cases h
  · split at h
    · split at h
      · exact h
      · cases h
    · cases h
  · exact h
theorem etasK_eq (zs : List AVal) : ∀ {vs : List AVal} {k : List AVal → Option R} {r : R}, etasK zs vs k = some r → k vs = some r := by
  induction zs with
  | nil =>
    intro vs k r h
    unfold etasK at h
    split at h
    · exact h
    · cases h
  | cons z zs ih =>
    intro vs k r h
    unfold etasK at h
    split at h
    · exact ih (k := fun r' => k (_ :: r')) (eta1K_eq (k := fun v' => etasK zs _ fun r' => k (v' :: r')) h)
    · cases h
theorem etaK_eq {z v : AVal} {k : AVal → Option R} {r : R} (h : etaK z v k = some r) : k v = some r := by
  unfold etaK at h
  split at h
  · split at h
    · exact etasK_eq _ h
    · cases h
  · exact eta1K_eq h

/-! ### Operations that hang on data -/
/-- is a slice nil -/
def nilK (l : List AVal) (o : Own) (k : Bool → Option R) : Option R := match o with
  | .nul => (match l with
    | [] => k true
    | _ => none)
  | _ => nIte l.isEmpty none (k false)
theorem nilK_eq {l : List AVal} {o : Own} {k : Bool → Option R} {r : R} (h : nilK l o k = some r) : ∃ b, isNilE l o = some (.bool b) ∧ k b = some r := by
  unfold nilK at h
  split at h
  · split at h
    · exact ⟨_, rfl, h⟩
    · cases h
  · obtain ⟨h1, h2⟩ := nIte_none' h
    cases l with
    | nil => cases h1
    | cons v l => exact ⟨_, rfl, h2⟩
def binK (P : Program) (op : BinOp) (t : TypeId) (x y : Operand) (a b : AVal) (k : AVal → Option R) : Option R :=
  match op, a, b with
  | .quo, .int k1 m, .int k2 n => if k1 = k2 then nIte (decide (n = 0)) none (k (.int k1 (k1.wrap (m.tdiv n)))) else none
  | .rem, .int k1 m, .int k2 n => if k1 = k2 then nIte (decide (n = 0)) none (k (.int k1 (m.tmod n))) else none
  | .shl, .int k1 m, .int _ n => nIte (decide (n < 0)) none (k (.int k1 (k1.wrap (m * 2 ^ min n.toNat k1.bits))))
  | .shr, .int k1 m, .int _ n => nIte (decide (n < 0)) none (k (.int k1 (m.fdiv (2 ^ min n.toNat k1.bits))))
  | .add, .str s, .str u => nIte (decide (s.length + u.length < 2 ^ 62)) (k (.str (s ++ u))) none
  | .eql, .agg xs, .agg ys => (match eqStruct P t xs ys with
    | some e => k (.bool e)
    | none => nOpt (binE P .eql t x y (.agg xs) (.agg ys)) k)
  | .neq, .agg xs, .agg ys => (match eqStruct P t xs ys with
    | some e => k (.bool !e)
    | none => nOpt (binE P .neq t x y (.agg xs) (.agg ys)) k)
  | .eql, .vec l o, .vec m .nul => (match P.underlying t with
    | some (.slice _) => nilK l o fun b => k (.bool b)
    | _ => nOpt (binE P .eql t x y (.vec l o) (.vec m .nul)) k)
  | .neq, .vec l o, .vec m .nul => (match P.underlying t with
    | some (.slice _) => nilK l o fun b => k (.bool !b)
    | _ => nOpt (binE P .neq t x y (.vec l o) (.vec m .nul)) k)
  | op, a, b => nOpt (binE P op t x y a b) k
theorem binK_eq {P : Program} {op : BinOp} {t : TypeId} {x y : Operand} {a b : AVal} {k : AVal → Option R} {r : R} (h : binK P op t x y a b k = some r) : ∃ v, binE P op t x y a b = some v ∧ k v = some r := by
  unfold binK at h
  split at h
  · split at h
    · rename_i he
      subst he
      obtain ⟨h1, h2⟩ := nIte_none' h
      refine ⟨_, ?_, h2⟩
      have h1 := of_decide_eq_false h1
      simp [binE, ground2, toV, toV1, eqGuard, binOp, Op.intDiv, h1, pureRun, ofV, ofV1, pure, bind, Sem.bind]
    · cases h
  · split at h
    · rename_i he
      subst he
      obtain ⟨h1, h2⟩ := nIte_none' h
      refine ⟨_, ?_, h2⟩
      have h1 := of_decide_eq_false h1
      simp [binE, ground2, toV, toV1, eqGuard, binOp, Op.intDiv, h1, pureRun, ofV, ofV1, pure, bind, Sem.bind]
    · cases h
  · obtain ⟨h1, h2⟩ := nIte_none' h
    refine ⟨_, ?_, h2⟩
    have h1 := of_decide_eq_false h1
    simp [binE, ground2, toV, toV1, eqGuard, binOp, Op.shift, h1, pureRun, ofV, ofV1, pure, bind, Sem.bind]
  · obtain ⟨h1, h2⟩ := nIte_none' h
    refine ⟨_, ?_, h2⟩
    have h1 := of_decide_eq_false h1
    simp [binE, ground2, toV, toV1, eqGuard, binOp, Op.shift, h1, pureRun, ofV, ofV1, pure, bind, Sem.bind]
  · obtain ⟨h1, h2⟩ := nIte_none h
    refine ⟨_, ?_, h2⟩
    have h1 := of_decide_eq_true h1
    simp only [binE, h1, if_pos]
  · split at h
    · rename_i e he
      exact ⟨_, (binE_struct he).1, h⟩
    · exact nOpt_eq h
  · split at h
    · rename_i e he
      exact ⟨_, (binE_struct he).2, h⟩
    · exact nOpt_eq h
  · split at h
    · rename_i el hu
      obtain ⟨b, h1, h2⟩ := nilK_eq h
      exact ⟨_, by simp only [binE, hu, h1], h2⟩
    · exact nOpt_eq h
  · split at h
    · rename_i el hu
      obtain ⟨b, h1, h2⟩ := nilK_eq h
      exact ⟨_, by simp only [binE, hu, h1], h2⟩
    · exact nOpt_eq h
  · exact nOpt_eq h

def pickK (env : Env) (c a b : Operand) (k : Out → Option R) : Option R :=
  match ev env c with
  | some (.bool t) => nIte t (match ev env a with
      | some v => k ⟨esc env a, [], ro v, none⟩
      | none => none) (match ev env b with
      | some v => k ⟨esc env b, [], ro v, none⟩
      | none => none)
  | _ => none
theorem pickK_eq {env : Env} {c a b : Operand} {k : Out → Option R} {r : R} (h : pickK env c a b k = some r) : ∃ o, pickE env c a b = some o ∧ k o = some r := by
  unfold pickK at h
  split at h
  case h_2 => cases h
  rename_i t ht
  unfold pickE
  rw [ht]
  rcases nIte_eq h with ⟨rfl, h1⟩ | ⟨rfl, h1⟩
  · simp only
    split at h1
    · rename_i v hv
      exact ⟨_, by simp only [hv, outU], h1⟩
    · cases h1
  · simp only
    split at h1
    · rename_i v hv
      exact ⟨_, by simp only [hv, outU], h1⟩
    · cases h1

def partK (P : Program) (t : TypeId) (e : AVal) (k : AVal → Option R) : Option R :=
  match zeroOf P t with
  | some z => etaK z e k
  | none => k e
theorem partK_eq {P : Program} {t : TypeId} {e : AVal} {k : AVal → Option R} {r : R} (h : partK P t e k = some r) : k e = some r := by
  unfold partK at h
  split at h
  · exact etaK_eq h
  · exact h

/-- an element of a slice -/
def indexAddrK (P : Program) (env : Env) (t : TypeId) (x ix : Operand) (k : Out → Option R) : Option R :=
  match ev env ix, P.underlying t, ev env x with
  | some (.int _ i), some (.slice elem), some (.vec l _) =>
    nIte (decide (0 ≤ i)) (nIte (headOk (P.cellsOf elem) l) (match P.underlying elem with
      | some _ => nOpt (l[i.toNat]?) fun e => match rawv env x with
        | some (.bor s) => (match eget env s with
          | some (.vec _ (.ex _)) => k ⟨[], [], .sptr s i.toNat 0, none⟩
          | _ => partK P elem e fun e => k ⟨[], [], .eptr e.cells 0, none⟩)
        | _ => partK P elem e fun e => k ⟨esc env x, [], .eptr e.cells 0, none⟩
      | none => none) none) none
  | _, _, _ => nOpt (indexAddrE P env t x ix) k
theorem indexAddrK_eq {P : Program} {env : Env} {t : TypeId} {x ix : Operand} {k : Out → Option R} {r : R} (h : indexAddrK P env t x ix k = some r) : ∃ o, indexAddrE P env t x ix = some o ∧ k o = some r := by
  unfold indexAddrK at h
  split at h
  case h_2 => exact nOpt_eq h
  rename_i kd i elem l ow h1 h2 h3
  obtain ⟨c1, h⟩ := nIte_none h
  obtain ⟨c2, h⟩ := nIte_none h
  split at h
  case h_2 => cases h
  rename_i d hd
  obtain ⟨e, he, h⟩ := nOpt_eq h
  have c1 := of_decide_eq_true c1
  unfold indexAddrE
  simp only [h1, h2, h3, c1, c2, hd, he, Option.isSome_some, and_self, if_true]
  split at h
  · rename_i s hs
    simp only [hs]
    split at h
    · rename_i hq
      simp only [hq]
      exact ⟨_, rfl, h⟩
    · rename_i hq
      split
      · rename_i hq'
        exact absurd hq' (hq _ _)
      · exact ⟨_, rfl, partK_eq h⟩
  · rename_i hs
    split
    · rename_i hs'
      exact absurd hs' (hs _)
    · exact ⟨_, rfl, partK_eq h⟩

def indexK (P : Program) (env : Env) (t : TypeId) (x ix : Operand) (k : Out → Option R) : Option R :=
  match P.underlying t, ev env x, ev env ix with
  | some .string, some (.str s), some (.int _ i) => nIte (decide (0 ≤ i)) (nOpt (s[i.toNat]?) fun b => k ⟨[], [], .int .u8 b.toNat, none⟩) none
  | _, _, _ => nOpt (indexE P env t x ix) k
theorem indexK_eq {P : Program} {env : Env} {t : TypeId} {x ix : Operand} {k : Out → Option R} {r : R} (h : indexK P env t x ix k = some r) : ∃ o, indexE P env t x ix = some o ∧ k o = some r := by
  unfold indexK at h
  split at h
  case h_2 => exact nOpt_eq h
  rename_i s kd i h1 h2 h3
  obtain ⟨c1, h⟩ := nIte_none h
  obtain ⟨b, hb, h⟩ := nOpt_eq h
  have c1 := of_decide_eq_true c1
  unfold indexE
  simp only [h1, h2, h3, c1, hb, if_true]
  exact ⟨_, rfl, h⟩

/-- bytes to a string -/
def convertK (P : Program) (env : Env) (src dst : TypeId) (x : Operand) (k : Out → Option R) : Option R :=
  match ev env x, P.underlying dst, P.underlying src with
  | some (.vec l _), some .string, some (.slice e) => if isU8 P e then nOpt (mapO byteOf l) fun bs => k ⟨[], [], .str bs, none⟩ else none
  | _, _, _ => nOpt (convertE P env src dst x) k
theorem convertK_eq {P : Program} {env : Env} {src dst : TypeId} {x : Operand} {k : Out → Option R} {r : R} (h : convertK P env src dst x k = some r) : ∃ o, convertE P env src dst x = some o ∧ k o = some r := by
  unfold convertK at h
  split at h
  case h_2 => exact nOpt_eq h
  rename_i l ow e h1 h2 h3
  split at h
  case isFalse => cases h
  rename_i hu
  obtain ⟨bs, hb, h⟩ := nOpt_eq h
  unfold convertE
  simp only [h1, h2, h3, hu, hb, if_true]
  exact ⟨_, rfl, h⟩

def boundK (n : Nat) (v : Option AVal) (d : Nat) (k : Nat → Option R) : Option R :=
  match v with
  | none => k d
  | some (.int _ i) => nIte (decide (0 ≤ i)) (nIte (decide (i ≤ n)) (k i.toNat) none) none
  | some _ => none
theorem boundK_eq {n : Nat} {v : Option AVal} {d : Nat} {k : Nat → Option R} {r : R} (h : boundK n v d k = some r) : ∃ m, boundE n v d = some m ∧ k m = some r := by
  unfold boundK at h
  split at h
  · exact ⟨_, rfl, h⟩
  · obtain ⟨c1, h⟩ := nIte_none h
    obtain ⟨c2, h⟩ := nIte_none h
    refine ⟨_, ?_, h⟩
    have c1 := of_decide_eq_true c1
    have c2 := of_decide_eq_true c2
    simp only [boundE, c1, c2, and_self, if_true]
  · cases h
def isTip0 : Own → Bool
  | .tip 0 => true
  | .nul => true
  | _ => false
theorem isTip0_iff {o : Own} : isTip0 o = true ↔ (o = .tip 0 ∨ o = .nul) := by
  cases o with
  | tip k => cases k <;> simp [isTip0]
  | _ => simp [isTip0]
def nTip (b i c : Bool) (y n : Option R) : Option R := match b with
  | true => (match i with
    | true => y
    | false => nIte c y n)
  | false => n
theorem nTip_eq {b i c : Bool} {y n : Option R} {r : R} (h : nTip b i c y n = some r) : (b = true ∧ (i = true ∨ c = true) ∧ y = some r) ∨ ((b = false ∨ (i = false ∧ c = false)) ∧ n = some r) := by
  unfold nTip at h
  split at h
  · split at h
    · exact .inl ⟨rfl, .inl rfl, h⟩
    · rcases nIte_eq h with ⟨h1, h2⟩ | ⟨h1, h2⟩
      · exact .inl ⟨rfl, .inr h1, h2⟩
      · exact .inr ⟨.inr ⟨rfl, h1⟩, h2⟩
  · exact .inr ⟨.inl rfl, h⟩
def sliceK (P : Program) (env : Env) (t : TypeId) (x : Operand) (lo hi mx : Option Operand) (k : Out → Option R) : Option R :=
  match P.underlying t, ev env x, evOpt env lo, evOpt env hi, evOpt env mx with
  | some .string, some (.str s), some lv, some hv, some none => boundK s.length hv s.length fun h => boundK h lv 0 fun l => k ⟨[], [], .str ((s.take h).drop l), none⟩
  | some (.slice elem), some (.vec s sw), some lv, some hv, some none => if (P.underlying elem).isSome then nIte (headOk (P.cellsOf elem) s) (boundK s.length hv s.length fun h => boundK h lv 0 fun l =>
      match rawv env x, x with
        | some (.vec _ (.ex kk)), .tmp j => k ⟨[(j, deadV)], [j], .vec ((s.take h).drop l) (.ex kk), none⟩
        | _, _ => nTip (isTip0 sw) hv.isNone (decide (h = s.length)) (k ⟨esc env x, [], .vec ((s.take h).drop l) (.tip 0), none⟩) (k ⟨esc env x, [], .vec ((s.take h).drop l) .ro, none⟩)) none else none
  | some (.slice elem), some (.vec s _), some lv, some (some hv), some (some (.int _ m)) => if (P.underlying elem).isSome then nIte (headOk (P.cellsOf elem) s) (nIte (decide (0 ≤ m)) (nIte (decide (m ≤ s.length)) (boundK m.toNat (some hv) 0 fun h => boundK h lv 0 fun l =>
      nIte (decide (h = m.toNat)) (k ⟨esc env x, [], .vec ((s.take h).drop l) (.tip 0), none⟩) (k ⟨esc env x, [], .vec ((s.take h).drop l) .ro, none⟩)) none) none) none else none
  | _, _, _, _, _ => nOpt (sliceE P env t x lo hi mx) k
theorem sliceK_eq {P : Program} {env : Env} {t : TypeId} {x : Operand} {lo hi mx : Option Operand} {k : Out → Option R} {r : R} (h : sliceK P env t x lo hi mx k = some r) : ∃ o, sliceE P env t x lo hi mx = some o ∧ k o = some r := by
  unfold sliceK at h
  split at h
  case h_4 => exact nOpt_eq h
  · rename_i s lv hv h1 h2 h3 h4 h5
    obtain ⟨hh, e1, h⟩ := boundK_eq h
    obtain ⟨ll, e2, h⟩ := boundK_eq h
    unfold sliceE
    simp only [h1, h2, h3, h4, h5, e1, e2]
    exact ⟨_, rfl, h⟩
  · rename_i elem s sw lv hv h1 h2 h3 h4 h5
    split at h
    case isFalse => cases h
    rename_i hu
    obtain ⟨c1, h⟩ := nIte_none h
    obtain ⟨hh, e1, h⟩ := boundK_eq h
    obtain ⟨ll, e2, h⟩ := boundK_eq h
    unfold sliceE
    simp only [h1, h2, h3, h4, h5, e1, e2, c1, hu, and_self, if_true]
    split at h
    · rename_i q1
      simp only [q1]
      exact ⟨_, rfl, h⟩
    · rename_i q1
      split
      · rename_i kk j q2
        exact absurd rfl (q1 _ _ _ q2)
      · rcases nTip_eq h with ⟨c, c', h⟩ | ⟨c, h⟩
        · have hsw := isTip0_iff.1 c
          have hhs : hh = s.length := by
            rcases c' with c' | c'
            · cases hv with
              | none => cases e1; rfl
              | some v => cases c'
            · exact of_decide_eq_true c'
          exact ⟨_, by simp only [hsw, hhs, and_self, if_true, outU], hhs ▸ h⟩
        · have hno : ¬ ((sw = .tip 0 ∨ sw = .nul) ∧ hh = s.length) := by
            rintro ⟨e3, e4⟩
            rcases c with c | ⟨_, c⟩
            · rw [isTip0_iff.2 e3] at c; cases c
            · exact of_decide_eq_false c e4
          exact ⟨_, by simp only [hno, if_false, outU], h⟩
  · rename_i elem s sw lv hv kd m h1 h2 h3 h4 h5
    split at h
    case isFalse => cases h
    rename_i hu
    obtain ⟨c1, h⟩ := nIte_none h
    obtain ⟨c2, h⟩ := nIte_none h
    obtain ⟨c3, h⟩ := nIte_none h
    have c2 := of_decide_eq_true c2
    have c3 := of_decide_eq_true c3
    obtain ⟨hh, e1, h⟩ := boundK_eq h
    obtain ⟨ll, e2, h⟩ := boundK_eq h
    unfold sliceE
    simp only [h1, h2, h3, h4, h5, e1, e2, c1, c2, c3, hu, and_self, if_true]
    rcases nIte_eq h with ⟨c, h⟩ | ⟨c, h⟩
    · have c := of_decide_eq_true c
      exact ⟨_, by simp only [c, if_true, outU], h⟩
    · have c := of_decide_eq_false c
      exact ⟨_, by simp only [c, if_false, outU], h⟩
end Go.Abs
end

section
/- The evaluator with what comes behind handed down: appending, making, and all operations that look at slots alone. -/
namespace Go.Abs
open Go
variable {R : Type}

def growK (P : Program) (t : TypeId) (l : List AVal) (ow : Own) (xs : List AVal) (k : AVal → Option R) : Option R :=
  match P.underlying t with
  | some (.slice elem) => match P.underlying elem, zeroOf P elem with
    | some _, some z => nIte xs.isEmpty (k (.vec l ow))
      (if P.cellsOf elem ≠ 0 ∧ fitsOwn (P.cellsOf elem) ow = true ∧ z.cells.length = P.cellsOf elem then
        nIte (headOk (P.cellsOf elem) l) (nIte (headOk (P.cellsOf elem) xs)
          (nIte (decide ((l.length + xs.length) * P.bytesOf elem ≤ 140737488355328)) (nIte (decide (l.length + xs.length ≤ 140737488355328)) (k (.vec (l ++ xs) (grownOwn (P.cellsOf elem) ow))) none) none) none) none
      else none)
    | _, _ => none
  | _ => none
theorem growK_eq {P : Program} {t : TypeId} {l : List AVal} {ow : Own} {xs : List AVal} {k : AVal → Option R} {r : R} (h : growK P t l ow xs k = some r) : ∃ v, growE P t l ow xs = some v ∧ k v = some r := by
  unfold growK at h
  split at h
  case h_2 => cases h
  rename_i elem h1
  split at h
  case h_2 => cases h
  rename_i d z h2 h3
  unfold growE
  simp only [h1, h2, h3]
  rcases nIte_eq h with ⟨c, h⟩ | ⟨c, h⟩
  · simp only [c, if_true]
    exact ⟨_, rfl, h⟩
  · split at h
    case isFalse => cases h
    rename_i hc
    obtain ⟨c1, h⟩ := nIte_none h
    obtain ⟨c2, h⟩ := nIte_none h
    obtain ⟨c3, h⟩ := nIte_none h
    obtain ⟨c4, h⟩ := nIte_none h
    have c3 := of_decide_eq_true c3
    have c4 := of_decide_eq_true c4
    rw [if_neg (by rw [c]; decide), if_pos ⟨c1, c2, hc.1, c3, c4, hc.2.1, hc.2.2⟩]
    exact ⟨_, rfl, h⟩
def appendNK (P : Program) (env : Env) (c : Call) (k : Out → Option R) : Option R :=
  match c.args.toList, c.argTypes.toList with
  | [s, x], t :: r => if !rowArg P r then none else match (ev env x).bind elemsOf, takeN env s with
    | some xs, some (l, ow, ups, gone) => growK P t l ow xs fun v => k ⟨ups, gone, v, none⟩
    | _, _ => none
  | _, _ => none
theorem appendNK_eq {P : Program} {env : Env} {c : Call} {k : Out → Option R} {r : R} (h : appendNK P env c k = some r) : ∃ o, appendN P env c = some o ∧ k o = some r := by
  unfold appendNK at h
  split at h
  case h_2 => cases h
  rename_i s x t rr h1 h2
  split at h
  case isTrue => cases h
  rename_i h3
  split at h
  case h_2 => cases h
  rename_i xs l ow ups gone h4 h5
  obtain ⟨v, hv, h⟩ := growK_eq h
  unfold appendN
  simp only [h1, h2, h4, h5, hv, h3]
  exact ⟨_, rfl, h⟩
def appendCK (P : Program) (env facts : Env) (heap : Heap) (c : Call) (k : OutC → Option R) : Option R :=
  match c.args.toList, c.argTypes.toList with
  | [s, x], t :: r => if !rowArg P r then none else match (ev env x).bind elemsOf, takeN env s with
    | some xs, some (l, ow, ups, gone) => growK P t l ow xs fun v => k ⟨⟨ups, gone, v, none⟩, heap, []⟩
    | some xs, none => (match takeC env facts heap s with
      | some (l, ow, h) => growK P t l ow xs fun v => k ⟨⟨[], [], v, none⟩, h, []⟩
      | none => none)
    | _, _ => none
  | _, _ => none
theorem appendCK_eq {P : Program} {env facts : Env} {heap : Heap} {c : Call} {k : OutC → Option R} {r : R} (h : appendCK P env facts heap c k = some r) : ∃ o, appendC P env facts heap c = some o ∧ k o = some r := by
  unfold appendCK at h
  split at h
  case h_2 => cases h
  rename_i s x t rr h1 h2
  split at h
  case isTrue => cases h
  rename_i h3
  split at h
  case h_3 => cases h
  · rename_i xs l ow ups gone h4 h5
    obtain ⟨v, hv, h⟩ := growK_eq h
    unfold appendC appendN
    simp only [h1, h2, h4, h5, hv, h3]
    exact ⟨_, rfl, h⟩
  · rename_i xs h4 h5
    split at h
    case h_2 => cases h
    rename_i l ow hp h6
    obtain ⟨v, hv, h⟩ := growK_eq h
    unfold appendC appendN
    simp only [h1, h2, h4, h5, h6, hv, h3]
    exact ⟨_, rfl, h⟩

def makeSliceK (P : Program) (env : Env) (t : TypeId) (l c : Operand) (k : Out → Option R) : Option R :=
  match P.underlying t, ev env l, ev env c with
  | some (.slice elem), some (.int _ n), some (.int _ m) => match zeroOf P elem with
    | some z => if z.cells.length = P.cellsOf elem ∧ P.cellsOf elem ≠ 0 ∧ isTup z = false then
        nIte (decide (0 ≤ n)) (nIte (decide (n ≤ m)) (nIte (decide ((P.bytesOf elem : Int) * m ≤ 2 ^ 47)) (nIte (decide (m ≤ 2 ^ 47)) (k ⟨[], [], .vec (List.replicate n.toNat (strip z)) (.ex (P.cellsOf elem)), none⟩) none) none) none) none else none
    | none => none
  | _, _, _ => none
theorem makeSliceK_eq {P : Program} {env : Env} {t : TypeId} {l c : Operand} {k : Out → Option R} {r : R} (h : makeSliceK P env t l c k = some r) : ∃ o, makeSliceE P env t l c = some o ∧ k o = some r := by
  unfold makeSliceK at h
  split at h
  case h_2 => cases h
  rename_i elem k1 n k2 m h1 h2 h3
  split at h
  case h_2 => cases h
  rename_i z hz
  split at h
  case isFalse => cases h
  rename_i hc
  obtain ⟨c1, h⟩ := nIte_none h
  obtain ⟨c2, h⟩ := nIte_none h
  obtain ⟨c3, h⟩ := nIte_none h
  obtain ⟨c4, h⟩ := nIte_none h
  have c1 := of_decide_eq_true c1
  have c2 := of_decide_eq_true c2
  have c3 := of_decide_eq_true c3
  have c4 := of_decide_eq_true c4
  unfold makeSliceE
  simp only [h1, h2, h3, hz]
  rw [if_pos ⟨c1, c2, c3, c4, hc.1, hc.2.1, hc.2.2⟩]
  exact ⟨_, rfl, h⟩

/-! ### Maps -/
def eqE (P : Program) (kt : TypeId) (a b : AVal) : Option Bool := match toV a, toV b with
  | some u, some v => pureRun P (Op.equal kt u v)
  | _, _ => none
def eqK (P : Program) (kt : TypeId) (a b : AVal) (k : Bool → Option R) : Option R := match a, b with
  | .agg xs, .agg ys => (match eqStruct P kt xs ys with
    | some e => nIte e (k true) (k false)
    | none => nOpt (eqE P kt (.agg xs) (.agg ys)) k)
  | a, b => nOpt (eqE P kt a b) k
theorem eqK_eq {P : Program} {kt : TypeId} {a b : AVal} {k : Bool → Option R} {r : R} (h : eqK P kt a b k = some r) : ∃ e, eqE P kt a b = some e ∧ k e = some r := by
  unfold eqK at h
  split at h
  · rename_i xs ys
    split at h
    · rename_i e he
      obtain ⟨ul, vl, h1, h2, h3, _⟩ := struct_run he
      have : eqE P kt (.agg xs) (.agg ys) = some e := by
        simp only [eqE, toV, h1, h2, Option.map_some]
        exact h3
      refine ⟨e, this, ?_⟩
      rcases nIte_eq h with ⟨rfl, h⟩ | ⟨rfl, h⟩ <;> exact h
    · exact nOpt_eq h
  · exact nOpt_eq h
def keyIdxK (P : Program) (kt : TypeId) (a : AVal) (k : Option Nat → Option R) : List (AVal × AVal) → Nat → Option R
  | [], _ => k none
  | e :: r, i => eqK P kt a e.1 fun b => match b with
    | true => k (some i)
    | false => keyIdxK P kt a k r (i + 1)
theorem keyIdxK_eq {P : Program} {kt : TypeId} {a : AVal} {kv : Value} (ha : toV a = some kv) {k : Option Nat → Option R} {r : R} : ∀ (es : List (AVal × AVal)) (i : Nat), keyIdxK P kt a k es i = some r → ∃ o, keyIdx P kt kv es i = some o ∧ k o = some r := by
  intro es
  induction es with
  | nil => intro i h; exact ⟨_, rfl, h⟩
  | cons e es ih =>
    intro i h
    unfold keyIdxK at h
    obtain ⟨b, h1, h⟩ := eqK_eq h
    unfold eqE at h1
    rw [ha] at h1
    split at h1
    case h_2 => cases h1
    rename_i u v hu hv
    cases hu
    unfold keyIdx
    simp only [hv, h1]
    cases b with
    | true => exact ⟨_, rfl, h⟩
    | false => exact ih _ h
def lookupK (P : Program) (env : Env) (t : TypeId) (x ix : Operand) (ok : Bool) (obj : Option AObj) (k : Out → Option R) : Option R :=
  match P.underlying t, ev env x, ev env ix with
  | some (.map kt et), some (.map r), some a => (match toV a, entriesE r obj with
    | some kv, some es => (match P.underlying kt, pureRun P (Instr.checkKey es.isEmpty 10000 kt kv) with
      | some _, some _ => keyIdxK P kt a (fun o => match o with
        | some i => (match es[i]? with
          | some e => if isTup e.2 then none else k ⟨[], [], if ok then .tup [ro e.2, .bool true] else ro e.2, none⟩
          | none => none)
        | none => (match zeroOf P et with
          | some z => if isTup z then none else k ⟨[], [], if ok then .tup [ro z, .bool false] else ro z, none⟩
          | none => none)) es 0
      | _, _ => none)
    | _, _ => none)
  | _, _, _ => none
theorem lookupK_eq {P : Program} {env : Env} {t : TypeId} {x ix : Operand} {ok : Bool} {obj : Option AObj} {k : Out → Option R} {r : R} (h : lookupK P env t x ix ok obj k = some r) : ∃ out, lookupE P env t x ix ok obj = some out ∧ k out = some r := by
  unfold lookupK at h
  split at h
  case h_2 => cases h
  rename_i kt et r0 a h1 h2 h3
  split at h
  case h_2 => cases h
  rename_i kv es h4 h5
  split at h
  case h_2 => cases h
  rename_i d u h6 h7
  obtain ⟨o, h8, h⟩ := keyIdxK_eq h4 _ _ h
  have h9 : findE P es.isEmpty kt kv es = some o := by
    unfold findE
    simp only [h6, h7, h8]
  unfold lookupE
  simp only [h1, h2, h3, Option.bind_some, h4, h5, h9]
  cases o with
  | some i =>
    simp only at h ⊢
    split at h
    case h_2 => cases h
    rename_i e he
    simp only [he]
    split at h
    · cases h
    · rename_i hn
      rw [if_neg hn]
      exact ⟨_, rfl, h⟩
  | none =>
    simp only at h ⊢
    split at h
    case h_2 => cases h
    rename_i z hz
    simp only [hz]
    split at h
    · cases h
    · rename_i hn
      rw [if_neg hn]
      exact ⟨_, rfl, h⟩

def opK (X : Ctx) (pre : List (Nat × Nat)) (env : Env) (o : Oper) (k : Out → Option R) : Option R :=
  match o.op with
  | .binOp op t x y _ => (match ev env x, ev env y with
    | some a, some b => binK X.P op t x y a b fun v => k ⟨[], [], v, none⟩
    | _, _ => none)
  | .pick c a b => pickK env c a b k
  | .convert src dst x => convertK X.P env src dst x k
  | .makeSlice t l c => makeSliceK X.P env t l c k
  | .slice t x lo hi mx => if isSub X.hint.subs o then nOpt (opN X pre env o) k else sliceK X.P env t x lo hi mx k
  | .indexAddr t x ix => indexAddrK X.P env t x ix k
  | .index t x ix => indexK X.P env t x ix k
  | .call c => (match c.callee with
    | .builtin .append => appendNK X.P env c k
    | _ => nOpt (opN X pre env o) k)
  | _ => nOpt (opN X pre env o) k
theorem opK_eq {X : Ctx} {pre : List (Nat × Nat)} {env : Env} {o : Oper} {k : Out → Option R} {r : R} (h : opK X pre env o k = some r) : ∃ out, opN X pre env o = some out ∧ k out = some r := by
  unfold opK at h
  split at h
  · rename_i op t x y _ ho
    split at h
    case h_2 => cases h
    rename_i a b ha hb
    obtain ⟨v, hv, h⟩ := binK_eq h
    exact ⟨_, by simp only [opN, ho, binOpE, ha, hb, hv, outV], h⟩
  · rename_i c a b ho
    obtain ⟨v, hv, h⟩ := pickK_eq h
    exact ⟨_, by simp only [opN, ho, hv], h⟩
  · rename_i src dst x ho
    obtain ⟨v, hv, h⟩ := convertK_eq h
    exact ⟨_, by simp only [opN, ho, hv], h⟩
  · rename_i t l c ho
    obtain ⟨v, hv, h⟩ := makeSliceK_eq h
    exact ⟨_, by simp only [opN, ho, hv], h⟩
  · rename_i t x lo hi mx ho
    split at h
    · exact nOpt_eq h
    · rename_i hsub
      obtain ⟨v, hv, h⟩ := sliceK_eq h
      exact ⟨_, by simp only [opN, ho, hv]; rw [if_neg hsub], h⟩
  · rename_i t x ix ho
    obtain ⟨v, hv, h⟩ := indexAddrK_eq h
    exact ⟨_, by simp only [opN, ho, hv], h⟩
  · rename_i t x ix ho
    obtain ⟨v, hv, h⟩ := indexK_eq h
    exact ⟨_, by simp only [opN, ho, hv], h⟩
  · rename_i c ho
    split at h
    · rename_i hc
      obtain ⟨v, hv, h⟩ := appendNK_eq h
      exact ⟨_, by simp only [opN, ho, hc, hv], h⟩
    · exact nOpt_eq h
  · exact nOpt_eq h
end Go.Abs
end

section
/- The evaluator with what comes behind handed down: regions and code. -/
namespace Go.Abs
open Go
variable {R : Type}

abbrev KCall (R : Type) := Fn → List AVal → Heap → (AVal → Heap → List Nat → Option R) → Option R
def KCallOK (kc : KCall R) (call : CallF) : Prop := ∀ g args H k r, kc g args H k = some r → ∃ v h w, call g args H = some (v, h, w) ∧ k v h w = some r
abbrev KLoop (R : Type) := Code → St → (Ex → St → Option R) → Option (Option R)
/-- the loops of some code -/
def loopsIn : Code → List Code
  | .seq a b => loopsIn a ++ loopsIn b
  | .cond _ a b => loopsIn a ++ loopsIn b
  | .block _ c => loopsIn c
  | .loop c => c :: loopsIn c
  | _ => []
def KLoopOK (lp : KLoop R) (X : Ctx) (L : List Code) : Prop := ∀ c, c ∈ L → ∀ st k r, lp c st k = some (some r) → ∃ e st', codeE X (.loop c) st = some (e, st') ∧ k e st' = some r

def callOpK (X : Ctx) (kc : KCall R) (env : Env) (heap : Heap) (c : Call) (f : Operand) (k : OutC → Option R) : Option R :=
  match externE X.P env heap c f with
  | some oc => k oc
  | none =>
  match ev env f with
  | some (.func g first captured) => (match argsE env (takesOf X g) 0 c.args.toList with
    | some s => kc g (first.map strip ++ s.args ++ captured.map strip) heap fun v h w => (match handE env c first (lentF X.takes g) s v h w with
      | some o => k o
      | none => none)
    | none => none)
  | _ => none
theorem callOpK_eq {X : Ctx} {kc : KCall R} (hkc : KCallOK kc X.call) {env : Env} {heap : Heap} {c : Call} {f : Operand} {k : OutC → Option R} {r : R} (h : callOpK X kc env heap c f k = some r) : ∃ o, callOpE X env heap c f = some o ∧ k o = some r := by
  unfold callOpK at h
  split at h
  · rename_i oc hx
    exact ⟨oc, by unfold callOpE; simp only [hx], h⟩
  rename_i hx
  split at h
  case h_2 => cases h
  rename_i g first captured h1
  split at h
  case h_2 => cases h
  rename_i s h2
  obtain ⟨v, hh, w, h3, h⟩ := hkc _ _ _ _ _ h
  split at h
  case h_2 => cases h
  rename_i o ho
  unfold callOpE
  simp only [hx, h1, h2, h3]
  exact ⟨o, ho, h⟩

def isAggB : AVal → Bool
  | .agg _ => true
  | _ => false
/-- a store of one cell into an element that is one cell -/
def storeK (P : Program) (env : Env) (heap : Heap) (t : TypeId) (a x : Operand) (k : OutC → Option R) : Option R :=
  match rawv env a with
  | some (.sptr i j off) => (match rawv env x, ev env x, eget env i with
    | some _, some v, some (.vec l (.ex m)) => if off = 0 ∧ (esc env x).all (fun p => p.1 != i) = true ∧ v.cells.length = 1 ∧ P.cellsOf t = 1 ∧ isAggB v = false then
        nOpt l[j]? fun u => nIte (isAggB u) none (k ⟨⟨esc env x ++ [(i, .vec (l.set j (strip v)) (.ex m))], [], deadV, none⟩, heap, []⟩)
      else nOpt (storeE P env heap t a x) k
    | _, _, _ => none)
  | _ => nOpt (storeE P env heap t a x) k
theorem storeK_eq {P : Program} {env : Env} {heap : Heap} {t : TypeId} {a x : Operand} {k : OutC → Option R} {r : R} (h : storeK P env heap t a x k = some r) : ∃ o, storeE P env heap t a x = some o ∧ k o = some r := by
  unfold storeK at h
  split at h
  · rename_i i j off ha
    split at h
    case h_2 => cases h
    rename_i r0 v l m h1 h2 h3
    split at h
    · rename_i hc
      obtain ⟨rfl, hc2, hc3, hc4, hc5⟩ := hc
      obtain ⟨u, hu, h⟩ := nOpt_eq h
      obtain ⟨hb, h⟩ := nIte_none' h
      refine ⟨_, ?_, h⟩
      unfold storeE
      simp only [ha, h1, h2, h3]
      rw [if_neg (by decide), if_pos hc2, hu]
      clear h
      cases v <;> first | (cases hc5; done) | (cases u <;> first | (cases hb; done) | (simp only []; rw [if_pos (by simp_all)]))
    · exact nOpt_eq h
  · exact nOpt_eq h

def opCK (X : Ctx) (kc : KCall R) (env facts : Env) (heap : Heap) (o : Oper) (k : OutC → Option R) : Option R :=
  match o.op with
  | .call c => (match c.callee with
    | .builtin .append => appendCK X.P env facts heap c k
    | .value f => callOpK X kc env heap c f k
    | _ => nOpt (opC X env facts heap o) k)
  | .store t a x => storeK X.P env heap t a x k
  | _ => nOpt (opC X env facts heap o) k
theorem opCK_eq {X : Ctx} {kc : KCall R} (hkc : KCallOK kc X.call) {env facts : Env} {heap : Heap} {o : Oper} {k : OutC → Option R} {r : R} (h : opCK X kc env facts heap o k = some r) : ∃ out, opC X env facts heap o = some out ∧ k out = some r := by
  unfold opCK at h
  split at h
  · rename_i c ho
    split at h
    · rename_i hc
      obtain ⟨v, hv, h⟩ := appendCK_eq h
      exact ⟨_, by simp only [opC, ho, hc, hv], h⟩
    · rename_i f hc
      obtain ⟨v, hv, h⟩ := callOpK_eq hkc h
      exact ⟨_, by simp only [opC, ho, hc, hv], h⟩
    · exact nOpt_eq h
  · rename_i t a x ho
    obtain ⟨v, hv, h⟩ := storeK_eq h
    exact ⟨_, by simp only [opC, ho, hv], h⟩
  · exact nOpt_eq h

def planK (X : Ctx) (kc : KCall R) (pre : List (Nat × Nat)) (kd : Kind) (o : Oper) (env fs : Env) (heap : Heap) (k : Option (Nat × Nat) → List Nat → OutC → Option R) : Option R :=
  match kd with
  | .N => opK X pre env o fun out => k none [] ⟨noFact out, heap, []⟩
  | .C => opCK X kc env fs heap o fun c => k none [] { c with out := noFact c.out }
  | .L => (match o.op with
    | .lookup t x ix ok => lookupK X.P env t x ix ok ((aimE env o).bind (hget heap)) fun out => k none (aimE env o).toList ⟨factOf (aimE env o) out, heap, []⟩
    | _ => nOpt (planE X pre .L o env fs heap) fun p => k p.1 p.2.1 p.2.2)
  | .X => nOpt (planE X pre .X o env fs heap) fun p => k p.1 p.2.1 p.2.2
theorem planK_eq {X : Ctx} {kc : KCall R} (hkc : KCallOK kc X.call) {pre : List (Nat × Nat)} {kd : Kind} {o : Oper} {env fs : Env} {heap : Heap} {k : Option (Nat × Nat) → List Nat → OutC → Option R} {r : R} (h : planK X kc pre kd o env fs heap k = some r) : ∃ a rd c, planE X pre kd o env fs heap = some (a, rd, c) ∧ k a rd c = some r := by
  unfold planK at h
  split at h
  · obtain ⟨out, ho, h⟩ := opK_eq h
    exact ⟨_, _, _, by simp only [planE, ho], h⟩
  · obtain ⟨out, ho, h⟩ := opCK_eq hkc h
    exact ⟨_, _, _, by simp only [planE, ho], h⟩
  · split at h
    · rename_i t x ix ok ho
      obtain ⟨out, hl, h⟩ := lookupK_eq h
      refine ⟨_, _, _, ?_, h⟩
      have : opL X.P env ((aimE env o).bind (hget heap)) o = some out := by
        unfold opL
        simp only [ho, hl]
      simp only [planE, this]
    · obtain ⟨⟨a, rd, c⟩, ho, h⟩ := nOpt_eq h
      exact ⟨_, _, _, ho, h⟩
  · obtain ⟨⟨a, rd, c⟩, ho, h⟩ := nOpt_eq h
    exact ⟨_, _, _, ho, h⟩

/-- does an operation run -/
def wantedK (env facts : Env) (ops : List Oper) (o : Oper) (y n : Option R) : Option R :=
  match o.guard with
  | none => y
  | some (j, want) => match (ops[j]?).bind (·.dst) with
    | some d => (match eget env d with
      | some (.bool b) => (match want with
        | true => nIte b y n
        | false => nIte b n y)
      | _ => if isUn (eget facts d) then n else none)
    | none => n
theorem wantedK_eq {env facts : Env} {ops : List Oper} {o : Oper} {y n : Option R} {r : R} (h : wantedK env facts ops o y n = some r) : (wantedE env facts ops o = some true ∧ y = some r) ∨ (wantedE env facts ops o = some false ∧ n = some r) := by
  unfold wantedK at h
  unfold wantedE
  split at h
  · rename_i hg
    simp only [hg]
    exact .inl ⟨trivial, h⟩
  · rename_i j want hg
    simp only [hg]
    split at h
    · rename_i d hd
      simp only [hd]
      split at h
      · rename_i b hb
        simp only [hb]
        split at h
        · rcases nIte_eq h with ⟨rfl, h⟩ | ⟨rfl, h⟩
          · exact .inl ⟨rfl, h⟩
          · exact .inr ⟨rfl, h⟩
        · rcases nIte_eq h with ⟨rfl, h⟩ | ⟨rfl, h⟩
          · exact .inr ⟨rfl, h⟩
          · exact .inl ⟨rfl, h⟩
      · rename_i hb
        split at h
        · rename_i hu
          right
          refine ⟨?_, h⟩
          split
          · rename_i b' hb'
            exact absurd hb' (hb _)
          · simp only [hu, if_true]
        · cases h
    · rename_i hd
      simp only [hd]
      exact .inr ⟨trivial, h⟩

/-- a slot's truth value is put down as it was decided -/
def eput : Env → Nat → AVal → Env
  | [], _, _ => []
  | (j, u) :: r, i, v => if j = i then (j, v) :: r else (j, u) :: eput r i v
theorem eput_same (e : Env) (i : Nat) (v : AVal) (h : eget e i = some v) : eput e i v = e := by
  induction e with
  | nil => rfl
  | cons p r ih =>
    obtain ⟨j, u⟩ := p
    unfold eget at h
    unfold eput
    split at h
    · rename_i hj
      cases h
      rw [if_pos hj]
    · rename_i hj
      rw [if_neg hj, ih h]
def litS (st : St) (d : Nat) (b : Bool) : St := { st with env := eput st.env d (.bool b) }
theorem litS_same {st : St} {d : Nat} {b : Bool} (h : eget st.env d = some (.bool b)) : litS st d b = st := by
  unfold litS
  rw [eput_same _ _ _ h]
/-- a decision, of which one side alone may be run -/
def nAsm (o : Option Bool) (b : Bool) (y n : Option R) : Option R := match o with
  | none => nIte b y n
  | some true => nIte b y none
  | some false => nIte b none n
theorem nAsm_eq {o : Option Bool} {b : Bool} {y n : Option R} {r : R} (h : nAsm o b y n = some r) : (b = true ∧ y = some r) ∨ (b = false ∧ n = some r) := by
  unfold nAsm at h
  split at h
  · exact nIte_eq h
  · exact .inl (nIte_none h)
  · exact .inr (nIte_none' h)

def stepC (X : Ctx) (kc : KCall R) (pre : List (Nat × Nat)) (ops : List Oper) (o : Oper) (st : St) (k : St → Tr → Option R) : Option R :=
  let ts := slotsOf ops o
  let rs := rootsOf st.env ts
  if rs.all (fun i => X.hint.vars.testBit i && isVecAt st.env i) then
    let req := ts ++ rs
    let env := viewOf st.env req
    let fs := viewOf st.facts ts
    wantedK env fs ops o
      (planK X kc pre (kindE ops o) o env fs st.heap fun ahead rd c => if okE req o.dst c then k (applyE ahead st o.dst c) (traceE X.hint.vars st o.dst req rd (limE (kindE ops o) st.heap) c) else none)
      (let c : OutC := ⟨⟨[], [], deadV, none⟩, st.heap, []⟩
        let st' := applyE none st o.dst c
        k { st' with facts := factU st'.facts o.dst } (traceE X.hint.vars st o.dst req [] none c))
  else none
theorem stepC_eq {X : Ctx} {kc : KCall R} (hkc : KCallOK kc X.call) {pre : List (Nat × Nat)} {ops : List Oper} {o : Oper} {st : St} {k : St → Tr → Option R} {r : R} (h : stepC X kc pre ops o st k = some r) : ∃ st' t, stepE X pre ops o st = some (st', t) ∧ k st' t = some r := by
  unfold stepC at h
  unfold stepE
  simp only at h ⊢
  split at h
  case isFalse => cases h
  rename_i hc
  simp only [hc, if_true]
  rcases wantedK_eq h with ⟨hw, h⟩ | ⟨hw, h⟩
  · simp only [hw]
    obtain ⟨a, rd, c, hp, h⟩ := planK_eq hkc h
    simp only [hp]
    split at h
    · rename_i hk
      simp only [hk, if_true]
      exact ⟨_, _, rfl, h⟩
    · cases h
  · simp only [hw]
    exact ⟨_, _, rfl, h⟩

/-- the slot by which an operation's guard is told -/
def gslot (ops : List Oper) (o : Oper) : Option Nat := match o.guard with
  | some (j, _) => (ops[j]?).bind (·.dst)
  | none => none
def stepK (X : Ctx) (kc : KCall R) (asm : Nat → Option Bool) (pre : List (Nat × Nat)) (ops : List Oper) (o : Oper) (st : St) (k : St → Tr → Option R) : Option R :=
  match gslot ops o with
  | some d => (match eget st.env d with
    | some (.bool b) => nAsm (asm d) b (stepC X kc pre ops o (litS st d true) k) (stepC X kc pre ops o (litS st d false) k)
    | _ => stepC X kc pre ops o st k)
  | none => stepC X kc pre ops o st k
theorem stepK_eq {X : Ctx} {kc : KCall R} (hkc : KCallOK kc X.call) {asm : Nat → Option Bool} {pre : List (Nat × Nat)} {ops : List Oper} {o : Oper} {st : St} {k : St → Tr → Option R} {r : R} (h : stepK X kc asm pre ops o st k = some r) : ∃ st' t, stepE X pre ops o st = some (st', t) ∧ k st' t = some r := by
  unfold stepK at h
  split at h
  · split at h
    · rename_i b hb
      rcases nAsm_eq h with ⟨rfl, h1⟩ | ⟨rfl, h1⟩
      · rw [litS_same hb] at h1
        exact stepC_eq hkc h1
      · rw [litS_same hb] at h1
        exact stepC_eq hkc h1
    · exact stepC_eq hkc h
  · exact stepC_eq hkc h

def opsK (X : Ctx) (kc : KCall R) (asm : Nat → Option Bool) (pre : List (Nat × Nat)) (ops : List Oper) (k : St → List Tr → Option R) : List Oper → St → List Tr → Option R
  | [], st, acc => k st acc
  | o :: r, st, acc => stepK X kc asm pre ops o st fun st' t => opsK X kc asm pre ops k r st' (t :: acc)
theorem opsK_eq {X : Ctx} {kc : KCall R} (hkc : KCallOK kc X.call) {asm : Nat → Option Bool} {pre : List (Nat × Nat)} {ops : List Oper} {k : St → List Tr → Option R} {r : R} (os : List Oper) : ∀ {st : St} {acc : List Tr}, opsK X kc asm pre ops k os st acc = some r → ∃ st' acc', opsE X pre ops os st acc = some (st', acc') ∧ k st' acc' = some r := by
  induction os with
  | nil => intro st acc h; exact ⟨_, _, rfl, h⟩
  | cons o os ih =>
    intro st acc h
    unfold opsK at h
    obtain ⟨st', t, h1, h⟩ := stepK_eq hkc h
    obtain ⟨st2, acc2, h2, h⟩ := ih h
    exact ⟨_, _, by simp only [opsE, h1, h2], h⟩

def regionK (X : Ctx) (kc : KCall R) (asm : Nat → Option Bool) (ops : List Oper) (draw : Bool) (st : St) (k : St → Option R) : Option R :=
  match preE X.P ops st.heap with
  | some (pre, h) => opsK X kc asm pre ops (fun st' acc => if !draw || ((acc.all fun t => t.wr.isEmpty && t.wv.isEmpty && t.kl.isEmpty) && (acc.all (fun t => t.lim.isNone) || acc.all (fun t => t.rd.isEmpty))) || apartE (beforeE ops []) acc.reverse then k { st' with facts := [] } else none) ops { st with heap := h } []
  | none => none
theorem regionK_eq {X : Ctx} {kc : KCall R} (hkc : KCallOK kc X.call) {asm : Nat → Option Bool} {ops : List Oper} {draw : Bool} {st : St} {k : St → Option R} {r : R} (h : regionK X kc asm ops draw st k = some r) : ∃ st', regionE X ops draw st = some st' ∧ k st' = some r := by
  unfold regionK at h
  split at h
  case h_2 => cases h
  rename_i pre hp h1
  obtain ⟨st', acc, h2, h⟩ := opsK_eq hkc _ h
  unfold regionE
  simp only [h1, h2]
  split at h
  · rename_i hc
    simp only [hc, if_true]
    exact ⟨_, rfl, h⟩
  · cases h

def iterK (f : St → (Ex → St → Option R) → Option R) (k : Ex → St → Option R) : Nat → St → Option R
  | 0, _ => none
  | n + 1, st => f st fun e st' => match e with
    | .normal => iterK f k n st'
    | e => k e st'
theorem iterK_eq {f : St → (Ex → St → Option R) → Option R} {g : St → Option (Ex × St)} (hf : ∀ st k r, f st k = some r → ∃ e st', g st = some (e, st') ∧ k e st' = some r) {k : Ex → St → Option R} {r : R} (n : Nat) : ∀ {st : St}, iterK f k n st = some r → ∃ e st', iterE g n st = some (e, st') ∧ k e st' = some r := by
  induction n with
  | zero => intro st h; cases h
  | succ n ih =>
    intro st h
    unfold iterK at h
    obtain ⟨e, st', h1, h⟩ := hf _ _ _ h
    unfold iterE
    rw [h1]
    cases e with
    | normal => exact ih h
    | exit i => exact ⟨_, _, rfl, h⟩
    | ret => exact ⟨_, _, rfl, h⟩

def codeK (X : Ctx) (kc : KCall R) (asm : Nat → Option Bool) (lp : KLoop R) : Code → St → (Ex → St → Option R) → Option R
  | .skip, st, k => k .normal st
  | .region _ ops draw, st, k => regionK X kc asm ops.toList draw { st with env := trimE X.hint.vars st.env } fun s => k .normal s
  | .seq a b, st, k => codeK X kc asm lp a st fun e st' => match e with
    | .normal => codeK X kc asm lp b st' k
    | e => k e st'
  | .cond c a b, st, k => match c with
    | .tmp s => (match eget st.env s with
      | some (.bool t) => nAsm (asm s) t (codeK X kc asm lp a (litS st s true) k) (codeK X kc asm lp b (litS st s false) k)
      | _ => none)
    | c => (match ev st.env c with
      | some (.bool t) => nIte t (codeK X kc asm lp a st k) (codeK X kc asm lp b st k)
      | _ => none)
  | .block id c, st, k => codeK X kc asm lp c st fun e st' => match e with
    | .exit i => if i = id then k .normal st' else k (.exit i) st'
    | e => k e st'
  | .loop c, st, k => match lp c st k with
    | some r => r
    | none => iterK (fun s k => codeK X kc asm lp c (headS X.hint.vars X.nt s) k) (fun e s => k e (headS X.hint.vars X.nt s)) X.n st
  | .exit id, st, k => k (.exit id) st
  | .ret, st, k => k .ret st
  | .rangeFunc f ps asg body, st, k => match ev st.env f with
    | some (.func (.func g) first captured) =>
      let id := st.heap.length
      let l : ALoop := { nt := X.nt, env := loopEnv (trimE X.hint.vars st.env), fn := X.fn, params := ps.toList, assign := asg, body := body, resv := X.resv, state := .ready, pend := none }
      kc (.func g) ((first ++ [AVal.func (.yield id) [] []] ++ captured).map strip) (.loop l :: st.heap) fun _ h w => match hget h id with
        | some (.loop lp') => if lp'.state = .busy then none else
          let st' : St := { st with heap := hset h id (.loop { lp' with state := .exhausted }), wr := id :: w ++ st.wr }
          (match lp'.pend with
          | none => k .normal st'
          | some e => k e st')
        | _ => none
    | _ => none
  | _, _, _ => none
theorem codeK_eq {X : Ctx} {kc : KCall R} {asm : Nat → Option Bool} {lp : KLoop R} {L : List Code} (hkc : KCallOK kc X.call) (hlp : KLoopOK lp X L) (c : Code) : (∀ c' ∈ loopsIn c, c' ∈ L) → ∀ {st : St} {k : Ex → St → Option R} {r : R}, codeK X kc asm lp c st k = some r → ∃ e st', codeE X c st = some (e, st') ∧ k e st' = some r := by
  induction c with
  | skip => intro hL st k r h; exact ⟨_, _, rfl, h⟩
  | region id ops draw =>
    intro hL st k r h
    unfold codeK at h
    obtain ⟨st', h1, h⟩ := regionK_eq hkc h
    exact ⟨_, _, by simp only [codeE, h1, Option.map_some], h⟩
  | seq a b iha ihb =>
    intro hL st k r h
    unfold codeK at h
    obtain ⟨e, st', h1, h⟩ := iha (fun c hc => hL c (List.mem_append_left _ hc)) h
    unfold codeE
    rw [h1]
    cases e with
    | normal => exact ihb (fun c hc => hL c (List.mem_append_right _ hc)) h
    | exit i => exact ⟨_, _, rfl, h⟩
    | ret => exact ⟨_, _, rfl, h⟩
  | cond c a b iha ihb =>
    intro hL st k r h
    unfold codeK at h
    split at h
    · rename_i s
      split at h
      case h_2 => cases h
      rename_i t ht
      unfold codeE
      have hev : ev st.env (.tmp s) = some (.bool t) := by simp only [ev, rawv, ht, evV]
      rw [hev]
      rcases nAsm_eq h with ⟨rfl, h1⟩ | ⟨rfl, h1⟩
      · rw [litS_same ht] at h1
        exact iha (fun c hc => hL c (List.mem_append_left _ hc)) h1
      · rw [litS_same ht] at h1
        exact ihb (fun c hc => hL c (List.mem_append_right _ hc)) h1
    · split at h
      case h_2 => cases h
      rename_i t ht
      unfold codeE
      rw [ht]
      rcases nIte_eq h with ⟨rfl, h1⟩ | ⟨rfl, h1⟩
      · exact iha (fun c hc => hL c (List.mem_append_left _ hc)) h1
      · exact ihb (fun c hc => hL c (List.mem_append_right _ hc)) h1
  | block id c ih =>
    intro hL st k r h
    unfold codeK at h
    obtain ⟨e, st', h1, h⟩ := ih (fun c hc => hL c hc) h
    unfold codeE
    rw [h1]
    cases e with
    | normal => exact ⟨_, _, rfl, h⟩
    | ret => exact ⟨_, _, rfl, h⟩
    | exit i =>
      simp only at h ⊢
      split at h
      · rename_i hi
        simp only [hi, if_true]
        exact ⟨_, _, rfl, h⟩
      · rename_i hi
        simp only [hi, if_false]
        exact ⟨_, _, rfl, h⟩
  | loop c ih =>
    intro hL st k r h
    unfold codeK at h
    split at h
    · rename_i r' hr
      subst h
      exact hlp _ (hL c (by simp [loopsIn])) _ _ _ hr
    · obtain ⟨e, st', h1, h⟩ := iterK_eq (g := fun s => codeE X c (headS X.hint.vars X.nt s)) (fun st k r h => ih (fun c' hc => hL c' (by simp [loopsIn, hc])) h) _ h
      exact ⟨_, _, by simp only [codeE, h1, Option.map_some], h⟩
  | exit id => intro hL st k r h; exact ⟨_, _, rfl, h⟩
  | ret => intro hL st k r h; exact ⟨_, _, rfl, h⟩
  | rangeFunc f ps asg body iha ihb =>
    intro hL st k r h
    unfold codeK at h
    split at h
    case h_2 => cases h
    rename_i g first captured hf
    simp only at h
    obtain ⟨v, hh, w, h1, h⟩ := hkc _ _ _ _ _ h
    unfold codeE
    simp only [hf, h1]
    split at h
    case h_2 => cases h
    rename_i lp' hl
    split at h
    case isTrue => cases h
    rename_i hb
    simp only [hl, hb, if_false]
    split at h
    · rename_i hpd
      rw [hpd] at h ⊢
      exact ⟨_, _, rfl, h⟩
    · rename_i e hpd
      rw [hpd] at h ⊢
      exact ⟨_, _, rfl, h⟩
  | _ => intro hL st k r h; simp only [codeK] at h; cases h
end Go.Abs
end

section
/- The evaluator with what comes behind handed down: calls. -/
namespace Go.Abs
open Go
variable {R : Type}

/-- what the evaluator is told: calls that are taken by contract, whatever comes behind them; functions that leave objects behind; loops that are taken by contract -/
structure KX (R : Type) where
  ora : FuncId → List AVal → Heap → (AVal → Heap → List Nat → Option R) → Option (Option R)
  keeps : FuncId → Bool
  asm : FuncId → Nat → Option Bool
  loop : FuncId → Nat → KLoop R

def endK (keep : Bool) (n0 : Nat) (v : AVal) (st : St) (k : AVal → Heap → List Nat → Option R) : Option R :=
  let w := st.wr.filter fun i => decide (i < n0)
  if st.heap.length = n0 then k v st.heap w
  else if keep then nIte (noIds n0 v && w.all (fun i => noIdsO n0 (hget st.heap i))) none (k v st.heap w)
  else nIte (noIds n0 v && w.all (fun i => noIdsO n0 (hget st.heap i))) (k v (st.heap.drop (st.heap.length - n0)) w) none
theorem endK_eq {keep : Bool} {n0 : Nat} {v : AVal} {st : St} {k : AVal → Heap → List Nat → Option R} {r : R} (h : endK keep n0 v st k = some r) : k (endE n0 v st).1 (endE n0 v st).2.1 (endE n0 v st).2.2 = some r := by
  unfold endK at h
  unfold endE
  simp only at h ⊢
  split at h
  · rename_i hl
    split
    · simp only [hl, Nat.sub_self, List.drop_zero]
      exact h
    · exact h
  · split at h
    · obtain ⟨c, h⟩ := nIte_none' h
      rw [if_neg (by rw [c]; decide)]
      exact h
    · obtain ⟨c, h⟩ := nIte_none h
      rw [if_pos c]
      exact h

def outK (keep : Bool) (n0 : Nat) (lent : Bool) (vs : List AVal) (st : St) (k : AVal → Heap → List Nat → Option R) : Option R :=
  match lent with
  | false => endK keep n0 (give (tupA vs)) st k
  | true => match eget st.env 0 with
    | some (.vec l o) => endK keep n0 (.vec l o) st fun v h w => k (lendV vs v) h w
    | _ => none
theorem outK_eq {keep : Bool} {n0 : Nat} {lent : Bool} {vs : List AVal} {st : St} {k : AVal → Heap → List Nat → Option R} {r : R} (h : outK keep n0 lent vs st k = some r) : ∃ v h' w, outE n0 lent vs st = some (v, h', w) ∧ k v h' w = some r := by
  unfold outK at h
  unfold outE
  split at h
  · exact ⟨_, _, _, rfl, endK_eq h⟩
  · split at h
    · rename_i l o hv
      simp only [hv]
      exact ⟨_, _, _, rfl, endK_eq (k := fun v h w => k (lendV vs v) h w) h⟩
    · cases h
def noLoop : KLoop R := fun _ _ _ => none
theorem noLoop_ok (X : Ctx) (L : List Code) : KLoopOK (noLoop (R := R)) X L := fun _ _ _ _ _ h => by cases h

def ctxE (P : Program) (hint : FuncId → Hint) (takes : FuncId → List Nat) (ora : FuncId → List AVal → Heap → Option (AVal × Heap × List Nat)) (n : Nat) (f : FuncId) (fn : Func) : Ctx :=
  { P := P, nt := fn.ntmps, call := callE P hint takes ora n, n := n, hint := hint f, takes := takes, resv := resSlots fn, fn := f }

def callK (P : Program) (hint : FuncId → Hint) (takes : FuncId → List Nat) (ora : FuncId → List AVal → Heap → Option (AVal × Heap × List Nat)) (kx : KX R) : Nat → KCall R
  | 0, _, _, _, _ => none
  | n + 1, .func f, args, H, k =>
    match if hasN (takes f) lentN then none else kx.ora f args H k with
    | some r => r
    | none => match if hasN (takes f) lentN then none else ora f args H with
      | some (v, h, w) => k v h w
      | none => match P.funcs[f]? with
        | some fn => (match fn.body with
          | some body => if hasN (takes f) lentN && (!noDst0 body || args.isEmpty) then none else codeK (ctxE P hint takes ora n f fn) (callK P hint takes ora kx n) (kx.asm f) (kx.loop f n) body { env := enumFrom' 0 args, facts := [], heap := H, wr := [] } fun e st => match e with
            | .exit _ => none
            | _ => match (if nodupN (resSlots fn) then mapO (resE P st) fn.results.toList else none) with
              | some vs => outK (kx.keeps f) H.length (hasN (takes f) lentN) vs st k
              | none => none
          | none => none)
        | none => none
  | n + 1, .yield id, args, H, k => match hget H id with
    | some (.loop lp) => if lp.state = .ready ∧ lp.params.length = args.length ∧ (args.all passB) = true ∧ (lp.env.all fun p => passB p.2) = true then
        codeK { P := P, nt := lp.nt, call := callE P hint takes ora n, n := n, hint := hint lp.fn, takes := takes, resv := lp.resv, fn := lp.fn } (callK P hint takes ora kx n) (fun _ => none) noLoop lp.assign { env := roundEnv lp.params args lp.env, facts := [], heap := H, wr := [] } fun e st => match e with
        | .normal => (match hget st.heap id with
          | some (.loop lp1) => if lp1.state ≠ .ready then none else codeK { P := P, nt := lp.nt, call := callE P hint takes ora n, n := n, hint := hint lp.fn, takes := takes, resv := lp.resv, fn := lp.fn } (callK P hint takes ora kx n) (fun _ => none) noLoop lp.body { st with heap := hset st.heap id (.loop { lp1 with state := .busy }), wr := id :: st.wr } fun e st2 => match hget st2.heap id with
              | some (.loop lp2) =>
                let pend := match e with | .normal => none | e => some e
                k (.bool pend.isNone) (hset st2.heap id (.loop { lp2 with state := if pend.isNone then .ready else .done, pend := pend })) (id :: st2.wr.filter (fun i => decide (i < H.length)))
              | _ => none
          | _ => none)
        | _ => none
      else none
    | _ => none
  | _, _, _, _, _ => none

def KOraOK (kx : KX R) (ora : FuncId → List AVal → Heap → Option (AVal × Heap × List Nat)) : Prop :=
  ∀ f args H k r, kx.ora f args H k = some (some r) → ∃ v h w, ora f args H = some (v, h, w) ∧ k v h w = some r

theorem callK_ok {P : Program} {hint : FuncId → Hint} {takes : FuncId → List Nat} {ora : FuncId → List AVal → Heap → Option (AVal × Heap × List Nat)} {kx : KX R} (hora : KOraOK kx ora) (hlp : ∀ f n fn body, P.funcs[f]? = some fn → fn.body = some body → KLoopOK (kx.loop f n) (ctxE P hint takes ora n f fn) (loopsIn body)) (n : Nat) :
    KCallOK (callK P hint takes ora kx n) (callE P hint takes ora n) := by
  induction n with
  | zero => intro g args H k r h; cases g <;> simp only [callK] at h <;> cases h
  | succ n ih =>
    intro g args H k r h
    cases g with
    | func f =>
      unfold callK at h
      unfold callE
      by_cases hl : hasN (takes f) lentN = true
      · simp only [hl, if_true, Bool.true_and] at h ⊢
        split at h
        case h_2 => cases h
        rename_i fn h2
        simp only [h2]
        split at h
        case h_2 => cases h
        rename_i body h3
        simp only [h3]
        split at h
        case isTrue => cases h
        rename_i hn
        rw [if_neg hn]
        obtain ⟨e, st', h4, h⟩ := codeK_eq ih (hlp f n fn body h2 h3) _ (fun c hc => hc) h
        have h4' : codeE { P := P, nt := fn.ntmps, call := callE P hint takes ora n, n := n, hint := hint f, takes := takes, resv := resSlots fn, fn := f } body { env := enumFrom' 0 args, facts := [], heap := H, wr := [] } = some (e, st') := h4
        rw [h4']
        cases e with
        | exit i => simp only at h; cases h
        | normal =>
          simp only at h ⊢
          split at h
          case h_2 => cases h
          rename_i vs h5
          simp only [h5]
          exact outK_eq h
        | ret =>
          simp only at h ⊢
          split at h
          case h_2 => cases h
          rename_i vs h5
          simp only [h5]
          exact outK_eq h
      · have hl' : hasN (takes f) lentN = false := by simpa using hl
        simp only [hl', Bool.false_eq_true, if_false, Bool.false_and] at h ⊢
        split at h
        · rename_i r' hr
          subst h
          obtain ⟨v, hh, w, h1, h2⟩ := hora _ _ _ _ _ hr
          simp only [h1]
          exact ⟨_, _, _, rfl, h2⟩
        · split at h
          · rename_i v hh w h1
            simp only [h1]
            exact ⟨_, _, _, rfl, h⟩
          · rename_i h1
            simp only [h1]
            split at h
            case h_2 => cases h
            rename_i fn h2
            simp only [h2]
            split at h
            case h_2 => cases h
            rename_i body h3
            simp only [h3]
            obtain ⟨e, st', h4, h⟩ := codeK_eq ih (hlp f n fn body h2 h3) _ (fun c hc => hc) h
            have h4' : codeE { P := P, nt := fn.ntmps, call := callE P hint takes ora n, n := n, hint := hint f, takes := takes, resv := resSlots fn, fn := f } body { env := enumFrom' 0 args, facts := [], heap := H, wr := [] } = some (e, st') := h4
            rw [h4']
            cases e with
            | exit i => simp only at h; cases h
            | normal =>
              simp only at h ⊢
              split at h
              case h_2 => cases h
              rename_i vs h5
              simp only [h5]
              exact outK_eq h
            | ret =>
              simp only at h ⊢
              split at h
              case h_2 => cases h
              rename_i vs h5
              simp only [h5]
              exact outK_eq h
    | yield id =>
      unfold callK at h
      unfold callE
      split at h
      case h_2 => cases h
      rename_i lp h1
      split at h
      case isFalse => cases h
      rename_i hc
      simp only [h1]
      rw [if_pos hc]
      obtain ⟨e, st, h2, h⟩ := codeK_eq ih (noLoop_ok _ _) _ (fun c hc => hc) h
      simp only [h2]
      cases e with
      | exit i => simp only at h; cases h
      | ret => simp only at h; cases h
      | normal =>
        simp only at h ⊢
        split at h
        case h_2 => cases h
        rename_i lp1 h3
        split at h
        case isTrue => cases h
        rename_i hs
        simp only [h3]
        rw [if_neg hs]
        obtain ⟨e2, st2, h4, h⟩ := codeK_eq ih (noLoop_ok _ _) _ (fun c hc => hc) h
        simp only [h4]
        split at h
        case h_2 => cases h
        rename_i lp2 h5
        simp only [h5]
        exact ⟨_, _, _, rfl, h⟩
    | _ => simp only [callK] at h; cases h
end Go.Abs
end

section
/- What a reading of an argument says of it: values of types that hold no references stand in the relation to values of the evaluator. -/
namespace Go.Abs
open Go
set_option linter.unusedSimpArgs false
set_option linter.unusedVariables false

/-- the types of a type's cells -/
def tileL (lv : TypeId → Option (List TypeId)) (sz : TypeId → Nat) : List Field → Nat → Option (List TypeId × Nat)
  | [], off => some ([], off)
  | f :: r, off => if f.offset = off then (match lv f.type, tileL lv sz r (off + sz f.type) with
    | some a, some (b, o) => some (a ++ b, o)
    | _, _ => none) else none
def leaves (P : Program) : Nat → TypeId → Option (List TypeId)
  | 0, _ => none
  | m + 1, t => match P.underlying t with
    | some .bool => some [t]
    | some (.int _) => some [t]
    | some .string => some [t]
    | some (.slice e) => if (leaves P m e).isSome && decide (P.cellsOf e ≠ 0) then some [t] else none
    | some (.struct fs) => (match tileL (leaves P m) P.cellsOf fs.toList 0 with
      | some (ts, o) => if o = P.cellsOf t then some ts else none
      | none => none)
    | _ => none

/-- a value of a type -/
inductive TyV (P : Program) : TypeId → AVal → Prop
  | bool {t : TypeId} (ht : P.underlying t = some .bool) (b : Bool) : TyV P t (.bool b)
  | int {t : TypeId} {k : IntKind} (ht : P.underlying t = some (.int k)) (n : Int) (hn : (Lit.int k n).wf = true) : TyV P t (.int k n)
  | str {t : TypeId} (ht : P.underlying t = some .string) (s : List UInt8) (hs : s.length ≤ maxLen) : TyV P t (.str s)
  | vec {t e : TypeId} (ht : P.underlying t = some (.slice e)) (l : List AVal) (hl : l.length ≤ maxLen) (h : ∀ x ∈ l, TyV P e x) : TyV P t (.vec l .ro)
  | agg {t : TypeId} {fs : Array Field} {m : Nat} {ts : List TypeId} (ht : P.underlying t = some (.struct fs)) (hm : leaves P m t = some ts) (cs : List AVal) (hc : cs.length = ts.length)
      (h : ∀ (i : Nat) (u : TypeId) (v : AVal), ts[i]? = some u → cs[i]? = some v → TyV P u v) : TyV P t (.agg cs)

/-- cells of types -/
def TyL (P : Program) (ts : List TypeId) (cs : List AVal) : Prop := cs.length = ts.length ∧ ∀ (i : Nat) (u : TypeId) (v : AVal), ts[i]? = some u → cs[i]? = some v → TyV P u v ∧ v.cells = [v]
theorem TyL.append {P : Program} {ts us : List TypeId} {cs ds : List AVal} (h : TyL P ts cs) (k : TyL P us ds) : TyL P (ts ++ us) (cs ++ ds) := by
  refine ⟨by simp [h.1, k.1], fun i u v h1 h2 => ?_⟩
  by_cases hi : i < ts.length
  · rw [List.getElem?_append_left hi] at h1
    rw [List.getElem?_append_left (by rw [h.1]; exact hi)] at h2
    exact h.2 i u v h1 h2
  · rw [List.getElem?_append_right (by omega)] at h1
    rw [List.getElem?_append_right (by rw [h.1]; omega), h.1] at h2
    exact k.2 _ u v h1 h2
theorem relL_append {g : G} {w : World} {a b : List AVal} {x y : List Value} (h : RelL g w a x) (k : RelL g w b y) : RelL g w (a ++ b) (x ++ y) := by
  induction a generalizing x with
  | nil => cases h; exact k
  | cons v a ih => cases h with | cons h1 h2 => exact .cons h1 (ih h2)

/-- all that is there is fixed -/
def AllExt (g : G) (w : World) : Prop := ∀ b i v, w.cell? ⟨b, i, none⟩ = some v → i < g.ext b

section
variable {H : Type} {enc : TypeId × Value → H} {P : Program} {w : World} {base : Nat} {spare : Nat → Bool} {held : Bool} {g : G}

/-- what opening some cells gives -/
def Opened (P : Program) (g : G) (w : World) (ts : List TypeId) (cs : List Value) : Prop :=
  ∃ acs, cs.length = ts.length ∧ TyL P ts acs ∧ RelL g w acs cs ∧ One cs

theorem Opened.append {ts us : List TypeId} {cs ds : List Value} (h : Opened P g w ts cs) (k : Opened P g w us ds) : Opened P g w (ts ++ us) (cs ++ ds) := by
  obtain ⟨a, h1, h2, h3, h4⟩ := h
  obtain ⟨b, k1, k2, k3, k4⟩ := k
  exact ⟨a ++ b, by simp [h1, k1], h2.append k2, relL_append h3 k3, fun x hx => (List.mem_append.1 hx).elim (h4 x) (k4 x)⟩

theorem tile_open {lv : TypeId → Option (List TypeId)} (cs : List Value) : ∀ (fs : List Field) (off : Nat) (ts : List TypeId) (o : Nat), tileL lv P.cellsOf fs off = some (ts, o) → o ≤ cs.length →
    (∀ f ∈ fs, ∀ us, lv f.type = some us → Opened P g w us ((cs.drop f.offset).take (P.cellsOf f.type))) → off ≤ o ∧ Opened P g w ts ((cs.drop off).take (o - off)) := by
  intro fs
  induction fs with
  | nil =>
    intro off ts o h ho hf
    simp only [tileL, Option.some.injEq, Prod.mk.injEq] at h
    obtain ⟨rfl, rfl⟩ := h
    refine ⟨Nat.le_refl _, [], by simp, ⟨rfl, fun i u v h => by cases h⟩, ?_, ?_⟩
    · simp only [Nat.sub_self, List.take_zero]; exact .nil
    · intro x hx; simp at hx
  | cons f r ih =>
    intro off ts o h ho hf
    unfold tileL at h
    split at h
    case isFalse => cases h
    rename_i hoff
    split at h
    case h_2 => cases h
    rename_i a b o' h1 h2
    simp only [Option.some.injEq, Prod.mk.injEq] at h
    obtain ⟨rfl, rfl⟩ := h
    obtain ⟨k1, k2⟩ := ih _ _ _ h2 ho (fun f' hf' => hf f' (List.mem_cons_of_mem _ hf'))
    have k3 := hf f List.mem_cons_self a h1
    rw [hoff] at k3
    refine ⟨by omega, ?_⟩
    have : (cs.drop off).take (o' - off) = (cs.drop off).take (P.cellsOf f.type) ++ (cs.drop (off + P.cellsOf f.type)).take (o' - (off + P.cellsOf f.type)) := by
      rw [← List.drop_drop, show o' - off = P.cellsOf f.type + (o' - (off + P.cellsOf f.type)) by omega, List.take_add]
    rw [this]
    exact k3.append k2

/-- the value of some cells -/
def aval (P : Program) (t : TypeId) (cs : List AVal) : AVal := match P.underlying t with
  | some (.struct _) => .agg cs
  | _ => cs.headD deadV
theorem leaves_one {m : Nat} {t : TypeId} {ts : List TypeId} (h : leaves P m t = some ts) (hs : ∀ fs, P.underlying t ≠ some (.struct fs)) : ts = [t] := by
  cases m with
  | zero => cases h
  | succ m =>
    unfold leaves at h
    split at h
    · cases h; rfl
    · cases h; rfl
    · cases h; rfl
    · split at h
      · cases h; rfl
      · cases h
    · rename_i fs hf
      exact absurd hf (hs fs)
    · cases h
theorem aval_ty {m : Nat} {t : TypeId} {ts : List TypeId} {cs : List AVal} (h : leaves P m t = some ts) (k : TyL P ts cs) : TyV P t (aval P t cs) ∧ (aval P t cs).cells = cs := by
  by_cases hs : ∃ fs, P.underlying t = some (.struct fs)
  · obtain ⟨fs, hs⟩ := hs
    unfold aval
    rw [hs]
    exact ⟨.agg hs h cs k.1 fun i u v h1 h2 => (k.2 i u v h1 h2).1, rfl⟩
  · have hs' : ∀ fs, P.underlying t ≠ some (.struct fs) := fun fs he => hs ⟨fs, he⟩
    have := leaves_one h hs'
    subst this
    obtain ⟨k1, k2⟩ := k
    match cs, k1 with
    | [v], _ =>
      have := k2 0 t v rfl rfl
      have he : aval P t [v] = v := by
        unfold aval
        split
        · rename_i fs hf; exact absurd hf (hs' fs)
        · rfl
      rw [he]
      exact this

theorem choose_lt {α : Type} [Inhabited α] {n : Nat} {q : Nat → α → Prop} (h : ∀ i, i < n → ∃ a, q i a) : ∃ F : Nat → α, ∀ i, i < n → q i (F i) := by
  classical
  refine ⟨fun i => if hi : i < n then Classical.choose (h i hi) else default, fun i hi => ?_⟩
  simp only [dif_pos hi]
  exact Classical.choose_spec (h i hi)

theorem flatMap_congr {α β : Type} {l : List α} {f g : α → List β} (h : ∀ a ∈ l, f a = g a) : l.flatMap f = l.flatMap g := by
  rw [List.flatMap_def, List.flatMap_def, List.map_congr_left h]
theorem relL_flat {F : Nat → List AVal} {C : Nat → List Value} : ∀ {n : Nat}, (∀ i, i < n → RelL g w (F i) (C i)) → RelL g w ((List.range n).flatMap F) ((List.range n).flatMap C) := by
  intro n
  induction n with
  | zero => intro _; exact .nil
  | succ n ih =>
    intro h
    rw [List.range_succ, List.flatMap_append, List.flatMap_append]
    refine relL_append (ih fun i hi => h i (by omega)) ?_
    simpa using h n (by omega)
theorem flatR_length {C : Nat → List Value} {k : Nat} : ∀ {n : Nat}, (∀ i, i < n → (C i).length = k) → ((List.range n).flatMap C).length = n * k := by
  intro n
  induction n with
  | zero => intro _; simp
  | succ n ih =>
    intro h
    rw [List.range_succ, List.flatMap_append, List.length_append, ih fun i hi => h i (by omega)]
    simp [h n (by omega), Nat.succ_mul]
theorem flatR_get {C : Nat → List Value} {k : Nat} (hk : 0 < k) : ∀ {n : Nat}, (∀ i, i < n → (C i).length = k) → ∀ j v, ((List.range n).flatMap C)[j]? = some v → j / k < n ∧ (C (j / k))[j % k]? = some v := by
  intro n
  induction n with
  | zero => intro _ j v h; simp at h
  | succ n ih =>
    intro h j v hj
    rw [List.range_succ, List.flatMap_append] at hj
    have hl := flatR_length (n := n) fun i hi => h i (by omega)
    by_cases hlt : j < n * k
    · rw [List.getElem?_append_left (by rw [hl]; exact hlt)] at hj
      obtain ⟨h1, h2⟩ := ih (fun i hi => h i (by omega)) j v hj
      exact ⟨by omega, h2⟩
    · rw [List.getElem?_append_right (by rw [hl]; omega), hl] at hj
      simp only [List.flatMap_cons, List.flatMap_nil, List.append_nil] at hj
      have hjk : j - n * k < k := by
        have := (List.getElem?_eq_some_iff.1 hj).1
        rw [h n (by omega)] at this
        exact this
      have hd : j / k = n := by
        rw [show j = (j - n * k) + k * n by rw [Nat.mul_comm k n]; omega, Nat.add_mul_div_left _ _ hk, Nat.div_eq_of_lt hjk]
        omega
      have hm : j % k = j - n * k := by
        have := Nat.div_add_mod j k
        rw [hd, Nat.mul_comm] at this
        omega
      rw [hd, hm]
      exact ⟨by omega, hj⟩

theorem open_cells (hx : AllExt g w) : ∀ (n : Nat) (t : TypeId) (cs : List Value) (x : DataW H × List MemPlace) (m : Nat) (ts : List TypeId), DataW.trod enc P w base spare held n t cs = some x → leaves P m t = some ts → Opened P g w ts cs := by
  intro n
  induction n with
  | zero => intro t cs x m ts h; simp [DataW.trod] at h
  | succ n ih =>
    intro t cs x m ts h hm
    cases m with
    | zero => cases hm
    | succ m =>
      have hm0 := hm
      unfold leaves at hm
      split at hm
      · rename_i ht
        cases hm
        obtain ⟨b, rfl, _⟩ := DataW.trod_bool ht h
        exact ⟨[.bool b], rfl, ⟨rfl, fun i u v h1 h2 => by cases i <;> simp at h1 h2; subst h1; subst h2; exact ⟨.bool ht b, rfl⟩⟩, .cons (.bool b) .nil, fun x hx => by simp at hx; subst hx; rfl⟩
      · rename_i k ht
        cases hm
        obtain ⟨q, rfl, _, hq⟩ := DataW.trod_int ht h
        exact ⟨[.int k q], rfl, ⟨rfl, fun i u v h1 h2 => by cases i <;> simp at h1 h2; subst h1; subst h2; exact ⟨.int ht q hq, rfl⟩⟩, .cons (.int k q) .nil, fun x hx => by simp at hx; subst hx; rfl⟩
      · rename_i ht
        cases hm
        obtain ⟨s, rfl, _, hs⟩ := DataW.trod_string ht h
        refine ⟨[.str s.data.toList], rfl, ⟨rfl, fun i u v h1 h2 => by cases i <;> simp at h1 h2; subst h1; subst h2; exact ⟨.str ht _ (by simpa using hs), rfl⟩⟩, .cons ?_ .nil, fun x hx => by simp at hx; subst hx; rfl⟩
        have := RelV.str (g := g) (w := w) s.data.toList
        simpa using this
      · rename_i e ht
        split at hm
        case isFalse => cases hm
        rename_i hc
        cases hm
        simp only [Bool.and_eq_true, decide_eq_true_eq] at hc
        obtain ⟨hc1, hc2⟩ := hc
        obtain ⟨us, hus⟩ := Option.isSome_iff_exists.1 hc1
        rcases DataW.trod_slice ht h with ⟨rfl, _⟩ | ⟨a, len, cap, elems, rest, n', hn', rfl, _, hb, hl, hcap, hlen, hel, _, _⟩
        · refine ⟨[.vec [] .ro], rfl, ⟨rfl, fun i u v h1 h2 => by cases i <;> simp at h1 h2; subst h1; subst h2; exact ⟨.vec ht [] (Nat.zero_le _) (fun x hx => by cases hx), rfl⟩⟩, .cons (.vecE .ro none 0 (fun h => by cases h)) .nil, fun x hx => by simp at hx; subst hx; rfl⟩
        · cases hn'
          have each : ∀ i, i < len → ∃ p : List AVal × List Value, w.cells? base (a.add (i * P.cellsOf e)) (P.cellsOf e) = some p.2 ∧ p.2.length = us.length ∧ TyL P us p.1 ∧ RelL g w p.1 p.2 ∧ One p.2 := by
            intro i hi
            have h1 := hel i hi
            rw [List.getElem?_eq_getElem (by omega)] at h1
            obtain ⟨cs', h2, h3⟩ := Option.bind_eq_some_iff.1 h1
            obtain ⟨acs, h4, h5, h6, h7⟩ := ih _ _ _ _ _ h3 hus
            exact ⟨(acs, cs'), h2, h4, h5, h6, h7⟩
          obtain ⟨F, hF⟩ := choose_lt each
          by_cases h0 : len = 0
          · subst h0
            refine ⟨[.vec [] .ro], rfl, ⟨rfl, fun i u v h1 h2 => by cases i <;> simp at h1 h2; subst h1; subst h2; exact ⟨.vec ht [] (Nat.zero_le _) (fun x hx => by cases hx), rfl⟩⟩, .cons (.vecE .ro (some a) cap (fun h => by cases h)) .nil, fun x hx => by simp at hx; subst hx; rfl⟩
          · have hk : ∀ i, i < len → (F i).2.length = P.cellsOf e := fun i hi => (World.cells?_some (hF i hi).1).2.1
            have hpos : 0 < P.cellsOf e := by omega
            have hsp : a.spot = none := by
              obtain ⟨_, c1, c2⟩ := World.cells?_some (hF 0 (by omega)).1
              have c3 := c2 0 hpos
              rw [List.getElem?_eq_getElem (by omega)] at c3
              rw [Nat.zero_mul] at c3
              have : (a.add 0).add 0 = a := by simp [Addr.add]
              rw [this] at c3
              cases hsp : a.spot with
              | none => rfl
              | some s =>
                unfold World.cell? at c3
                split at c3
                · simp [hsp] at c3
                · cases c3
            obtain ⟨b, o, sp⟩ := a
            simp only at hsp
            subst hsp
            have hadd : ∀ i j, ((⟨b, o, none⟩ : Addr).add i).add j = ⟨b, o + (i + j), none⟩ := fun i j => by
              rw [Addr.add_mid, Addr.add_mid, Nat.add_assoc]
            have hcell : ∀ i, i < len → ∀ j, j < P.cellsOf e → w.cell? ⟨b, o + (i * P.cellsOf e + j), none⟩ = (F i).2[j]? := by
              intro i hi j hj
              have := (World.cells?_some (hF i hi).1).2.2 j hj
              rw [hadd] at this
              exact this
            let L := (List.range len).map fun i => aval P e (F i).1
            have hflat : L.flatMap AVal.cells = (List.range len).flatMap fun i => (F i).1 := by
              simp only [L, List.flatMap_map]
              exact flatMap_congr fun i hi => (aval_ty hus (hF i (List.mem_range.1 hi)).2.2.1).2
            have hlenF := flatR_length (C := fun i => (F i).2) hk
            have hrange : w.rangeAt b o ((List.range len).flatMap fun i => (F i).2) := by
              intro j v hj
              obtain ⟨j1, j2⟩ := flatR_get hpos hk j v hj
              have := hcell _ j1 (j % P.cellsOf e) (Nat.mod_lt _ hpos)
              rw [j2] at this
              rw [Nat.mul_comm, Nat.div_add_mod] at this
              exact this
            have hext : o + ((List.range len).flatMap fun i => (F i).2).length ≤ g.ext b := by
              rw [hlenF]
              have hlast := hcell (len - 1) (by omega) (P.cellsOf e - 1) (by omega)
              rw [List.getElem?_eq_getElem (by rw [hk _ (by omega)]; omega)] at hlast
              have := hx _ _ _ hlast
              have e1 : (len - 1) * P.cellsOf e + (P.cellsOf e - 1) + 1 = len * P.cellsOf e := by
                obtain ⟨q, rfl⟩ : ∃ q, len = q + 1 := ⟨len - 1, by omega⟩
                rw [Nat.add_sub_cancel, Nat.succ_mul]
                omega
              omega
            have hLlen : L.length = len := by simp [L]
            refine ⟨[.vec L .ro], rfl, ⟨rfl, fun i u v h1 h2 => ?_⟩, .cons ?_ .nil, fun x hx => by simp at hx; subst hx; rfl⟩
            · cases i <;> simp at h1 h2
              subst h1
              subst h2
              refine ⟨.vec ht L (by rw [hLlen]; omega) (fun x hx => ?_), rfl⟩
              simp only [L, List.mem_map, List.mem_range] at hx
              obtain ⟨i, hi, rfl⟩ := hx
              exact (aval_ty hus (hF i hi).2.2.1).1
            · have := RelV.vec (g := g) (w := w) (l := L) .ro (b := b) (o := o) (cap := cap) (k := us.length) (vs := (List.range len).flatMap fun i => (F i).2) (fun x hx => by
                  simp only [L, List.mem_map, List.mem_range] at hx
                  obtain ⟨i, hi, rfl⟩ := hx
                  rw [(aval_ty hus (hF i hi).2.2.1).2]
                  exact (hF i hi).2.2.1.1) (by rw [hflat]; exact relL_flat fun i hi => (hF i hi).2.2.2.1) (fun x hx => by
                  obtain ⟨i, hi, hx⟩ := List.mem_flatMap.1 hx
                  exact (hF i (List.mem_range.1 hi)).2.2.2.2 x hx) hrange hext (by rw [hLlen]; exact hl) (fun h => by cases h)
              rw [hLlen] at this
              exact this
      · rename_i fs ht
        split at hm
        case h_2 => cases hm
        rename_i us' o htile
        split at hm
        case isFalse => cases hm
        rename_i ho
        cases hm
        obtain ⟨xs, n', hn', _, hlen, hxs, hf⟩ := DataW.trod_struct ht h
        cases hn'
        have := (tile_open (lv := leaves P m) (P := P) (g := g) (w := w) cs fs.toList 0 _ o htile (by omega) (fun f hf' vs hvs => by
          obtain ⟨i, hi, he⟩ := List.getElem_of_mem hf'
          have hi' : i < fs.size := by simpa using hi
          have h1 : fs[i]? = some f := by
            rw [Array.getElem?_eq_getElem hi']
            exact congrArg some (by simpa using he)
          have h2 := hf i f h1
          rw [List.getElem?_eq_getElem (by omega)] at h2
          exact ih _ _ _ _ _ h2 hvs)).2
        rw [Nat.sub_zero, List.drop_zero, List.take_of_length_le (by omega)] at this
        exact this
      · cases hm
end
end Go.Abs
end

section
/- The law's row: what the evaluator answers at all arguments of the parameters' types gives what the row asks. -/
namespace Go.Abs
open Go Go.RowKit Go.WideShapes Go.ChangeShapes
set_option linter.unusedSimpArgs false
set_option linter.unusedVariables false

/-- nothing is the evaluator's yet; all that is there is fixed -/
def g0 (w : World) : G := { rho := fun _ => none, ext := fun b => match w.heap[b]? with | some (.cells c _ _) => c.size | _ => 0, ow := fun _ => none }
theorem allExt_g0 (w : World) : AllExt (g0 w) w := by
  intro b i v h
  unfold World.cell? at h
  unfold g0
  simp only at h ⊢
  split at h
  · rename_i c e fr he
    simp only [he]
    by_cases hi : i < c.size
    · exact hi
    · rw [Array.getElem?_eq_none (by omega)] at h; cases h
  · cases h
theorem inv_g0 (w : World) : Inv w.heap.size (g0 w) w [] := by
  refine ⟨fun id b h => (by cases h), fun id id' b h => (by cases h), fun b h => ?_, fun b o h => (by cases h), fun id o b _ h => (by cases h), Nat.le_refl _⟩
  unfold g0 at h
  simp only at h
  split at h
  · rename_i c e fr he
    exact (Array.getElem?_eq_some_iff.1 he).1
  · omega

theorem TyV.strip1 {P : Program} {t : TypeId} {v : AVal} (h : TyV P t v) : strip1 v = v := by cases h <;> rfl
theorem TyV.strip {P : Program} {t : TypeId} {v : AVal} (h : TyV P t v) : strip v = v := by
  cases h with
  | agg ht hm cs hc h =>
    rename_i fs m ts
    show AVal.agg (cs.map Go.Abs.strip1) = .agg cs
    congr 1
    apply List.ext_getElem?
    intro i
    rw [List.getElem?_map]
    cases hi : cs[i]? with
    | none => rfl
    | some v =>
      have hlt : i < ts.length := by
        have := (List.getElem?_eq_some_iff.1 hi).1
        omega
      simp only [Option.map_some]
      rw [(h i _ v (List.getElem?_eq_getElem hlt) hi).strip1]
  | _ => rfl

/-- arguments of the parameters' types -/
def TyArgs (P : Program) (ts : List TypeId) (avs : List AVal) : Prop := avs.length = ts.length ∧ ∀ (i : Nat) (t : TypeId) (v : AVal), ts[i]? = some t → avs[i]? = some v → TyV P t v

section
variable {H : Type} {enc : TypeId × Value → H} {P : Program}

theorem open_arg {w : World} {g : G} (hx : AllExt g w) {base : Nat} {t : TypeId} {v : Value} {d : DataW H} {ps : List MemPlace} {m : Nat} {r : Reach} {b0 : Nat} (hl : (leaves P m t).isSome) (hv : Value.okWide P w r b0 t v) (h : DataW.Trod enc P w base (fun _ => true) true t v d ps) :
    ∃ av, TyV P t av ∧ RelV g w av v := by
  obtain ⟨ts, hts⟩ := Option.isSome_iff_exists.1 hl
  obtain ⟨n, h⟩ := h
  obtain ⟨acs, h1, h2, h3, h4⟩ := open_cells hx n t _ _ m ts h hts
  obtain ⟨k1, k2⟩ := aval_ty hts h2
  refine ⟨_, k1, ?_⟩
  by_cases hs : ∃ fs, P.underlying t = some (.struct fs)
  · obtain ⟨fs, hs⟩ := hs
    unfold Value.okWide at hv
    rw [hs] at hv
    obtain ⟨cs, rfl, _⟩ := hv
    unfold aval
    rw [hs]
    simp only [Value.cells] at h3 h4
    have := RelV.agg h3 h4
    simpa using this
  · have hs' : ∀ fs, P.underlying t ≠ some (.struct fs) := fun fs he => hs ⟨fs, he⟩
    have := leaves_one hts hs'
    subst this
    match acs, h2.1 with
    | [u], _ =>
      have he : aval P t [u] = u := by
        unfold aval
        split
        · rename_i fs hf; exact absurd hf (hs' fs)
        · rfl
      rw [he] at k1 ⊢
      have hc : v.cells.toList = [v] := by
        unfold Value.okWide Cell.okWide Cell.ok at hv
        cases v with
        | agg cs =>
          cases k1 with
          | agg ht => exact absurd ht (hs' _)
          | bool ht => rw [ht] at hv; simp at hv
          | int ht => rw [ht] at hv; simp at hv
          | str ht => rw [ht] at hv; simp at hv
          | vec ht => rw [ht] at hv; simp at hv
        | _ => rfl
      rw [hc] at h3
      cases h3 with
      | cons h _ => exact h

theorem open_args {w : World} {g : G} (hx : AllExt g w) {base : Nat} {m : Nat} : ∀ {ts : List TypeId} {vs : List Value} {ds : List (DataW H)} {ps : List MemPlace}, DataW.TrodAll enc P w base (fun _ => true) true ts vs ds ps → (∀ t ∈ ts, (leaves P m t).isSome) →
    (∀ (i : Nat) t v, ts[i]? = some t → vs[i]? = some v → Value.okWide P w .any 0 t v) → vs.length = ts.length ∧ ds.length = ts.length ∧ ∃ avs, TyArgs P ts avs ∧ ∀ (i : Nat) (av : AVal), avs[i]? = some av → ∃ v, vs[i]? = some v ∧ RelV g w av v
  | [], vs, ds, ps, h, _, _ => by
    obtain ⟨rfl, rfl, rfl⟩ := trodAll_nil h
    exact ⟨rfl, rfl, [], ⟨rfl, fun i t v h => by cases h⟩, fun i av h => by cases h⟩
  | t :: ts, vs, ds, ps, h, hl, hv => by
    obtain ⟨v, vs, d, ds, p, q, rfl, rfl, rfl, h1, h2⟩ := trodAll_cons h
    obtain ⟨av, k1, k2⟩ := open_arg hx (hl t List.mem_cons_self) (hv 0 t v rfl rfl) h1
    obtain ⟨e1, e2, avs, k3, k4⟩ := open_args hx h2 (fun t ht => hl t (List.mem_cons_of_mem _ ht)) (fun i t v h h' => hv (i + 1) t v h h')
    refine ⟨by simp [e1], by simp [e2], av :: avs, ⟨by simp [k3.1], fun i t v h h' => ?_⟩, fun i u h => ?_⟩
    · cases i with
      | zero => cases h; cases h'; exact k1
      | succ i => exact k3.2 i t v h h'
    · cases i with
      | zero => cases h; exact ⟨v, rfl, k2⟩
      | succ i => exact k4 i u h

theorem stay_args {W W' : World} (hl : laidOutB P = true) (hb : RowKit.Below W.heap.size W W') : ∀ {ts : List TypeId} {vs : List Value} {ds : List (DataW H)} {ps : List MemPlace}, DataW.TrodAll enc P W 0 (fun _ => true) true ts vs ds ps → (∀ t ∈ ts, P.readableRec t = true ∧ t < P.types.size) → (∀ x ∈ ps, x.block < W.heap.size) →
    ∀ sp : Nat → Bool, (∀ p ∈ ps, sp p.block = true) → DataW.TrodAll enc P W' 0 sp true ts vs ds ps
  | [], vs, ds, ps, h, _, _, sp, _ => by
    obtain ⟨rfl, rfl, rfl⟩ := trodAll_nil h
    exact trodAll_mk0
  | t :: ts, vs, ds, ps, h, ht, hlt, sp, hsp => by
    obtain ⟨v, vs, d, ds, p, q, rfl, rfl, rfl, h1, h2⟩ := trodAll_cons h
    obtain ⟨r1, r2⟩ := ht t List.mem_cons_self
    refine ⟨p, q, WideElems.Trod_stays hl r1 r2 h1 (fun x hx => hb.same (hlt x (List.mem_append.2 (.inl hx)))) (fun x hx => hsp x (List.mem_append.2 (.inl hx))), ?_, rfl⟩
    exact stay_args hl hb h2 (fun t ht' => ht t (List.mem_cons_of_mem _ ht')) (fun x hx => hlt x (List.mem_append.2 (.inr hx))) sp (fun x hx => hsp x (List.mem_append.2 (.inr hx)))

/-- THE ROW's CONTRACT. -/
theorem row_contract {hint : FuncId → Hint} {takes : FuncId → List Nat} {ora : FuncId → List AVal → Heap → Option (AVal × Heap × List Nat)} (hP : progGood P = true)  (hora : ∀ w0 B, OraOK P w0 B ora) (hlaid : laidOutB P = true)
    {f : FuncId} (hnl : hasN (takes f) lentN = false) {fn : Func} {m : Nat} {tb : TypeId} (hread : ∀ t ∈ fn.params.toList, P.readableRec t = true ∧ t < P.types.size) (hleaf : ∀ t ∈ fn.params.toList, (leaves P m t).isSome) (hres : fn.resultTypes = #[tb]) (htb : P.underlying tb = some .bool)
    {s : ChangeSpec} (hvars : s.vars = []) (hspec : ∀ ds : List (DataW H), ds.length = fn.params.size → s.fn H ds = { results := [.lit (.bool true)], args := ds })
    (hlaw : ∀ avs, TyArgs P fn.params.toList avs → ∃ n H' wr, callE P hint takes ora n (.func f) avs [] = some (.bool true, H', wr))
    {W : World} {args : Array Value} {ds gs : List (DataW H)} {before : List MemPlace} {apart fresh handsOn again : Bool}
    (hval : ∀ (j : Nat) t v, fn.params[j]? = some t → args[j]? = some v → Value.okWide P W .any 0 t v) (hW : DataW.Whole enc P fn.params.toList s.vars apart W args.toList ds gs before) :
    Calls P f args W fun e W' => ∃ v, e = .returned v ∧ s.post enc P fn apart fresh handsOn again W args v W' := by
  have hW' := hW
  obtain ⟨p, q, hA, hV, rfl, hfz, hnd⟩ := hW
  rw [hvars] at hV
  obtain ⟨rfl, rfl⟩ := trodVars_none hV
  obtain ⟨e1, e2, avs, k1, k2⟩ := open_args (g := g0 W) (allExt_g0 W) hA hleaf (fun i t v h h' => hval i t v (by simpa using h) (by simpa using h'))
  obtain ⟨n, H', wr, hcall⟩ := hlaw avs k1
  have hok := call_ok (w0 := W) (B := W.heap.size) hP hint takes (hora _ _) n (.func f) avs [] _ H' wr hcall (g0 W) W 0 args.toList (inv_g0 W) (fun id lp h => by cases h) ⟨fun _ _ => rfl, rfl, rfl, rfl⟩ ⟨by rw [k1.1, e1], fun i v hv => by
    obtain ⟨x, hx, hr⟩ := k2 i v hv
    refine ⟨x, hx, ?_⟩
    obtain ⟨t, ht⟩ : ∃ t, fn.params.toList[i]? = some t := ⟨_, List.getElem?_eq_getElem (by rw [← k1.1]; exact (List.getElem?_eq_some_iff.1 hv).1)⟩
    have hst := (k1.2 i t v ht hv).strip
    have h3 := rel_slot (d := 1) (env := []) (tm := fun _ => none) (i := i) (by rw [hst]; exact hr)
    rw [hst] at h3
    exact h3⟩
  obtain ⟨_, hcalls⟩ := hok
  have hnl' : lentF takes (.func f) = false := hnl
  simp only [lentArg, hnl', Bool.false_eq_true, if_false] at hcalls
  have hcalls := hcalls.calls (fun k d h => by cases h)
  refine hcalls.mono fun e W' ⟨x, g', he, hp, hr⟩ => ?_
  subst he
  have hx : x = .bool true := by
    cases hr with
    | bool => rfl
  subst hx
  refine ⟨_, rfl, ?_⟩
  have hb : RowKit.Below W.heap.size W W' := ⟨hp.step.os, hp.step.tape, hp.step.output, hp.step.size, fun k hk => (hp.step.keep k hk (fun id h => by cases h) (.inl rfl)).1⟩
  have hlt : ∀ x ∈ p, x.block < W.heap.size := fun x hx => hW'.lt x (by simpa using hx)
  have hsp := hspec ds (by simpa using e2)
  simp only [List.append_nil] at hW' ⊢
  have hs1 : (s.fn H (ds ++ [])).results = [.lit (.bool true)] := by rw [List.append_nil, hsp]
  have hs2 : (s.fn H (ds ++ [])).args = ds := by rw [List.append_nil, hsp]
  have hs3 : (s.fn H (ds ++ [])).vars = [] := by rw [List.append_nil, hsp]
  have hargs : ∀ sp : Nat → Bool, (∀ x ∈ p, sp x.block = true) → DataW.TrodAll enc P W' 0 sp true fn.params.toList args.toList (s.fn H (ds ++ [])).args p := fun sp h => by
    rw [hs2]
    exact stay_args hlaid hb hA hread hlt sp h
  have hresT : ∀ (b : Nat) (sp : Nat → Bool) (hd : Bool), DataW.TrodAll enc P W' b sp hd fn.resultTypes.toList ((Value.bool true).resultList fn.resultTypes.size) (s.fn H (ds ++ [])).results [] := fun b sp hd => by
    rw [hs1, hres]
    exact trodAll_cons_mk (shut_bool htb _) trodAll_mk0
  have hvarsT : ∀ sp : Nat → Bool, DataW.TrodVars enc P W' sp s.vars (s.fn H (ds ++ [])).vars [] := fun sp => by
    rw [hs3, hvars]
    rfl
  have hok : ∀ (j : Nat) (t : TypeId) (r : Value), fn.resultTypes[j]? = some t → ((Value.bool true).resultList fn.resultTypes.size)[j]? = some r → Value.okWide P W' .any 0 t r := ok_one hres rfl (okWide_bool_mk htb _)
  have hold : ∀ x ∈ p, (fun b => decide (b < W.heap.size)) x.block = true := fun x hx => by simpa using hlt x hx
  refine ⟨ds, [], p, [], p, [], hW', hresT _ _ _, hargs _ hold, hvarsT _, World.keptBut_mono (fun x hx => ⟨hx, ?_⟩) (hb.frame (· ∈ p)), fun _ => ?_⟩
  · exact .inr (.inl hx)
  · refine ⟨hok, _, _, ([] ++ p) ++ [], ⟨[] ++ p, [], trodAll_append (hargs _ (fun _ _ => rfl)) (hresT _ _ _), hvarsT _, rfl, ?_, ?_⟩, ?_⟩
    · intro b off hx
      have hin : MemPlace.cell b off ∈ p := by simpa using hx
      rw [hb.frozen (hlt _ hin)]
      exact hfz b off (by simpa using hin)
    · intro ha
      have := hnd ha
      simpa using this
    · intro x hx _
      simpa using hx
end
end Go.Abs
end

section
/- A call whose arguments lead to no object, taken from the empty heap to any: its objects are numbered on. -/
namespace Go.Abs
open Go
set_option linter.unusedSimpArgs false
set_option linter.unusedVariables false
set_option linter.unusedSectionVars false

mutual
def shiftV (k : Nat) : AVal → AVal
  | .ptr (some (id, off)) => .ptr (some (id + k, off))
  | .map (some id) => .map (some (id + k))
  | .eptr cs off => .eptr (shiftL k cs) off
  | .vec l o => .vec (shiftL k l) o
  | .func (.yield id) a b => .func (.yield (id + k)) (shiftL k a) (shiftL k b)
  | .func fn a b => .func fn (shiftL k a) (shiftL k b)
  | .agg cs => .agg (shiftL k cs)
  | .tup vs => .tup (shiftL k vs)
  | .face t v => .face t (shiftV k v)
  | v => v
def shiftL (k : Nat) : List AVal → List AVal
  | [] => []
  | v :: r => shiftV k v :: shiftL k r
end
def shiftO (k : Nat) : AObj → AObj
  | .box cs => .box (shiftL k cs)
  | .map es s => .map (es.map fun e => (shiftV k e.1, shiftV k e.2)) s
  | .iter m since seen last => .iter (m.map (· + k)) since seen last
  | .loop l => .loop { l with env := l.env.map fun p => (p.1, shiftV k p.2) }
def shiftH (k : Nat) : Holder → Holder
  | .cell id off => .cell (id + k) off
  | h => h

theorem shiftL_map (k : Nat) (l : List AVal) : shiftL k l = l.map (shiftV k) := by
  induction l with
  | nil => simp [shiftL]
  | cons v r ih => simp [shiftL, ih]
theorem shiftV_cells (k : Nat) (v : AVal) : (shiftV k v).cells = shiftL k v.cells := by
  cases v with
  | agg cs => simp [shiftV, AVal.cells]
  | ptr a => cases a <;> simp [shiftV, AVal.cells, shiftL]
  | map a => cases a <;> simp [shiftV, AVal.cells, shiftL]
  | func fn a b => cases fn <;> simp [shiftV, AVal.cells, shiftL]
  | _ => simp [shiftV, AVal.cells, shiftL]
theorem shiftL_flat (k : Nat) (l : List AVal) : (shiftL k l).flatMap AVal.cells = shiftL k (l.flatMap AVal.cells) := by
  induction l with
  | nil => simp [shiftL]
  | cons v r ih =>
    simp only [shiftL, List.flatMap_cons, ih, shiftV_cells]
    simp [shiftL_map]
theorem shiftL_length (k : Nat) (l : List AVal) : (shiftL k l).length = l.length := by simp [shiftL_map]
theorem shiftL_cells {k n : Nat} {l : List AVal} (h : ∀ e ∈ l, e.cells.length = n) : ∀ e ∈ shiftL k l, e.cells.length = n := by
  intro e he
  rw [shiftL_map] at he
  obtain ⟨u, hu, rfl⟩ := List.mem_map.1 he
  rw [shiftV_cells, shiftL_length]
  exact h u hu

section
variable {k : Nat} {g g' : G} {w : World}
mutual
theorem RelV.shift (hr : ∀ id b, g.rho id = some b → g'.rho (id + k) = some b) (he : ∀ b, g.ext b ≤ g'.ext b) : ∀ {v : AVal} {x : Value}, RelV g w v x → RelV g' w (shiftV k v) x
  | _, _, .bool b => by simp only [shiftV]; exact .bool b
  | _, _, .int q n => by simp only [shiftV]; exact .int q n
  | _, _, .str s => by simp only [shiftV]; exact .str s
  | _, _, .ptrN => by simp only [shiftV]; exact .ptrN
  | _, _, .ptr off h => by simp only [shiftV]; exact .ptr off (hr _ _ h)
  | _, _, .eptr off hl h1 hh hb => by simp only [shiftV]; exact .eptr off (RelL.shift hr he hl) h1 hh (Nat.le_trans hb (he _))
  | _, _, .vecE own a cap ho hz => by simp only [shiftV, shiftL]; exact .vecE own a cap ho hz
  | _, _, @RelV.vec _ _ l own b o cap q vs hk hl h1 hh hb hc ho hz => by
    simp only [shiftV]
    have := RelV.vec (g := g') (w := w) (l := shiftL k l) own (b := b) (o := o) (cap := cap) (k := q) (vs := vs) (shiftL_cells hk) (by rw [shiftL_flat]; exact RelL.shift hr he hl) h1 hh (Nat.le_trans hb (he _)) (by rw [shiftL_length]; exact hc) (by rw [shiftL_length]; exact ho) hz
    rw [shiftL_length] at this
    exact this
  | _, _, .mapN => by simp only [shiftV]; exact .mapN
  | _, _, .map h => by simp only [shiftV]; exact .map (hr _ _ h)
  | _, _, @RelV.func _ _ fn fs cs xs ys hy h1 h2 => by
    have : shiftV k (.func fn fs cs) = .func fn (shiftL k fs) (shiftL k cs) := by
      cases fn with
      | yield l => exact absurd rfl (hy l)
      | _ => simp only [shiftV]
    rw [this]
    exact .func hy (RelL.shift hr he h1) (RelL.shift hr he h2)
  | _, _, .yieldF h => by simp only [shiftV, shiftL]; exact .yieldF (hr _ _ h)
  | _, _, .nilFunc => by simp only [shiftV]; exact .nilFunc
  | _, _, .agg hl h1 => by simp only [shiftV]; exact .agg (RelL.shift hr he hl) h1
  | _, _, .tup hl => by simp only [shiftV]; exact .tup (RelL.shift hr he hl)
  | _, _, .face t hv => by simp only [shiftV]; exact .face t (RelV.shift hr he hv)
  | _, _, .nilFace => by simp only [shiftV]; exact .nilFace
theorem RelL.shift (hr : ∀ id b, g.rho id = some b → g'.rho (id + k) = some b) (he : ∀ b, g.ext b ≤ g'.ext b) : ∀ {v : List AVal} {x : List Value}, RelL g w v x → RelL g' w (shiftL k v) x
  | _, _, .nil => by simp only [shiftL]; exact .nil
  | _, _, .cons h1 h2 => by simp only [shiftL]; exact .cons (RelV.shift hr he h1) (RelL.shift hr he h2)
end

variable (hr : ∀ id b, g.rho id = some b → g'.rho (id + k) = some b) (he : ∀ b, g'.ext b = g.ext b) (ho : ∀ b h, g.ow b = some h → g'.ow b = some (shiftH k h))
include hr he ho
theorem TipOK.shift {h : Holder} {l : List AVal} {q : Nat} {x : Value} (t : TipOK g w h l q x) : TipOK g' w (shiftH k h) (shiftL k l) q x := by
  obtain ⟨a, n, cap, hx, t⟩ := t
  refine ⟨a, n, cap, hx, t.imp_right fun ⟨h1, b, o, h2, h3, h4, h5, h6⟩ => ⟨h1, b, o, h2, ho _ _ h3, shiftL_cells h4, (he b).trans h5, h6⟩⟩
theorem ExOK.shift {h : Holder} {l : List AVal} {q : Nat} {x : Value} (t : ExOK g w h l q x) : ExOK g' w (shiftH k h) (shiftL k l) q x := by
  obtain ⟨a, cap, hx, t⟩ := t
  refine ⟨a, cap, by rw [shiftL_length]; exact hx, ?_⟩
  rcases t with ⟨t1, t2⟩ | ⟨h1, h2, b, o, vs, h3, h4, h5, h6, h7, h8, h9, h10⟩
  · exact .inl ⟨by rw [t1]; simp [shiftL], t2⟩
  · exact .inr ⟨h1, by rw [shiftL_length]; exact h2, b, o, vs, h3, ho _ _ h4, (he b).trans h5, shiftL_cells h6, by rw [shiftL_flat]; exact h7.shift hr fun b => Nat.le_of_eq (he b).symm, h8, h9, h10⟩
theorem HoldOK.shift {h : Holder} {v : AVal} {x : Value} (t : HoldOK g w h v x) : HoldOK g' w (shiftH k h) (shiftV k v) x := by
  have hr' := fun {v : AVal} {x : Value} (t : RelV g w v x) => RelV.shift (k := k) hr (fun b => Nat.le_of_eq (he b).symm) t
  cases v with
  | vec l o =>
    cases o with
    | ro => have := hr' (show RelV g w (.vec l .ro) x from t); simp only [shiftV] at this ⊢; exact this
    | nul => have := hr' (show RelV g w (.vec l .nul) x from t); simp only [shiftV] at this ⊢; exact this
    | tip q =>
      simp only [shiftV]
      have := hr' t.1
      simp only [shiftV] at this
      exact ⟨this, TipOK.shift hr he ho t.2⟩
    | ex q =>
      simp only [shiftV]
      exact ExOK.shift hr he ho t
  | ptr a => have := hr' (show RelV g w (.ptr a) x from t); cases a <;> (simp only [shiftV] at this ⊢; exact this)
  | map a => have := hr' (show RelV g w (.map a) x from t); cases a <;> (simp only [shiftV] at this ⊢; exact this)
  | func fn a b => have := hr' (show RelV g w (.func fn a b) x from t); cases fn <;> (simp only [shiftV] at this ⊢; exact this)
  | bool b => have := hr' (show RelV g w (.bool b) x from t); simp only [shiftV] at this ⊢; exact this
  | int q n => have := hr' (show RelV g w (.int q n) x from t); simp only [shiftV] at this ⊢; exact this
  | str s => have := hr' (show RelV g w (.str s) x from t); simp only [shiftV] at this ⊢; exact this
  | eptr cs off => have := hr' (show RelV g w (.eptr cs off) x from t); simp only [shiftV] at this ⊢; exact this
  | sptr a b c => have := hr' (show RelV g w (.sptr a b c) x from t); simp only [shiftV] at this ⊢; exact this
  | bor i => have := hr' (show RelV g w (.bor i) x from t); simp only [shiftV] at this ⊢; exact this
  | nilFunc => have := hr' (show RelV g w .nilFunc x from t); simp only [shiftV] at this ⊢; exact this
  | agg cs => have := hr' (show RelV g w (.agg cs) x from t); simp only [shiftV] at this ⊢; exact this
  | tup vs => have := hr' (show RelV g w (.tup vs) x from t); simp only [shiftV] at this ⊢; exact this
  | face q u => have := hr' (show RelV g w (.face q u) x from t); simp only [shiftV] at this ⊢; exact this
  | nilFace => have := hr' (show RelV g w .nilFace x from t); simp only [shiftV] at this ⊢; exact this
theorem CellOK.shift {h : Holder} {v : AVal} {x : Value} (t : CellOK g w h v x) : CellOK g' w (shiftH k h) (shiftV k v) x := by
  refine ⟨t.1, t.2.1.shift hr fun b => Nat.le_of_eq (he b).symm, fun l q hv => ?_⟩
  cases v with
  | vec l' o =>
    simp only [shiftV, AVal.vec.injEq] at hv
    obtain ⟨rfl, rfl⟩ := hv
    exact TipOK.shift hr he ho (t.2.2 l' q rfl)
  | ptr a => cases a <;> simp [shiftV] at hv
  | map a => cases a <;> simp [shiftV] at hv
  | func fn a b => cases fn <;> simp [shiftV] at hv
  | _ => simp [shiftV] at hv
theorem ResOK.shift {d : Nat} {v : AVal} {x : Value} (t : ResOK g w d v x) : ResOK g' w d (shiftV k v) x := by
  unfold ResOK at t ⊢
  cases v with
  | tup vs =>
    simp only [shiftV]
    rcases t with rfl | ⟨xs, hx, hz, hc⟩
    · exact .inl (by simp [shiftL])
    · refine .inr ⟨xs, hx, by rw [shiftL_length]; exact hz, fun j v hj => ?_⟩
      rw [shiftL_map, List.getElem?_map] at hj
      obtain ⟨u, hu, rfl⟩ := Option.map_eq_some_iff.1 hj
      obtain ⟨y, hy, hk⟩ := hc j u hu
      refine ⟨y, hy, hk.imp (fun e => by rw [e]; simp [deadV, shiftV, shiftL]) fun hk => HoldOK.shift hr he ho hk⟩
  | bor j => obtain ⟨l, o, h, _⟩ := t; cases h
  | sptr j p q => obtain ⟨l, o, b, p', n, cap, q', h, _⟩ := t; cases h
  | ptr a => have := HoldOK.shift hr he ho (show HoldOK g w (.slot d 0) (.ptr a) x from t); cases a <;> (simp only [shiftV] at this ⊢; exact this)
  | map a => have := HoldOK.shift hr he ho (show HoldOK g w (.slot d 0) (.map a) x from t); cases a <;> (simp only [shiftV] at this ⊢; exact this)
  | func fn a b => have := HoldOK.shift hr he ho (show HoldOK g w (.slot d 0) (.func fn a b) x from t); cases fn <;> (simp only [shiftV] at this ⊢; exact this)
  | vec l o => have := HoldOK.shift hr he ho (show HoldOK g w (.slot d 0) (.vec l o) x from t); simp only [shiftV] at this ⊢; exact this
  | bool b => have := HoldOK.shift hr he ho (show HoldOK g w (.slot d 0) (.bool b) x from t); simp only [shiftV] at this ⊢; exact this
  | int q n => have := HoldOK.shift hr he ho (show HoldOK g w (.slot d 0) (.int q n) x from t); simp only [shiftV] at this ⊢; exact this
  | str s => have := HoldOK.shift hr he ho (show HoldOK g w (.slot d 0) (.str s) x from t); simp only [shiftV] at this ⊢; exact this
  | eptr cs off => have := HoldOK.shift hr he ho (show HoldOK g w (.slot d 0) (.eptr cs off) x from t); simp only [shiftV] at this ⊢; exact this
  | nilFunc => have := HoldOK.shift hr he ho (show HoldOK g w (.slot d 0) .nilFunc x from t); simp only [shiftV] at this ⊢; exact this
  | agg cs => have := HoldOK.shift hr he ho (show HoldOK g w (.slot d 0) (.agg cs) x from t); simp only [shiftV] at this ⊢; exact this
  | face q u => have := HoldOK.shift hr he ho (show HoldOK g w (.slot d 0) (.face q u) x from t); simp only [shiftV] at this ⊢; exact this
  | nilFace => have := HoldOK.shift hr he ho (show HoldOK g w (.slot d 0) .nilFace x from t); simp only [shiftV] at this ⊢; exact this
theorem ObjOK.shift {id b : Nat} {o : AObj} (t : ObjOK g w id b o) : ObjOK g' w (id + k) b (shiftO k o) := by
  cases o with
  | box cs =>
    obtain ⟨c, e, fr, h1, h2, h3, h4⟩ := t
    refine ⟨c, e, fr, h1, h2, by rw [shiftL_length]; exact h3, fun j v hj => ?_⟩
    rw [shiftL_map, List.getElem?_map] at hj
    obtain ⟨u, hu, rfl⟩ := Option.map_eq_some_iff.1 hj
    obtain ⟨x, hx, hc⟩ := h4 j u hu
    exact ⟨x, hx, CellOK.shift hr he ho hc⟩
  | map es s =>
    obtain ⟨ents, clock, h1, h2, h3⟩ := t
    refine ⟨ents, clock, h1, by simpa using h2, fun j e hj => ?_⟩
    rw [List.getElem?_map] at hj
    obtain ⟨u, hu, rfl⟩ := Option.map_eq_some_iff.1 hj
    obtain ⟨m, hm, k1, k2⟩ := h3 j u hu
    exact ⟨m, hm, k1.shift hr fun b => Nat.le_of_eq (he b).symm, k2.shift hr fun b => Nat.le_of_eq (he b).symm⟩
  | iter m since seen last =>
    obtain ⟨q, h1, h2⟩ := t
    refine ⟨q, h1, ?_⟩
    have := h2.shift hr fun b => Nat.le_of_eq (he b).symm
    cases m <;> simpa [shiftV] using this
  | loop lp =>
    obtain ⟨L, h1, h2, h3, h4, h5, h6, h7, h8⟩ := t
    refine ⟨L, h1, h2, h3, h4, h5, h6, h7, fun i v hv => ?_⟩
    have : ∀ (env : Env) (i : Nat), eget (env.map fun p => (p.1, shiftV k p.2)) i = (eget env i).map (shiftV k) := by
      intro env i
      induction env with
      | nil => rfl
      | cons p r ih =>
        obtain ⟨j, u⟩ := p
        simp only [List.map_cons, eget]
        split
        · rfl
        · exact ih
    simp only at hv
    rw [this] at hv
    obtain ⟨u, hu, rfl⟩ := Option.map_eq_some_iff.1 hv
    obtain ⟨x, hx, hk⟩ := h8 i u hu
    exact ⟨x, hx, hk.shift hr fun b => Nat.le_of_eq (he b).symm⟩
end

theorem hget_append {A H : Heap} {id : Nat} : hget (A ++ H) id = if id < H.length then hget H id else hget A (id - H.length) := by
  unfold hget
  simp only [List.length_append]
  by_cases h : id < H.length
  · rw [if_pos (by omega), if_pos h, if_pos h, List.getElem?_append_right (by omega)]
    congr 1
    omega
  · rw [if_neg h]
    by_cases h2 : id - H.length < A.length
    · rw [if_pos (by omega), if_pos h2, List.getElem?_append_left (by omega)]
      congr 1
      omega
    · rw [if_neg (by omega), if_neg h2]
theorem hget_map {f : AObj → AObj} {A : Heap} {id : Nat} : hget (A.map f) id = (hget A id).map f := by
  unfold hget
  simp only [List.length_map]
  split
  · rw [List.getElem?_map]
  · rfl

/-- plain arguments: nothing known of their slices, no holders, no objects -/
def flatB (v : AVal) : Bool := noIds 0 v && match v with
  | .tup _ => false
  | .bor _ => false
  | .sptr .. => false
  | .vec _ o => o == .ro
  | _ => true
/-- where a call's answer from the empty heap stands in any heap -/
def shiftR (H : Heap) (r : AVal × Heap × List Nat) : AVal × Heap × List Nat := (shiftV H.length r.1, r.2.1.map (shiftO H.length) ++ H, [])

theorem flat_rel {g : G} {w : World} {d i : Nat} {v : AVal} {x : Value} (hf : flatB v = true) (h : SlotOK g w d [] (fun _ => none) i x v) : RelV g w v x := by
  unfold flatB at hf
  simp only [Bool.and_eq_true] at hf
  cases v with
  | tup vs => simp at hf
  | bor j => simp at hf
  | sptr a b c => simp at hf
  | vec l o =>
    have : o = .ro := by simpa using hf.2
    subst this
    exact h
  | _ => exact h
theorem rel_flat {g : G} {w : World} {d i : Nat} {v : AVal} {x : Value} (hf : flatB v = true) (h : RelV g w v x) : SlotOK g w d [] (fun _ => none) i x v := by
  unfold flatB at hf
  simp only [Bool.and_eq_true] at hf
  cases v with
  | tup vs => simp at hf
  | bor j => simp at hf
  | sptr a b c => simp at hf
  | vec l o =>
    have : o = .ro := by simpa using hf.2
    subst this
    exact h
  | _ => exact h
end Go.Abs
end

section
/- Contracts that were shown at the empty heap serve at any. -/
namespace Go.Abs
open Go
set_option linter.unusedSimpArgs false
set_option linter.unusedVariables false
section
variable {P : Program} {w0 : World} {B : Nat}

theorem shift_ok {call : CallF} {lt : Fn → Bool} (hok : CallOK P w0 B lt call) {f : FuncId} (hlt : lt (.func f) = false) {args : List AVal} {v : AVal} {Hn : Heap} {wr : List Nat} (h : call (.func f) args [] = some (v, Hn, wr)) (hflat : args.all flatB = true)
    {g : G} {w : World} {d : Nat} {xs : List Value} {H : Heap} (hi : Inv B g w H) (hk : Kept B w0 w) (hargs : ArgsOK g w (d + 1) args xs) :
    (∃ fn, P.funcs[f]? = some fn ∧ fn.body.isNone = false ∧ (fn.name == "runtime.NumGoroutine") = false) ∧ CallsIn (FW none) 0 P f xs.toArray w (CallR B d g w H (shiftV H.length v) (Hn.map (shiftO H.length) ++ H) []) := by
  let g1 : G := { rho := fun _ => none, ext := g.ext, ow := fun _ => none }
  have hi1 : Inv B g1 w [] := ⟨fun id b h => (by cases h), fun id id' b h => (by cases h), hi.ext, fun b o h => (by cases h), fun id o b _ h => (by cases h), hi.base⟩
  have ha1 : ArgsOK g1 w (d + 1) args xs := by
    refine ⟨hargs.1, fun i v hv => ?_⟩
    obtain ⟨x, hx, hs⟩ := hargs.2 i v hv
    have hf := List.all_eq_true.1 hflat v (List.mem_of_getElem? hv)
    refine ⟨x, hx, rel_flat hf ?_⟩
    have hn : noIds 0 v = true := by
      unfold flatB at hf
      simp only [Bool.and_eq_true] at hf
      exact hf.1
    exact RelV.low (g := g) (g' := g1) (n := 0) (fun id b h => by omega) (fun b => Nat.le_refl _) (flat_rel hf hs) hn
  obtain ⟨h1, h2⟩ := hok _ _ _ _ _ _ h g1 w d xs hi1 (fun id lp h => by cases h) hk ha1
  simp only [lentArg, hlt, Bool.false_eq_true, if_false] at h2
  refine ⟨h1, h2.mono fun e w' ⟨x, g', he, hp, hr⟩ => ?_⟩
  have keep : ∀ b, b < w.heap.size → w'.heap[b]? = w.heap[b]? ∧ g'.ow b = none ∧ g'.ext b = g.ext b ∧ ∀ id, g'.rho id ≠ some b := fun b hb => hp.step.keep b hb (fun id h => by cases h) (.inl rfl)
  let g2 : G := { rho := fun id => if id < H.length then g.rho id else g'.rho (id - H.length), ext := g'.ext, ow := fun b => if b < w.heap.size then g.ow b else (g'.ow b).map (shiftH H.length) }
  have r1 : ∀ id b, g'.rho id = some b → g2.rho (id + H.length) = some b := fun id b h => by
    show (if id + H.length < H.length then _ else _) = _
    rw [if_neg (by omega), Nat.add_sub_cancel]
    exact h
  have r2 : ∀ b h, g'.ow b = some h → g2.ow b = some (shiftH H.length h) := fun b h ho => by
    have hb : ¬ b < w.heap.size := fun hb => by rw [(keep b hb).2.1] at ho; cases ho
    show (if b < w.heap.size then _ else _) = _
    rw [if_neg hb, ho]
    rfl
  have rlow : ∀ id b, g.rho id = some b → g2.rho id = some b := fun id b h => by
    show (if id < H.length then _ else _) = _
    rw [if_pos (hi.rho id b h).1]
    exact h
  have hlen : (Hn.map (shiftO H.length) ++ H).length = Hn.length + H.length := by simp
  have hstep : Step (d + 1) g w g2 w' := by
    refine ⟨⟨rlow, fun b => ?_, hp.step.le.cell⟩, hp.step.size, hp.step.os, hp.step.tape, hp.step.output, fun b hb hn hf => ?_⟩
    · exact hp.step.le.ext b
    · obtain ⟨k1, k2, k3, k4⟩ := keep b hb
      refine ⟨k1, ?_, k3, fun id h => ?_⟩
      · show (if b < w.heap.size then _ else _) = _
        rw [if_pos hb]
      · have h' : (if id < H.length then g.rho id else g'.rho (id - H.length)) = some b := h
        split at h'
        · exact hn id h'
        · exact k4 _ h'
  have hinv : Inv B g2 w' (Hn.map (shiftO H.length) ++ H) := by
    refine ⟨fun id b h => ?_, fun id id' b h h' => ?_, hp.inv.ext, fun b o h => ?_, fun id o b ho h => ?_, hp.inv.base⟩
    · have h' : (if id < H.length then g.rho id else g'.rho (id - H.length)) = some b := h
      split at h'
      · obtain ⟨k1, k2, k3, k4, k5⟩ := hi.rho id b h'
        refine ⟨by omega, k2, Nat.lt_of_lt_of_le k3 hp.step.size, (keep b k3).2.2.1.trans k4, ?_⟩
        show (if b < w.heap.size then _ else _) = _
        rw [if_pos k3]
        exact k5
      · obtain ⟨k1, k2, k3, k4, k5⟩ := hp.inv.rho _ b h'
        refine ⟨by omega, k2, k3, k4, ?_⟩
        have hb : ¬ b < w.heap.size := fun hb => (keep b hb).2.2.2 _ h'
        show (if b < w.heap.size then _ else _) = _
        rw [if_neg hb, k5]
        rfl
    · have h1' : (if id < H.length then g.rho id else g'.rho (id - H.length)) = some b := h
      have h2' : (if id' < H.length then g.rho id' else g'.rho (id' - H.length)) = some b := h'
      split at h1'
      · split at h2'
        · exact hi.inj _ _ b h1' h2'
        · exact absurd h2' ((keep b (hi.rho id b h1').2.2.1).2.2.2 _)
      · split at h2'
        · exact absurd h1' ((keep b (hi.rho id' b h2').2.2.1).2.2.2 _)
        · have := hp.inv.inj _ _ b h1' h2'
          omega
    · have h' : (if b < w.heap.size then g.ow b else (g'.ow b).map (shiftH H.length)) = some o := h
      split at h'
      · obtain ⟨k1, k2⟩ := hi.ow b o h'
        exact ⟨k1, Nat.lt_of_lt_of_le k2 hp.step.size⟩
      · obtain ⟨o', ho', _⟩ := Option.map_eq_some_iff.1 h'
        exact hp.inv.ow b o' ho'
    · rw [hget_append] at ho
      have h' : (if id < H.length then g.rho id else g'.rho (id - H.length)) = some b := h
      split at ho
      · rename_i hid
        rw [if_pos hid] at h'
        have hob := hi.obj id o b ho h'
        have hkb := (keep b (hi.rho id b h').2.2.1).1
        have hrel := fun {v : AVal} {x : Value} (t : RelV g w v x) => RelV.le hstep.le t
        cases o with
        | box cs =>
          obtain ⟨c, e, fr, k1, k2, k3, k4⟩ := hob
          refine ⟨c, e, fr, hkb.trans k1, k2, k3, fun j v hj => ?_⟩
          obtain ⟨x, hx, hc1, hc2, hc3⟩ := k4 j v hj
          refine ⟨x, hx, hc1, hrel hc2, fun l q hv => ?_⟩
          obtain ⟨a, n, cap, hx', t⟩ := hc3 l q hv
          refine ⟨a, n, cap, hx', t.imp_right fun ⟨q1, bb, o, q2, q3, q4, q5, q6⟩ => ?_⟩
          have hbb := (hi.ow bb _ q3).2
          refine ⟨q1, bb, o, q2, ?_, q4, (keep bb hbb).2.2.1.trans q5, there_of_heap (keep bb hbb).1 q6⟩
          show (if bb < w.heap.size then _ else _) = _
          rw [if_pos hbb]
          exact q3
        | map es s =>
          obtain ⟨ents, clock, k1, k2, k3⟩ := hob
          refine ⟨ents, clock, hkb.trans k1, k2, fun j e hj => ?_⟩
          obtain ⟨m, hm, q1, q2⟩ := k3 j e hj
          exact ⟨m, hm, hrel q1, hrel q2⟩
        | iter m since seen last =>
          obtain ⟨q, h1, h2⟩ := hob
          exact ⟨q, hkb.trans h1, hrel h2⟩
        | loop lp =>
          obtain ⟨L, k1, k2, k3, k4, k5, k6, k7, k8⟩ := hob
          refine ⟨L, hkb.trans k1, k2, k3, k4, k5, k6, k7, fun i v hv => ?_⟩
          obtain ⟨x, hx, q1⟩ := k8 i v hv
          exact ⟨x, hx, hrel q1⟩
      · rename_i hid
        rw [if_neg hid] at h'
        rw [hget_map] at ho
        obtain ⟨o', ho', rfl⟩ := Option.map_eq_some_iff.1 ho
        have := ObjOK.shift (k := H.length) (g := g') (g' := g2) r1 (fun b => rfl) r2 (hp.inv.obj _ o' b ho' h')
        rw [Nat.sub_add_cancel (by omega)] at this
        exact this
  refine ⟨x, g2, he, ⟨hstep, hinv, by omega, fun id hl hr' _ => ⟨?_, ?_⟩, fun id b hr' _ => (keep b (hi.rho id b hr').2.2.1).1⟩, ResOK.shift (k := H.length) (g := g') (g' := g2) r1 (fun b => rfl) r2 hr⟩
  · show (if id < H.length then _ else _) = _
    rw [if_pos hl]
    exact hr'
  · rw [hget_append, if_pos hl]

/-- a table of calls that were shown at the empty heap, over an older one -/
def withTab (tab : FuncId → List AVal → Option (AVal × Heap × List Nat)) (ora : FuncId → List AVal → Heap → Option (AVal × Heap × List Nat)) (f : FuncId) (args : List AVal) (H : Heap) : Option (AVal × Heap × List Nat) :=
  match tab f args with
  | some r => some (shiftR H r)
  | none => ora f args H

theorem withTab_ok (hP : progGood P = true) {tab : FuncId → List AVal → Option (AVal × Heap × List Nat)} {ora : FuncId → List AVal → Heap → Option (AVal × Heap × List Nat)} (hora : OraOK P w0 B ora)
    (htab : ∀ f args r, tab f args = some r → args.all flatB = true ∧ ∃ hint takes ora' n, OraOK P w0 B ora' ∧ hasN (takes f) lentN = false ∧ callE P hint takes ora' n (.func f) args [] = some r) : OraOK P w0 B (withTab tab ora) := by
  refine ⟨fun f args H v H' wr h g w d xs hi hg hk ha => ?_, fun f args H v H' wr h => ?_⟩
  · unfold withTab at h
    split at h
    · rename_i r hr
      obtain ⟨hf, hint, takes, ora', n, ho, hnl, hc⟩ := htab f args r hr
      obtain ⟨rv, rH, rw'⟩ := r
      simp only [shiftR, Option.some.injEq, Prod.mk.injEq] at h
      obtain ⟨rfl, rfl, rfl⟩ := h
      exact shift_ok (call_ok hP hint takes ho n) hnl hc hf hi hk ha
    · exact hora.calls f args H v H' wr h g w d xs hi hg hk ha
  · unfold withTab at h
    split at h
    · rename_i r hr
      obtain ⟨hf, hint, takes, ora', n, ho, hnl, hc⟩ := htab f args r hr
      obtain ⟨rv, rH, rw'⟩ := r
      simp only [shiftR, Option.some.injEq, Prod.mk.injEq] at h
      obtain ⟨rfl, rfl, rfl⟩ := h
      have hfr := call_fr hP hint takes ora' ho.fr n _ _ _ _ _ _ hc
      refine ⟨by simp, fun i hi => hi, fun id hl _ => ?_, fun _ hg id lp hl => ?_, fun id lp hl => ⟨lp, ?_⟩⟩
      · rw [hget_append, if_pos hl]; exact .refl _
      · rw [hget_append] at hl
        split at hl
        · exact hg id lp hl
        · rw [hget_map] at hl
          obtain ⟨o, ho', he⟩ := Option.map_eq_some_iff.1 hl
          cases o with
          | box cs => cases he
          | map es s => cases he
          | iter m since seen last => cases he
          | loop l =>
            cases he
            exact hfr.good trivial (fun id lp h => by cases h) _ l ho'
      · rw [hget_append, if_pos (hget_lt hl)]; exact hl
    · exact hora.fr f args H v H' wr h

/-- a table of calls in heaps, over an older one -/
def withTabH (tab : FuncId → List AVal → Heap → Option (AVal × Heap × List Nat)) (ora : FuncId → List AVal → Heap → Option (AVal × Heap × List Nat)) (f : FuncId) (args : List AVal) (H : Heap) : Option (AVal × Heap × List Nat) :=
  match tab f args H with
  | some r => some r
  | none => ora f args H
theorem withTabH_ok (hP : progGood P = true) {tab ora : FuncId → List AVal → Heap → Option (AVal × Heap × List Nat)} (hora : OraOK P w0 B ora)
    (htab : ∀ f args H r, tab f args H = some r → ∃ hint takes ora' n, OraOK P w0 B ora' ∧ hasN (takes f) lentN = false ∧ callE P hint takes ora' n (.func f) args H = some r) : OraOK P w0 B (withTabH tab ora) := by
  refine ⟨fun f args H v H' wr h g w d xs hi hg hk ha => ?_, fun f args H v H' wr h => ?_⟩
  · unfold withTabH at h
    split at h
    · rename_i r hr
      obtain ⟨hint, takes, ora', n, ho, hnl, hc⟩ := htab f args H r hr
      cases h
      obtain ⟨h1, h2⟩ := call_ok hP hint takes ho n _ _ _ _ _ _ hc g w d xs hi hg hk ha
      have hnl' : lentF takes (.func f) = false := hnl
      simp only [lentArg, hnl', Bool.false_eq_true, if_false] at h2
      exact ⟨h1, h2⟩
    · exact hora.calls f args H v H' wr h g w d xs hi hg hk ha
  · unfold withTabH at h
    split at h
    · rename_i r hr
      obtain ⟨hint, takes, ora', n, ho, hnl, hc⟩ := htab f args H r hr
      cases h
      exact call_fr hP hint takes ora' ho.fr n _ _ _ _ _ _ hc
    · exact hora.fr f args H v H' wr h
end
end Go.Abs
end

section
/- Contracts by tables, for the evaluator that hands down. -/
namespace Go.Abs
open Go
section
variable {R : Type} {P : Program}
abbrev RR := AVal × Heap × List Nat
def mInt (v : AVal) (k : IntKind → Int → Option R) : Option R := match v with
  | .int kd n => k kd n
  | _ => none
def mStr (v : AVal) (k : List UInt8 → Option R) : Option R := match v with
  | .str s => k s
  | _ => none
def mBool (v : AVal) (k : Bool → Option R) : Option R := match v with
  | .bool b => k b
  | _ => none
/-- a table: what a function answers from the empty heap, where something holds -/
abbrev Tab := FuncId → List AVal → Option (Bool × RR)
def tabE (tab : Tab) (f : FuncId) (args : List AVal) : Option RR := match tab f args with
  | some (g, r) => (match g with
    | true => some r
    | false => none)
  | none => none
def tabO (tab : Tab) : FuncId → List AVal → Heap → Option RR := withTab (tabE tab) fun _ _ _ => none
def tabK (tab : Tab) (f : FuncId) (args : List AVal) (H : Heap) (k : AVal → Heap → List Nat → Option R) : Option (Option R) := match tab f args with
  | some (g, r) => some (nIte g (k (shiftV H.length r.1) (r.2.1.map (shiftO H.length) ++ H) []) none)
  | none => none
theorem tabE_some {tab : Tab} {f : FuncId} {args : List AVal} {r : RR} (h : tabE tab f args = some r) : tab f args = some (true, r) := by
  unfold tabE at h
  split at h
  · rename_i g r' h1
    split at h
    · cases h; exact h1
    · cases h
  · cases h
theorem tab_kora {tab : Tab} {kx : KX R} (h : kx.ora = tabK tab) : KOraOK kx (tabO tab) := by
  intro f args H k r hr
  rw [h] at hr
  unfold tabK at hr
  split at hr
  · rename_i g r0 h1
    obtain ⟨rfl, h2⟩ := nIte_none (Option.some.inj hr)
    refine ⟨_, _, _, ?_, h2⟩
    unfold tabO withTab
    simp only [tabE, h1, shiftR]
  · cases hr
theorem oraNone_ok (w0 : World) (B : Nat) : OraOK P w0 B (fun _ _ _ => none) := ⟨fun _ _ _ _ _ _ h => by (cases h), fun _ _ _ _ _ _ h => by (cases h)⟩
theorem tab_ok (hP : progGood P = true) {tab : Tab}
    (htab : ∀ f args r, tab f args = some (true, r) → args.all flatB = true ∧ ∃ hint takes ora' n, (∀ w0 B, OraOK P w0 B ora') ∧ hasN (takes f) lentN = false ∧ callE P hint takes ora' n (.func f) args [] = some r) (w0 : World) (B : Nat) : OraOK P w0 B (tabO tab) := by
  refine withTab_ok hP (oraNone_ok w0 B) fun f args r h => ?_
  obtain ⟨h1, hint, takes, ora', n, h2, h3, h4⟩ := htab f args r (tabE_some h)
  exact ⟨h1, hint, takes, ora', n, h2 w0 B, h3, h4⟩
/-- from the evaluator that hands down to the plain one -/
theorem k_call {hint : FuncId → Hint} {takes : FuncId → List Nat} {tab : Tab} {kx : KX R} (h : kx.ora = tabK tab) (hlp : ∀ f n fn body, P.funcs[f]? = some fn → fn.body = some body → KLoopOK (kx.loop f n) (ctxE P hint takes (tabO tab) n f fn) (loopsIn body)) {n : Nat} {g : Fn} {args : List AVal} {H : Heap}
    {k : AVal → Heap → List Nat → Option R} {r : R} (hk : callK P hint takes (tabO tab) kx n g args H k = some r) : ∃ v h w, callE P hint takes (tabO tab) n g args H = some (v, h, w) ∧ k v h w = some r :=
  callK_ok (tab_kora h) hlp n _ _ _ _ _ hk
/-- a piece of code -/
def pieceK (X : Ctx) (kc : KCall (Ex × St)) (lp : KLoop (Ex × St)) (c : Code) (st : St) : Option (Ex × St) := codeK X kc (fun _ => none) lp c st fun e s => some (e, s)
theorem piece_run {X : Ctx} {kc : KCall (Ex × St)} {lp : KLoop (Ex × St)} (hkc : KCallOK kc X.call) {c : Code} (hlp : KLoopOK lp X (loopsIn c)) {st s : St} {e : Ex} (h : pieceK X kc lp c st = some (e, s)) : codeE X c st = some (e, s) := by
  obtain ⟨e', st', h1, h2⟩ := codeK_eq hkc hlp c (fun _ h => h) h
  cases h2
  exact h1
def fstC : Code → Code
  | .seq a _ => a
  | c => c
def sndC : Code → Code
  | .seq _ b => b
  | c => c
theorem seq_run {X : Ctx} {a b : Code} {st st1 : St} {r : Option (Ex × St)} (h1 : codeE X a st = some (.normal, st1)) (h2 : codeE X b st1 = r) : codeE X (.seq a b) st = r := by
  rw [codeE, h1]; exact h2
theorem seq_exit {X : Ctx} {a b : Code} {st st1 : St} (h1 : codeE X a st = some (.ret, st1)) : codeE X (.seq a b) st = some (.ret, st1) := by
  rw [codeE, h1]
/-- one round of a loop -/
def roundK (X : Ctx) (kc : KCall (Ex × St)) (c : Code) (st : St) : Option (Ex × St) := codeK X kc (fun _ => none) noLoop c st fun e s => some (e, headS X.hint.vars X.nt s)
theorem round_run {X : Ctx} {kc : KCall (Ex × St)} (hkc : KCallOK kc X.call) {c : Code} {st s : St} {e : Ex} (h : roundK X kc c st = some (e, s)) : ∃ st', codeE X c st = some (e, st') ∧ headS X.hint.vars X.nt st' = s := by
  obtain ⟨e', st', h1, h2⟩ := codeK_eq hkc (noLoop_ok X (loopsIn c)) c (fun _ h => h) h
  cases h2
  exact ⟨st', h1, rfl⟩
theorem loop_run {X : Ctx} {c : Code} {S : Nat → St} {L : Nat} {e : Ex} {T : St} (he : e ≠ .normal)
    (hstep : ∀ j, j < L → ∃ st', codeE X c (S j) = some (.normal, st') ∧ headS X.hint.vars X.nt st' = S (j + 1))
    (hend : ∃ st', codeE X c (S L) = some (e, st') ∧ headS X.hint.vars X.nt st' = T) {st : St} (h0 : headS X.hint.vars X.nt st = S 0) (hn : L < X.n) : codeE X (.loop c) st = some (e, T) := by
  have key : ∀ k j st N, j + k = L → headS X.hint.vars X.nt st = S j → k < N → (iterE (fun s => codeE X c (headS X.hint.vars X.nt s)) N st).map (fun p => (p.1, headS X.hint.vars X.nt p.2)) = some (e, T) := by
    intro k
    induction k with
    | zero =>
      intro j st N hj hs hN
      obtain ⟨N, rfl⟩ : ∃ m, N = m + 1 := ⟨N - 1, by omega⟩
      have hj : j = L := by omega
      subst hj
      obtain ⟨st', h1, h2⟩ := hend
      unfold iterE
      simp only [hs, h1]
      cases e with
      | normal => exact absurd rfl he
      | exit i => simp [h2]
      | ret => simp [h2]
    | succ k ih =>
      intro j st N hj hs hN
      obtain ⟨N, rfl⟩ : ∃ m, N = m + 1 := ⟨N - 1, by omega⟩
      obtain ⟨st', h1, h2⟩ := hstep j (by omega)
      unfold iterE
      simp only [hs, h1]
      exact ih (j + 1) st' N (by omega) h2 (by omega)
  exact key L 0 st X.n (by omega) h0 hn
end
end Go.Abs
end

