/- stockyardlaw33.ChunkstoreNames returns true for every name, number and byte, and its input reads afterwards as it read before; no condition but those of the card: the package variables that are listed start as the program's text lays them. -/
import Derived.Test.YtdbbepdmggjbkaaGreatDoorAbs3
import Derived.Test.YtdbbepdmggjbkaaGreatDoorProg
import Derived.KernelRfl
import Derived.Test.YtdbbepdmggjbkaaGreatDoorCards
import Derived.Test.YtdbbepdmggjbkaaGreatDoorTie
import Derived.WalkKit
import Derived.ProofKit
import Derived.OpenShut
import Derived.Deep.DeepHandedRow
import Derived.Lib.LaidTab

section
/- Closed checks of the program of law 33. -/
open Go Go.Proofs Go.Abs
namespace L33
def hints : List Hint := [⟨0, [], []⟩, ⟨0, [], []⟩, ⟨0, [], []⟩, ⟨61383, [9], []⟩, ⟨1879056243, [], []⟩, ⟨1, [], []⟩, ⟨29, [], []⟩, ⟨12223, [], []⟩, ⟨5, [], []⟩, ⟨19, [], []⟩, ⟨2035, [], []⟩, ⟨5, [], []⟩, ⟨1019, [], []⟩, ⟨5, [], []⟩, ⟨114709, [], []⟩, ⟨5, [], []⟩, ⟨541, [], []⟩, ⟨51, [], []⟩, ⟨61, [], []⟩, ⟨19, [], []⟩, ⟨7696581400019, [], []⟩, ⟨240518169981, [], []⟩, ⟨147573952709950207731, [], []⟩, ⟨189, [2, 3], []⟩, ⟨5, [], []⟩, ⟨247, [], []⟩, ⟨19, [], []⟩, ⟨5, [], []⟩, ⟨7, [], []⟩, ⟨493, [], []⟩, ⟨5, [], []⟩, ⟨51, [], []⟩, ⟨985162418489213, [], []⟩, ⟨3103, [], []⟩, ⟨5, [], []⟩, ⟨115, [], []⟩, ⟨16381, [], []⟩, ⟨985162653380339, [], []⟩, ⟨1924145352051, [], []⟩, ⟨91, [], []⟩, ⟨5, [], []⟩, ⟨19, [], []⟩, ⟨15, [], []⟩, ⟨7696581408455, [], []⟩, ⟨119, [], []⟩, ⟨19, [], []⟩, ⟨243, [0], [38]⟩, ⟨15, [], []⟩, ⟨51, [], []⟩, ⟨115, [], []⟩, ⟨524047, [], []⟩, ⟨5, [], []⟩, ⟨19, [], []⟩, ⟨69575, [], []⟩, ⟨19, [], []⟩, ⟨19, [], []⟩, ⟨71, [], []⟩, ⟨71, [], []⟩, ⟨5, [], []⟩, ⟨230727, [], []⟩, ⟨5, [], []⟩, ⟨941, [], []⟩, ⟨4083, [], []⟩, ⟨23, [], []⟩, ⟨27, [], []⟩, ⟨13, [], []⟩, ⟨246290604622075, [], []⟩, ⟨13, [], []⟩, ⟨7, [], []⟩, ⟨435, [], []⟩, ⟨493, [], []⟩, ⟨115, [], []⟩, ⟨115, [], []⟩, ⟨2096159, [], []⟩, ⟨16371, [], []⟩, ⟨199, [0], []⟩, ⟨1991, [0], []⟩, ⟨1991, [0], []⟩, ⟨562949953429447, [], []⟩, ⟨199, [0], []⟩, ⟨1991, [0], []⟩, ⟨19, [], []⟩, ⟨1807, [0], []⟩, ⟨3855, [0], []⟩, ⟨5, [], []⟩, ⟨5, [], []⟩, ⟨4436815786425030573372052062151, [], []⟩, ⟨13, [3], []⟩, ⟨5, [], []⟩, ⟨755, [], []⟩, ⟨114709, [], []⟩, ⟨229875, [], []⟩, ⟨51, [], []⟩, ⟨199, [], []⟩, ⟨240518170099, [], []⟩, ⟨5, [], []⟩, ⟨483, [], []⟩, ⟨493, [], []⟩, ⟨5, [], []⟩, ⟨5, [], []⟩, ⟨43, [], []⟩, ⟨5, [], []⟩, ⟨5, [], []⟩, ⟨783, [0], []⟩, ⟨7951, [0], []⟩, ⟨7951, [0], []⟩, ⟨36028797018996495, [], []⟩, ⟨783, [0], []⟩, ⟨7951, [0], []⟩, ⟨7199, [0], []⟩, ⟨15391, [0], []⟩, ⟨783, [0], []⟩, ⟨5, [], []⟩, ⟨5, [], []⟩, ⟨71, [], []⟩, ⟨1055, [], []⟩, ⟨5, [], []⟩, ⟨5, [], []⟩, ⟨61, [], []⟩, ⟨5, [], []⟩, ⟨13, [], []⟩, ⟨131059, [0], []⟩, ⟨523295, [], []⟩, ⟨19, [], []⟩, ⟨59, [], []⟩, ⟨15, [], []⟩, ⟨711, [], []⟩, ⟨5, [], []⟩, ⟨199, [], []⟩, ⟨413, [3], []⟩, ⟨5, [], []⟩, ⟨51, [5], []⟩, ⟨247, [], []⟩, ⟨524047, [], []⟩, ⟨3103, [0], []⟩, ⟨271, [], []⟩, ⟨4159, [], []⟩, ⟨783, [], []⟩, ⟨5, [], []⟩, ⟨5, [], []⟩, ⟨5, [], []⟩, ⟨5, [], []⟩, ⟨15, [], []⟩, ⟨271, [], []⟩, ⟨0, [], []⟩, ⟨199, [0], []⟩, ⟨1991, [0], []⟩, ⟨1991, [0], []⟩, ⟨562949953429447, [], []⟩, ⟨199, [0], []⟩, ⟨1991, [0], []⟩, ⟨19, [], []⟩, ⟨1807, [0], []⟩, ⟨3855, [0], []⟩, ⟨3103, [], []⟩, ⟨5, [], []⟩, ⟨5, [], []⟩, ⟨783, [0], []⟩, ⟨71, [], []⟩, ⟨1055, [], []⟩, ⟨783, [], []⟩, ⟨0, [], []⟩, ⟨0, [], []⟩, ⟨0, [], []⟩, ⟨0, [], []⟩, ⟨0, [], []⟩, ⟨0, [], []⟩, ⟨0, [], []⟩, ⟨0, [], []⟩, ⟨0, [], []⟩, ⟨0, [], []⟩, ⟨0, [], []⟩, ⟨0, [], []⟩, ⟨0, [], []⟩, ⟨0, [], []⟩, ⟨0, [], []⟩, ⟨0, [], []⟩, ⟨0, [], []⟩, ⟨0, [], []⟩, ⟨0, [], []⟩, ⟨0, [], []⟩, ⟨0, [], []⟩, ⟨0, [], []⟩, ⟨0, [], []⟩, ⟨0, [], []⟩, ⟨0, [], []⟩, ⟨0, [], []⟩, ⟨0, [], []⟩, ⟨0, [], []⟩, ⟨0, [], []⟩, ⟨0, [], []⟩]
def hint : Nat → Hint := fun f => hints.getD f ⟨0, [], []⟩
def takesL : List (Nat × List Nat) := [(45, [0, 1000]), (46, [0]), (69, [0, 1000]), (73, [0, 1000]), (103, [0, 1000]), (104, [0, 1000]), (105, [0, 1000]), (106, [0, 1000]), (107, [0, 1000]), (108, [0, 1000]), (109, [0, 1000]), (110, [0, 1000]), (134, [0, 1000]), (135, [0, 1000]), (136, [0, 1000]), (154, [0, 1000])]
def takes (f : Nat) : List Nat := ((takesL.find? (·.1 == f)).map (·.2)).getD []
def oraN : FuncId → List AVal → Heap → Option (AVal × Heap × List Nat) := fun _ _ _ => none
def isTrue : Option (AVal × Heap × List Nat) → Bool | some (.bool true, [], []) => true | _ => false
theorem isTrue_eq {r : Option (AVal × Heap × List Nat)} (h : isTrue r = true) : r = some (.bool true, [], []) := by
  unfold isTrue at h
  split at h
  · rfl
  · cases h
theorem good : progGood Tryz.prog = true := by decide +kernel
theorem known_eval : isTrue (callE Tryz.prog hint takes oraN 1000 (.func 7) [] []) = true := by decide +kernel
theorem known_true : callE Tryz.prog hint takes oraN 1000 (.func 7) [] [] = some (.bool true, [], []) := isTrue_eq known_eval
end L33
end

section
/- Law 33: the arithmetic of fingerprints. -/
set_option linter.unusedVariables false
open Go Go.Proofs Go.Abs
namespace L33
section
noncomputable def fin : AVal → Heap → List Nat → Option RR := fun v h w => some (v, h, w)
noncomputable def kxN (tab : Tab) : KX RR := { ora := tabK tab, keeps := fun _ => false, asm := fun _ _ => none, loop := fun _ _ => noLoop }
theorem run_eq {tab : Tab} {n : Nat} {g : Fn} {args : List AVal} {H : Heap} {r : RR} (h : callK Tryz.prog hint takes (tabO tab) (kxN tab) n g args H fin = some r) : callE Tryz.prog hint takes (tabO tab) n g args H = some r := by
  obtain ⟨v, h', w, h1, h2⟩ := k_call (tab := tab) rfl (fun _ _ _ _ _ _ => noLoop_ok _ _) h
  cases h2
  exact h1
noncomputable def tab0 : Tab := fun _ _ => none
theorem tab0_ok (w0 : World) (B : Nat) : OraOK Tryz.prog w0 B (tabO tab0) := tab_ok good (fun f args r h => by cases h) w0 B

noncomputable def addI (a b : Int) : Int := if IntKind.u64.wrap (a + b) < 2305843009213693951 then IntKind.u64.wrap (a + b) else IntKind.u64.wrap (IntKind.u64.wrap (a + b) - 2305843009213693951)
theorem add_tree (a b : Int) : callK Tryz.prog hint takes (tabO tab0) (kxN tab0) 10 (.func 48) [.int .u64 a, .int .u64 b] [] fin = nIte (decide (IntKind.u64.wrap (a + b) < 2305843009213693951))
    (some (.int .u64 (IntKind.u64.wrap (a + b)), [], [])) (some (.int .u64 (IntKind.u64.wrap (IntKind.u64.wrap (a + b) - 2305843009213693951)), [], [])) := by kernel_rfl
theorem add_run (a b : Int) : callE Tryz.prog hint takes (tabO tab0) 10 (.func 48) [.int .u64 a, .int .u64 b] [] = some (.int .u64 (addI a b), [], []) := by
  refine run_eq ((add_tree a b).trans ?_)
  unfold addI
  by_cases h : IntKind.u64.wrap (a + b) < 2305843009213693951
  · rw [decide_eq_true h, if_pos h]; rfl
  · rw [decide_eq_false h, if_neg h]; rfl
noncomputable def tab1 : Tab := fun f args => if f = 48 then (match args with
  | [.int .u64 a, .int .u64 b] => some (true, (.int .u64 (addI a b), [], []))
  | _ => none) else none
theorem int_flat {k k' : IntKind} {a b : Int} : [AVal.int k a, AVal.int k' b].all flatB = true := rfl
theorem tab1_ok (w0 : World) (B : Nat) : OraOK Tryz.prog w0 B (tabO tab1) := by
  refine tab_ok good (fun f args r h => ?_) w0 B
  unfold tab1 at h
  split at h
  · rename_i hf; subst hf
    split at h
    · cases h
      exact ⟨int_flat, hint, takes, _, 10, tab0_ok, rfl, add_run _ _⟩
    · cases h
  · cases h
noncomputable def getI : Option RR → Int
  | some (.int _ n, _, _) => n
  | _ => 0
noncomputable def shape : Option RR → Bool
  | some (.int .u64 _, [], []) => true
  | _ => false
theorem shape_eq {r : Option RR} (h : shape r = true) : r = some (.int .u64 (getI r), [], []) := by
  unfold shape at h
  split at h
  · rfl
  · cases h
noncomputable def mulI (a b : Int) : Int := getI (callK Tryz.prog hint takes (tabO tab1) (kxN tab1) 40 (.func 49) [.int .u64 a, .int .u64 b] [] fin)
theorem mul_shape (a b : Int) : shape (callK Tryz.prog hint takes (tabO tab1) (kxN tab1) 40 (.func 49) [.int .u64 a, .int .u64 b] [] fin) = true := by kernel_rfl
theorem mul_run (a b : Int) : callE Tryz.prog hint takes (tabO tab1) 40 (.func 49) [.int .u64 a, .int .u64 b] [] = some (.int .u64 (mulI a b), [], []) := run_eq (shape_eq (mul_shape a b))
noncomputable def tab2 : Tab := fun f args =>
  if f = 48 then (match args with
    | [.int .u64 a, .int .u64 b] => some (true, (.int .u64 (addI a b), [], []))
    | _ => none)
  else if f = 49 then (match args with
    | [.int .u64 a, .int .u64 b] => some (true, (.int .u64 (mulI a b), [], []))
    | _ => none)
  else none
theorem tab2_ok (w0 : World) (B : Nat) : OraOK Tryz.prog w0 B (tabO tab2) := by
  refine tab_ok good (fun f args r h => ?_) w0 B
  unfold tab2 at h
  split at h
  · rename_i hf; subst hf
    split at h
    · cases h
      exact ⟨int_flat, hint, takes, _, 10, tab0_ok, rfl, add_run _ _⟩
    · cases h
  · split at h
    · rename_i hf; subst hf
      split at h
      · cases h
        exact ⟨int_flat, hint, takes, _, 40, tab1_ok, rfl, mul_run _ _⟩
      · cases h
    · cases h
end
end L33
end

section
/- Law 33: the fingerprint of any bytes. -/
set_option linter.unusedVariables false
open Go Go.Proofs Go.Abs
namespace L33
section
noncomputable def kxS : KX (Ex × St) := { ora := tabK tab2, keeps := fun _ => false, asm := fun _ _ => none, loop := fun _ _ => noLoop }
noncomputable def sumX (n : Nat) : Ctx := ctxE Tryz.prog hint takes (tabO tab2) n 29 Tryz.f29
noncomputable def sumC : Code := ((loopsIn (Tryz.f29.body.getD .skip))[0]?).getD .skip
theorem sum_kc (n : Nat) : KCallOK (callK Tryz.prog hint takes (tabO tab2) kxS n) (sumX n).call := callK_ok (kx := kxS) (tab_kora rfl) (fun _ _ _ _ _ _ => noLoop_ok _ _) n
noncomputable def sumS (l0 l : List AVal) (a : Int) (v5 : AVal) (len i : Int) (H : Heap) (wr : List Nat) : St :=
  { env := [(0, .vec l0 .ro), (2, .int .u64 0), (3, .int .u64 a), (5, v5), (6, .vec l .ro), (7, .int .i64 len), (8, .int .i64 i)], facts := [], heap := H, wr := wr }
noncomputable def sumT (l0 l : List AVal) (a : Int) (v5 : AVal) (len i : Int) (H : Heap) (wr : List Nat) : Option (Ex × St) :=
  nIte (decide (i < len)) (nIte (decide (0 ≤ i)) (nIte (headOk 1 l) (nOpt l[i.toNat]? fun v => mInt v fun k x => nIte (decide (k = .u8))
    (some (.normal, sumS l0 l (addI (mulI a 747382712868975713) (IntKind.u64.wrap (IntKind.u64.wrap x + 1))) (.int .u8 x) len (IntKind.i64.wrap (i + 1)) H wr)) none) none) none)
    (some (.exit 0, sumS l0 l a v5 len i H wr))
theorem sum_round0 (l0 l : List AVal) (a : Int) (len i : Int) (H : Heap) (wr : List Nat) (n : Nat) : roundK (sumX (n + 10)) (callK Tryz.prog hint takes (tabO tab2) kxS (n + 10)) sumC (sumS l0 l a (.tup []) len i H wr) = sumT l0 l a (.tup []) len i H wr := by kernel_rfl
theorem sum_round1 (l0 l : List AVal) (a y : Int) (len i : Int) (H : Heap) (wr : List Nat) (n : Nat) : roundK (sumX (n + 10)) (callK Tryz.prog hint takes (tabO tab2) kxS (n + 10)) sumC (sumS l0 l a (.int .u8 y) len i H wr) = sumT l0 l a (.int .u8 y) len i H wr := by kernel_rfl

def isU8 : AVal → Bool
  | .int .u8 _ => true
  | _ => false
def eltI (l : List AVal) (j : Nat) : Int := match l[j]? with
  | some (.int _ x) => x
  | _ => 0
theorem elt_get {l : List AVal} (h : l.all isU8 = true) {j : Nat} (hj : j < l.length) : l[j]? = some (.int .u8 (eltI l j)) := by
  unfold eltI
  rw [List.getElem?_eq_getElem hj]
  have := List.all_eq_true.1 h _ (List.getElem_mem hj)
  generalize l[j] = v at this
  unfold isU8 at this
  split at this
  · rfl
  · cases this
theorem u8_head {l : List AVal} (h : l.all isU8 = true) : headOk 1 l = true := by
  cases l with
  | nil => rfl
  | cons v r =>
    have := List.all_eq_true.1 h v (by simp)
    unfold isU8 at this
    split at this
    · rfl
    · cases this
noncomputable def sumN (l : List AVal) (a : Int) : Nat → Int
  | 0 => a
  | j + 1 => addI (mulI (sumN l a j) 747382712868975713) (IntKind.u64.wrap (IntKind.u64.wrap (eltI l j) + 1))
noncomputable def sum5 (l : List AVal) : Nat → AVal
  | 0 => .tup []
  | j + 1 => .int .u8 (eltI l j)
theorem sum_round (l0 l : List AVal) (a : Int) (j : Nat) (len i : Int) (H : Heap) (wr : List Nat) (n : Nat) (b : Int) : roundK (sumX (n + 10)) (callK Tryz.prog hint takes (tabO tab2) kxS (n + 10)) sumC (sumS l0 l b (sum5 l j) len i H wr) = sumT l0 l b (sum5 l j) len i H wr := by
  cases j with
  | zero => exact sum_round0 ..
  | succ j => exact sum_round1 ..
theorem wrap64 {i : Int} (h : -9223372036854775808 ≤ i ∧ i ≤ 9223372036854775807) : IntKind.i64.wrap i = i := IntWalk.i64_in i h
theorem sum_loop (l0 l : List AVal) (a : Int) (H : Heap) (wr : List Nat) (n : Nat) (hu : l.all isU8 = true) (hl : l.length < 4611686018427387904) (hn : l.length < n + 10) {st : St} (h0 : headS (sumX (n + 10)).hint.vars (sumX (n + 10)).nt st = sumS l0 l a (.tup []) l.length 0 H wr) :
    codeE (sumX (n + 10)) (.loop sumC) st = some (.exit 0, sumS l0 l (sumN l a l.length) (sum5 l l.length) l.length l.length H wr) := by
  refine loop_run (S := fun j => sumS l0 l (sumN l a j) (sum5 l j) l.length j H wr) (L := l.length) (by simp) (fun j hj => ?_) ?_ h0 hn
  · refine round_run (sum_kc _) ((sum_round l0 l a j _ _ H wr n _).trans ?_)
    unfold sumT
    rw [decide_eq_true (show (j : Int) < (l.length : Int) by omega), decide_eq_true (show (0 : Int) ≤ (j : Int) by omega), u8_head hu, Int.toNat_natCast, elt_get hu hj]
    show some (Ex.normal, _) = _
    rw [wrap64 (by omega)]
    rfl
  · refine round_run (sum_kc _) ((sum_round l0 l a l.length _ _ H wr n _).trans ?_)
    unfold sumT
    rw [decide_eq_false (show ¬ (l.length : Int) < (l.length : Int) by omega)]
    rfl
def sumPat : Env → Option (List AVal × Int × Int × List AVal × Int × Int)
  | [(0, .vec l0 .ro), (2, .int .u64 z), (3, .int .u64 a), (5, .tup []), (6, .vec l .ro), (7, .int .i64 len), (8, .int .i64 i)] => some (l0, z, a, l, len, i)
  | _ => none
theorem sumPat_eq {env : Env} {l0 : List AVal} {z a : Int} {l : List AVal} {len i : Int} (h : sumPat env = some (l0, z, a, l, len, i)) :
    env = [(0, .vec l0 .ro), (2, .int .u64 z), (3, .int .u64 a), (5, .tup []), (6, .vec l .ro), (7, .int .i64 len), (8, .int .i64 i)] := by
  unfold sumPat at h
  split at h
  · cases h; rfl
  · cases h
noncomputable def sumLp {R : Type} (n : Nat) : KLoop R := fun _ st k => match st.facts with
  | [] => (match sumPat (headS (hint 29).vars Tryz.f29.ntmps st).env with
    | some (l0, z, a, l, len, i) => some (nIte (decide (z = 0) && decide (i = 0) && decide (len = l.length) && l.all isU8 && decide (l.length < 4611686018427387904) && decide (10 ≤ n) && decide (l.length < n))
        (nIte l.isEmpty (k (.exit 0) (sumS l0 l (sumN l a l.length) (.tup []) l.length l.length st.heap st.wr))
          (k (.exit 0) (sumS l0 l (sumN l a l.length) (.int .u8 (eltI l (l.length - 1))) l.length l.length st.heap st.wr))) none)
    | none => none)
  | _ :: _ => none
theorem sum_head (n : Nat) (st : St) : headS (sumX n).hint.vars (sumX n).nt st = ⟨(headS (hint 29).vars Tryz.f29.ntmps st).env, st.facts, st.heap, st.wr⟩ := by kernel_rfl
theorem sumLp_ok {R : Type} (n : Nat) : KLoopOK (sumLp (R := R) n) (sumX n) [sumC] := by
  intro c hc st k r h
  have hc : c = sumC := by simpa using hc
  subst hc
  unfold sumLp at h
  split at h
  case h_2 => cases h
  rename_i hf
  split at h
  case h_2 => cases h
  rename_i l0 z a l len i hp
  have hp := sumPat_eq hp
  obtain ⟨hg, h2⟩ := nIte_none (Option.some.inj h)
  clear h
  simp only [Bool.and_eq_true, decide_eq_true_eq] at hg
  obtain ⟨⟨⟨⟨⟨⟨rfl, rfl⟩, rfl⟩, g4⟩, g5⟩, g6⟩, g7⟩ := hg
  obtain ⟨m, rfl⟩ : ∃ m, n = m + 10 := ⟨n - 10, by omega⟩
  have h0 : headS (sumX (m + 10)).hint.vars (sumX (m + 10)).nt st = sumS l0 l a (.tup []) l.length 0 st.heap st.wr := by
    rw [sum_head, hp, hf]
    rfl
  refine ⟨_, _, sum_loop l0 l a st.heap st.wr m g4 g5 g7 h0, ?_⟩
  cases l with
  | nil => exact h2
  | cons v r => exact h2
noncomputable def kxSum : KX RR := { ora := tabK tab2, keeps := fun _ => false, asm := fun _ _ => none, loop := fun f n => if f = 29 then sumLp n else noLoop }
theorem loops29 : loopsIn (Tryz.f29.body.getD .skip) = [sumC] := by kernel_rfl
theorem kxSum_lp (f n : Nat) (fn : Func) (body : Code) (hf : Tryz.prog.funcs[f]? = some fn) (hb : fn.body = some body) : KLoopOK (kxSum.loop f n) (ctxE Tryz.prog hint takes (tabO tab2) n f fn) (loopsIn body) := by
  show KLoopOK (if f = 29 then sumLp n else noLoop) _ _
  split
  · rename_i h
    subst h
    rw [Tryz.func29] at hf
    cases hf
    have : loopsIn body = [sumC] := by rw [← loops29, hb]; rfl
    rw [this]
    exact sumLp_ok n
  · exact noLoop_ok _ _
noncomputable def sumI (l : List AVal) : Int := sumN l 0 l.length
theorem sum_tree (l : List AVal) (n : Nat) : callK Tryz.prog hint takes (tabO tab2) kxSum (n + 20) (.func 29) [.vec l .ro] [] fin =
    nIte (decide ((0 : Int) = 0) && decide ((0 : Int) = 0) && decide ((l.length : Int) = l.length) && l.all isU8 && decide (l.length < 4611686018427387904) && decide (10 ≤ n + 19) && decide (l.length < n + 19))
      (nIte l.isEmpty (some (.int .u64 (sumN l 0 l.length), [], [])) (some (.int .u64 (sumN l 0 l.length), [], []))) none := by kernel_rfl
theorem sum_run (l : List AVal) (h1 : l.all isU8 = true) (h2 : l.length < 4611686018427387904) : callE Tryz.prog hint takes (tabO tab2) (l.length + 20) (.func 29) [.vec l .ro] [] = some (.int .u64 (sumI l), [], []) := by
  obtain ⟨v, h', w, h3, h4⟩ := k_call (tab := tab2) (kx := kxSum) rfl kxSum_lp (r := ((.int .u64 (sumI l), [], []) : RR)) ((sum_tree l l.length).trans (by
    rw [decide_eq_true (rfl : (0 : Int) = 0), decide_eq_true (rfl : (l.length : Int) = l.length), h1, decide_eq_true h2, decide_eq_true (show 10 ≤ l.length + 19 by omega), decide_eq_true (show l.length < l.length + 19 by omega)]
    show nIte l.isEmpty _ _ = _
    cases l <;> rfl))
  cases h4
  exact h3
end
end L33
end

section
/- Law 33: the two functions that tell valid names. -/
set_option linter.unusedVariables false
open Go Go.Proofs Go.Abs
namespace L33
section
variable {R : Type}
/-- a byte that no name has -/
def badC (n : Int) : Bool := (decide (n < 97) || decide (122 < n)) && (decide (n < 48) || decide (57 < n)) && n != 45
def decT (n : Int) (y z : Option R) : Option R :=
  nIte (decide (n < 97)) (nIte (decide (n < 48)) (nIte (n != 45) y z) (nIte (decide (57 < n)) (nIte (n != 45) y z) z))
    (nIte (decide (122 < n)) (nIte (decide (n < 48)) (nIte (n != 45) y z) (nIte (decide (57 < n)) (nIte (n != 45) y z) z)) z)
theorem decT_eq (n : Int) (y z : Option R) : decT n y z = nIte (badC n) y z := by
  unfold decT badC
  generalize (n != 45) = c
  generalize decide (n < 97) = c1
  generalize decide (122 < n) = c2
  generalize decide (n < 48) = c3
  generalize decide (57 < n) = c4
  cases c1 <;> cases c2 <;> cases c3 <;> cases c4 <;> cases c <;> rfl

/-! ### stockyardref31.Name -/
noncomputable def nameX (n : Nat) : Ctx := ctxE Tryz.prog hint takes (tabO tab2) n 6 Tryz.f6
noncomputable def nameC : Code := ((loopsIn (Tryz.f6.body.getD .skip))[0]?).getD .skip
theorem name_kc (n : Nat) : KCallOK (callK Tryz.prog hint takes (tabO tab2) kxS n) (nameX n).call := callK_ok (kx := kxS) (tab_kora rfl) (fun _ _ _ _ _ _ => noLoop_ok _ _) n
noncomputable def nameS (s : List UInt8) (i : Int) (v4 : AVal) (H : Heap) (wr : List Nat) : St :=
  { env := [(0, .str s), (2, .bool false), (3, .int .i64 i), (4, v4)], facts := [], heap := H, wr := wr }
noncomputable def nameT (s : List UInt8) (i : Int) (v4 : AVal) (H : Heap) (wr : List Nat) : Option (Ex × St) :=
  nIte (decide (i < s.length)) (nIte (decide (0 ≤ i)) (nOpt s[i.toNat]? fun b => decT (b.toNat : Int) (some (.ret, nameS s i (.int .u8 b.toNat) H wr)) (some (.normal, nameS s (IntKind.i64.wrap (i + 1)) (.int .u8 b.toNat) H wr))) none)
    (some (.exit 0, nameS s i v4 H wr))
theorem name_round0 (s : List UInt8) (i : Int) (H : Heap) (wr : List Nat) (n : Nat) : roundK (nameX (n + 10)) (callK Tryz.prog hint takes (tabO tab2) kxS (n + 10)) nameC (nameS s i (.tup []) H wr) = nameT s i (.tup []) H wr := by kernel_rfl
theorem name_round1 (s : List UInt8) (i y : Int) (H : Heap) (wr : List Nat) (n : Nat) : roundK (nameX (n + 10)) (callK Tryz.prog hint takes (tabO tab2) kxS (n + 10)) nameC (nameS s i (.int .u8 y) H wr) = nameT s i (.int .u8 y) H wr := by kernel_rfl
def badB (b : UInt8) : Bool := badC b.toNat
def name4 (s : List UInt8) : Nat → AVal
  | 0 => .tup []
  | j + 1 => .int .u8 ((s[j]?.getD 0).toNat : Int)
theorem name_round (s : List UInt8) (i : Int) (j : Nat) (H : Heap) (wr : List Nat) (n : Nat) : roundK (nameX (n + 10)) (callK Tryz.prog hint takes (tabO tab2) kxS (n + 10)) nameC (nameS s i (name4 s j) H wr) = nameT s i (name4 s j) H wr := by
  cases j with
  | zero => exact name_round0 ..
  | succ j => exact name_round1 ..
theorem name_step {s : List UInt8} {j : Nat} (hj : j < s.length) (hl : s.length < 4611686018427387904) (v4 : AVal) (H : Heap) (wr : List Nat) :
    nameT s j v4 H wr = nIte (badB (s[j]?.getD 0)) (some (.ret, nameS s j (name4 s (j + 1)) H wr)) (some (.normal, nameS s ((j + 1 : Nat) : Int) (name4 s (j + 1)) H wr)) := by
  have e : name4 s (j + 1) = .int .u8 ((s[j].toNat : Nat) : Int) := by unfold name4; simp only [List.getElem?_eq_getElem hj]; rfl
  have e2 : s[j]?.getD 0 = s[j] := by rw [List.getElem?_eq_getElem hj]; rfl
  rw [e, e2]
  unfold nameT
  rw [decide_eq_true (show (j : Int) < (s.length : Int) by omega), decide_eq_true (show (0 : Int) ≤ (j : Int) by omega), Int.toNat_natCast, List.getElem?_eq_getElem hj]
  show decT _ _ _ = _
  rw [decT_eq, wrap64 (by omega)]
  rfl
theorem name_loop (s : List UInt8) (H : Heap) (wr : List Nat) (n : Nat) (hl : s.length < 4611686018427387904) (hn : s.length < n + 10) {st : St} (h0 : headS (nameX (n + 10)).hint.vars (nameX (n + 10)).nt st = nameS s 0 (.tup []) H wr) :
    codeE (nameX (n + 10)) (.loop nameC) st = if s.any badB then some (.ret, nameS s (s.findIdx badB) (name4 s (s.findIdx badB + 1)) H wr) else some (.exit 0, nameS s s.length (name4 s s.length) H wr) := by
  have step : ∀ j, j < s.length → badB (s[j]?.getD 0) = false → ∃ st', codeE (nameX (n + 10)) nameC (nameS s j (name4 s j) H wr) = some (.normal, st') ∧ headS (nameX (n + 10)).hint.vars (nameX (n + 10)).nt st' = nameS s ((j + 1 : Nat) : Int) (name4 s (j + 1)) H wr := fun j hj hb =>
    round_run (name_kc _) ((name_round s j j H wr n).trans (by rw [name_step hj hl, hb]; rfl))
  by_cases hb : s.any badB = true
  · rw [if_pos hb]
    have hlt : s.findIdx badB < s.length := List.findIdx_lt_length_of_exists (by simpa using hb)
    refine loop_run (S := fun j => nameS s j (name4 s j) H wr) (L := s.findIdx badB) (by simp) (fun j hj => ?_) ?_ h0 (show s.findIdx badB < n + 10 by omega)
    · have hj2 : j < s.length := by omega
      refine step j hj2 ?_
      have := List.not_of_lt_findIdx hj
      rw [List.getElem?_eq_getElem hj2]
      simpa using this
    · refine round_run (name_kc _) ((name_round s _ _ H wr n).trans ?_)
      have : badB (s[s.findIdx badB]?.getD 0) = true := by
        rw [List.getElem?_eq_getElem hlt]
        exact List.findIdx_getElem (w := hlt)
      rw [name_step hlt hl, this]
      rfl
  · rw [if_neg hb]
    refine loop_run (S := fun j => nameS s j (name4 s j) H wr) (L := s.length) (by simp) (fun j hj => ?_) ?_ h0 (show s.length < n + 10 by omega)
    · refine step j hj ?_
      rw [List.getElem?_eq_getElem hj]
      have := List.any_eq_false.1 (by simpa using hb) _ (List.getElem_mem hj)
      simpa using this
    · refine round_run (name_kc _) ((name_round s _ _ H wr n).trans ?_)
      unfold nameT
      rw [decide_eq_false (show ¬ (s.length : Int) < (s.length : Int) by omega)]
      rfl
def namePat : Env → Option (List UInt8 × Int)
  | [(0, .str s), (2, .bool false), (3, .int .i64 i), (4, .tup [])] => some (s, i)
  | _ => none
theorem namePat_eq {env : Env} {s : List UInt8} {i : Int} (h : namePat env = some (s, i)) : env = [(0, .str s), (2, .bool false), (3, .int .i64 i), (4, .tup [])] := by
  unfold namePat at h
  split at h
  · cases h; rfl
  · cases h
noncomputable def nameLp {R : Type} (n : Nat) : KLoop R := fun _ st k => match st.facts with
  | [] => (match namePat (headS (hint 6).vars Tryz.f6.ntmps st).env with
    | some (s, i) => some (nIte (decide (i = 0) && decide (s.length < 4611686018427387904) && decide (10 ≤ n) && decide (s.length < n))
        (nIte (s.any badB) (k .ret (nameS s (s.findIdx badB) (.int .u8 ((s[s.findIdx badB]?.getD 0).toNat : Int)) st.heap st.wr))
          (nIte s.isEmpty (k (.exit 0) (nameS s s.length (.tup []) st.heap st.wr)) (k (.exit 0) (nameS s s.length (.int .u8 ((s[s.length - 1]?.getD 0).toNat : Int)) st.heap st.wr)))) none)
    | none => none)
  | _ :: _ => none
theorem name_head (n : Nat) (st : St) : headS (nameX n).hint.vars (nameX n).nt st = ⟨(headS (hint 6).vars Tryz.f6.ntmps st).env, st.facts, st.heap, st.wr⟩ := by kernel_rfl
theorem nameLp_ok {R : Type} (n : Nat) : KLoopOK (nameLp (R := R) n) (nameX n) [nameC] := by
  intro c hc st k r h
  have hc : c = nameC := by simpa using hc
  subst hc
  unfold nameLp at h
  split at h
  case h_2 => cases h
  rename_i hf
  split at h
  case h_2 => cases h
  rename_i s i hp
  have hp := namePat_eq hp
  obtain ⟨hg, h2⟩ := nIte_none (Option.some.inj h)
  clear h
  simp only [Bool.and_eq_true, decide_eq_true_eq] at hg
  obtain ⟨⟨⟨rfl, g5⟩, g6⟩, g7⟩ := hg
  obtain ⟨m, rfl⟩ : ∃ m, n = m + 10 := ⟨n - 10, by omega⟩
  have h0 : headS (nameX (m + 10)).hint.vars (nameX (m + 10)).nt st = nameS s 0 (.tup []) st.heap st.wr := by
    rw [name_head, hp, hf]
    rfl
  rw [name_loop s st.heap st.wr m g5 g7 h0]
  rcases nIte_eq h2 with ⟨hb, h2⟩ | ⟨hb, h2⟩
  · rw [if_pos hb]
    exact ⟨_, _, rfl, h2⟩
  · rw [if_neg (by simp [hb])]
    refine ⟨_, _, rfl, ?_⟩
    cases s with
    | nil => exact h2
    | cons v r => exact h2
theorem loops6 : loopsIn (Tryz.f6.body.getD .skip) = [nameC] := by kernel_rfl

/-! ### safefile.Valid -/
noncomputable def valX (n : Nat) : Ctx := ctxE Tryz.prog hint takes (tabO tab2) n 14 Tryz.f14
noncomputable def valC : Code := ((loopsIn (Tryz.f14.body.getD .skip))[0]?).getD .skip
theorem val_kc (n : Nat) : KCallOK (callK Tryz.prog hint takes (tabO tab2) kxS n) (valX n).call := callK_ok (kx := kxS) (tab_kora rfl) (fun _ _ _ _ _ _ => noLoop_ok _ _) n
noncomputable def valS (s : List UInt8) (l : List AVal) (o : Own) (len i : Int) (v4 : AVal) (H : Heap) (wr : List Nat) : St :=
  { env := [(0, .str s), (2, .bool false), (4, v4), (14, .vec l o), (15, .int .i64 len), (16, .int .i64 i)], facts := [], heap := H, wr := wr }
noncomputable def valT (s : List UInt8) (l : List AVal) (o : Own) (len i : Int) (v4 : AVal) (H : Heap) (wr : List Nat) : Option (Ex × St) :=
  nIte (decide (i < len)) (nIte (decide (0 ≤ i)) (nIte (headOk 1 l) (nOpt l[i.toNat]? fun v => mInt v fun k x => nIte (decide (k = .u8))
    (decT x (some (.ret, valS s l (.tip 1) len i (.int .u8 x) H wr)) (some (.normal, valS s l (.tip 1) len (IntKind.i64.wrap (i + 1)) (.int .u8 x) H wr))) none) none) none)
    (some (.exit 0, valS s l o len i v4 H wr))
theorem val_round0 (s : List UInt8) (l : List AVal) (len i : Int) (H : Heap) (wr : List Nat) (n : Nat) : roundK (valX (n + 10)) (callK Tryz.prog hint takes (tabO tab2) kxS (n + 10)) valC (valS s l (.ex 1) len i (.tup []) H wr) = valT s l (.ex 1) len i (.tup []) H wr := by kernel_rfl
theorem val_round1 (s : List UInt8) (l : List AVal) (len i y : Int) (H : Heap) (wr : List Nat) (n : Nat) : roundK (valX (n + 10)) (callK Tryz.prog hint takes (tabO tab2) kxS (n + 10)) valC (valS s l (.tip 1) len i (.int .u8 y) H wr) = valT s l (.tip 1) len i (.int .u8 y) H wr := by kernel_rfl
def valI : AVal → Int
  | .int _ x => x
  | _ => 0
def badV (v : AVal) : Bool := badC (valI v)
def val4 (l : List AVal) : Nat → AVal
  | 0 => .tup []
  | j + 1 => .int .u8 (eltI l j)
def valO : Nat → Own
  | 0 => .ex 1
  | _ + 1 => .tip 1
theorem val_round (s : List UInt8) (l : List AVal) (len i : Int) (j : Nat) (H : Heap) (wr : List Nat) (n : Nat) : roundK (valX (n + 10)) (callK Tryz.prog hint takes (tabO tab2) kxS (n + 10)) valC (valS s l (valO j) len i (val4 l j) H wr) = valT s l (valO j) len i (val4 l j) H wr := by
  cases j with
  | zero => exact val_round0 ..
  | succ j => exact val_round1 ..
theorem elt_bad {l : List AVal} (hu : l.all isU8 = true) {j : Nat} (hj : j < l.length) : badV l[j] = badC (eltI l j) := by
  have := elt_get hu hj
  rw [List.getElem?_eq_getElem hj] at this
  rw [Option.some.inj this]
  rfl
theorem val_step {l : List AVal} (hu : l.all isU8 = true) {j : Nat} (hj : j < l.length) (hl : l.length < 4611686018427387904) (s : List UInt8) (o : Own) (v4 : AVal) (H : Heap) (wr : List Nat) :
    valT s l o l.length j v4 H wr = nIte (badC (eltI l j)) (some (.ret, valS s l (.tip 1) l.length j (val4 l (j + 1)) H wr)) (some (.normal, valS s l (valO (j + 1)) l.length ((j + 1 : Nat) : Int) (val4 l (j + 1)) H wr)) := by
  unfold valT
  rw [decide_eq_true (show (j : Int) < (l.length : Int) by omega), decide_eq_true (show (0 : Int) ≤ (j : Int) by omega), u8_head hu, Int.toNat_natCast, elt_get hu hj]
  show decT _ _ _ = _
  rw [decT_eq, wrap64 (by omega)]
  rfl
theorem val_loop (s : List UInt8) (l : List AVal) (hu : l.all isU8 = true) (H : Heap) (wr : List Nat) (n : Nat) (hl : l.length < 4611686018427387904) (hn : l.length < n + 10) {st : St} (h0 : headS (valX (n + 10)).hint.vars (valX (n + 10)).nt st = valS s l (.ex 1) l.length 0 (.tup []) H wr) :
    codeE (valX (n + 10)) (.loop valC) st = if l.any badV then some (.ret, valS s l (.tip 1) l.length (l.findIdx badV) (val4 l (l.findIdx badV + 1)) H wr) else some (.exit 0, valS s l (valO l.length) l.length l.length (val4 l l.length) H wr) := by
  have step : ∀ j, j < l.length → badC (eltI l j) = false → ∃ st', codeE (valX (n + 10)) valC (valS s l (valO j) l.length j (val4 l j) H wr) = some (.normal, st') ∧ headS (valX (n + 10)).hint.vars (valX (n + 10)).nt st' = valS s l (valO (j + 1)) l.length ((j + 1 : Nat) : Int) (val4 l (j + 1)) H wr := fun j hj hb =>
    round_run (val_kc _) ((val_round s l _ j j H wr n).trans (by rw [val_step hu hj hl, hb]; rfl))
  by_cases hb : l.any badV = true
  · rw [if_pos hb]
    have hlt : l.findIdx badV < l.length := List.findIdx_lt_length_of_exists (by simpa using hb)
    refine loop_run (S := fun j => valS s l (valO j) l.length j (val4 l j) H wr) (L := l.findIdx badV) (by simp) (fun j hj => ?_) ?_ h0 (show l.findIdx badV < n + 10 by omega)
    · have hj2 : j < l.length := by omega
      refine step j hj2 ?_
      have := List.not_of_lt_findIdx hj
      rw [← elt_bad hu hj2]
      simpa using this
    · refine round_run (val_kc _) ((val_round s l _ _ _ H wr n).trans ?_)
      have : badC (eltI l (l.findIdx badV)) = true := by
        rw [← elt_bad hu hlt]
        exact List.findIdx_getElem (w := hlt)
      rw [val_step hu hlt hl, this]
      rfl
  · rw [if_neg hb]
    refine loop_run (S := fun j => valS s l (valO j) l.length j (val4 l j) H wr) (L := l.length) (by simp) (fun j hj => ?_) ?_ h0 (show l.length < n + 10 by omega)
    · refine step j hj ?_
      rw [← elt_bad hu hj]
      have := List.any_eq_false.1 (by simpa using hb) _ (List.getElem_mem hj)
      simpa using this
    · refine round_run (val_kc _) ((val_round s l _ _ _ H wr n).trans ?_)
      unfold valT
      rw [decide_eq_false (show ¬ (l.length : Int) < (l.length : Int) by omega)]
      rfl
def valPat : Env → Option (List UInt8 × List AVal × Int × Int)
  | [(0, .str s), (2, .bool false), (4, .tup []), (14, .vec l (.ex 1)), (15, .int .i64 len), (16, .int .i64 i)] => some (s, l, len, i)
  | _ => none
theorem valPat_eq {env : Env} {s : List UInt8} {l : List AVal} {len i : Int} (h : valPat env = some (s, l, len, i)) : env = [(0, .str s), (2, .bool false), (4, .tup []), (14, .vec l (.ex 1)), (15, .int .i64 len), (16, .int .i64 i)] := by
  unfold valPat at h
  split at h
  · cases h; rfl
  · cases h
noncomputable def valLp {R : Type} (n : Nat) : KLoop R := fun _ st k => match st.facts with
  | [] => (match valPat (headS (hint 14).vars Tryz.f14.ntmps st).env with
    | some (s, l, len, i) => some (nIte (decide (i = 0) && decide (len = l.length) && l.all isU8 && decide (l.length < 4611686018427387904) && decide (10 ≤ n) && decide (l.length < n))
        (nIte (l.any badV) (k .ret (valS s l (.tip 1) l.length (l.findIdx badV) (.int .u8 (eltI l (l.findIdx badV))) st.heap st.wr))
          (nIte l.isEmpty (k (.exit 0) (valS s l (.ex 1) l.length l.length (.tup []) st.heap st.wr)) (k (.exit 0) (valS s l (.tip 1) l.length l.length (.int .u8 (eltI l (l.length - 1))) st.heap st.wr)))) none)
    | none => none)
  | _ :: _ => none
theorem val_head (n : Nat) (st : St) : headS (valX n).hint.vars (valX n).nt st = ⟨(headS (hint 14).vars Tryz.f14.ntmps st).env, st.facts, st.heap, st.wr⟩ := by kernel_rfl
theorem valLp_ok {R : Type} (n : Nat) : KLoopOK (valLp (R := R) n) (valX n) [valC] := by
  intro c hc st k r h
  have hc : c = valC := by simpa using hc
  subst hc
  unfold valLp at h
  split at h
  case h_2 => cases h
  rename_i hf
  split at h
  case h_2 => cases h
  rename_i s l len i hp
  have hp := valPat_eq hp
  obtain ⟨hg, h2⟩ := nIte_none (Option.some.inj h)
  clear h
  simp only [Bool.and_eq_true, decide_eq_true_eq] at hg
  obtain ⟨⟨⟨⟨⟨rfl, rfl⟩, g4⟩, g5⟩, g6⟩, g7⟩ := hg
  obtain ⟨m, rfl⟩ : ∃ m, n = m + 10 := ⟨n - 10, by omega⟩
  have h0 : headS (valX (m + 10)).hint.vars (valX (m + 10)).nt st = valS s l (.ex 1) l.length 0 (.tup []) st.heap st.wr := by
    rw [val_head, hp, hf]
    rfl
  rw [val_loop s l g4 st.heap st.wr m g5 g7 h0]
  rcases nIte_eq h2 with ⟨hb, h2⟩ | ⟨hb, h2⟩
  · rw [if_pos hb]
    exact ⟨_, _, rfl, h2⟩
  · rw [if_neg (by simp [hb])]
    refine ⟨_, _, rfl, ?_⟩
    cases l with
    | nil => exact h2
    | cons v r => exact h2
theorem loops14 : loopsIn (Tryz.f14.body.getD .skip) = [valC] := by kernel_rfl

/-! ### What they answer -/
noncomputable def kxV : KX RR := { ora := tabK tab2, keeps := fun _ => false, asm := fun _ _ => none, loop := fun f n => if f = 6 then nameLp n else if f = 14 then valLp n else noLoop }
theorem kxV_lp (f n : Nat) (fn : Func) (body : Code) (hf : Tryz.prog.funcs[f]? = some fn) (hb : fn.body = some body) : KLoopOK (kxV.loop f n) (ctxE Tryz.prog hint takes (tabO tab2) n f fn) (loopsIn body) := by
  show KLoopOK (if f = 6 then nameLp n else if f = 14 then valLp n else noLoop) _ _
  split
  · rename_i h
    subst h
    rw [Tryz.func6] at hf
    cases hf
    have : loopsIn body = [nameC] := by rw [← loops6, hb]; rfl
    rw [this]
    exact nameLp_ok n
  · split
    · rename_i h
      subst h
      rw [Tryz.func14] at hf
      cases hf
      have : loopsIn body = [valC] := by rw [← loops14, hb]; rfl
      rw [this]
      exact valLp_ok n
    · exact noLoop_ok _ _
/-- a valid name -/
def nameB (s : List UInt8) : Bool := !(decide ((s.length : Int) < 1)) && !(decide (40 < (s.length : Int))) && !s.any badB
def bF : Option RR := some (.bool false, [], [])
def bT : Option RR := some (.bool true, [], [])
theorem name_tree (s : List UInt8) (n : Nat) : callK Tryz.prog hint takes (tabO tab2) kxV (n + 20) (.func 6) [.str s] [] fin =
    nIte (decide ((s.length : Int) < 1)) bF (nIte (decide (40 < (s.length : Int))) bF
      (nIte (decide ((0 : Int) = 0) && decide (s.length < 4611686018427387904) && decide (10 ≤ n + 19) && decide (s.length < n + 19)) (nIte (s.any badB) bF (nIte s.isEmpty bT bT)) none)) := by kernel_rfl
theorem val_tree (s : List UInt8) (n : Nat) : callK Tryz.prog hint takes (tabO tab2) kxV (n + 20) (.func 14) [.str s] [] fin =
    nIte (decide ((s.length : Int) < 1)) bF (nIte (decide (40 < (s.length : Int))) bF
      (nIte (decide ((0 : Int) = 0) && decide (((bytesE s).length : Int) = (bytesE s).length) && (bytesE s).all isU8 && decide ((bytesE s).length < 4611686018427387904) && decide (10 ≤ n + 19) && decide ((bytesE s).length < n + 19)) (nIte ((bytesE s).any badV) bF (nIte (bytesE s).isEmpty bT bT)) none)) := by kernel_rfl
theorem nIte_same {b : Bool} {y : Option R} : nIte b y y = y := by cases b <;> rfl
theorem name_run (s : List UInt8) : callE Tryz.prog hint takes (tabO tab2) (60 + 20) (.func 6) [.str s] [] = some (.bool (nameB s), [], []) := by
  obtain ⟨v, h', w, h3, h4⟩ := k_call (tab := tab2) (kx := kxV) rfl kxV_lp (r := ((.bool (nameB s), [], []) : RR)) ((name_tree s 60).trans (by
    unfold nameB
    by_cases h1 : (s.length : Int) < 1
    · rw [decide_eq_true h1]; rfl
    · by_cases h2 : 40 < (s.length : Int)
      · rw [decide_eq_false h1, decide_eq_true h2]; rfl
      · rw [decide_eq_false h1, decide_eq_false h2, decide_eq_true (rfl : (0 : Int) = 0), decide_eq_true (show s.length < 4611686018427387904 by omega), decide_eq_true (show 10 ≤ 60 + 19 by omega), decide_eq_true (show s.length < 60 + 19 by omega), nIte_same]
        cases s.any badB <;> rfl))
  cases h4
  exact h3
theorem bytes_u8 (s : List UInt8) : (bytesE s).all isU8 = true := by
  unfold bytesE
  simp [isU8]
theorem bytes_bad (s : List UInt8) : (bytesE s).any badV = s.any badB := by
  unfold bytesE
  rw [List.any_map]
  rfl
theorem val_run (s : List UInt8) : callE Tryz.prog hint takes (tabO tab2) (60 + 20) (.func 14) [.str s] [] = some (.bool (nameB s), [], []) := by
  obtain ⟨v, h', w, h3, h4⟩ := k_call (tab := tab2) (kx := kxV) rfl kxV_lp (r := ((.bool (nameB s), [], []) : RR)) ((val_tree s 60).trans (by
    unfold nameB
    by_cases h1 : (s.length : Int) < 1
    · rw [decide_eq_true h1]; rfl
    · by_cases h2 : 40 < (s.length : Int)
      · rw [decide_eq_false h1, decide_eq_true h2]; rfl
      · have hbl := bytesE_length s
        rw [decide_eq_false h1, decide_eq_false h2, decide_eq_true (rfl : (0 : Int) = 0), decide_eq_true (rfl : ((bytesE s).length : Int) = (bytesE s).length), bytes_u8, decide_eq_true (show (bytesE s).length < 4611686018427387904 by omega), decide_eq_true (show 10 ≤ 60 + 19 by omega), decide_eq_true (show (bytesE s).length < 60 + 19 by omega), nIte_same, bytes_bad]
        cases s.any badB <;> rfl))
  cases h4
  exact h3
end
end L33
end

section
/- Law 33: the table of contracts. -/
set_option linter.unusedVariables false
open Go Go.Proofs Go.Abs
namespace L33
section
/-- a number folded to one of four -/
def fold4 (v : Int) : Int := if v.tmod 4 < 0 then IntKind.i64.wrap (v.tmod 4 + 4) else v.tmod 4
theorem fold_tree (v : Int) : callK Tryz.prog hint takes (tabO tab0) (kxN tab0) 10 (.func 9) [.int .i64 v, .int .i64 4] [] fin =
    nIte (decide (v.tmod 4 < 0)) (some (.int .i64 (IntKind.i64.wrap (v.tmod 4 + 4)), [], [])) (some (.int .i64 (v.tmod 4), [], [])) := by kernel_rfl
theorem fold_run (v : Int) : callE Tryz.prog hint takes (tabO tab0) 10 (.func 9) [.int .i64 v, .int .i64 4] [] = some (.int .i64 (fold4 v), [], []) := by
  refine run_eq ((fold_tree v).trans ?_)
  unfold fold4
  by_cases h : v.tmod 4 < 0
  · rw [decide_eq_true h, if_pos h]; rfl
  · rw [decide_eq_false h, if_neg h]; rfl
theorem fold4_cases (v : Int) : fold4 v = 0 ∨ fold4 v = 1 ∨ fold4 v = 2 ∨ fold4 v = 3 := by
  unfold fold4
  have h1 := Int.tmod_lt_of_pos v (show (0 : Int) < 4 by omega)
  have h2 : -4 < v.tmod 4 := by
    have := Int.neg_lt_of_neg_lt (Int.tmod_lt_of_pos (-v) (show (0 : Int) < 4 by omega) |> fun h => by rw [Int.neg_tmod] at h; exact h)
    omega
  split
  · rw [wrap64 (by omega)]; omega
  · omega
noncomputable def tab3 : Tab := fun f args =>
  if f = 29 then (match args with
    | [.vec l .ro] => some (l.all isU8 && decide (l.length < 4611686018427387904), (.int .u64 (sumI l), [], []))
    | _ => none)
  else if f = 9 then (match args with
    | [.int .i64 v, .int .i64 4] => some (true, (.int .i64 (fold4 v), [], []))
    | _ => none)
  else if f = 6 then (match args with
    | [.str s] => some (true, (.bool (nameB s), [], []))
    | _ => none)
  else if f = 14 then (match args with
    | [.str s] => some (true, (.bool (nameB s), [], []))
    | _ => none)
  else if f = 7 then (match args with
    | [] => some (true, (.bool true, [], []))
    | _ => none)
  else none
theorem u8_flat {l : List AVal} (h : l.all isU8 = true) : [AVal.vec l .ro].all flatB = true := by
  have : noIds 0 (.vec l .ro) = true := by
    show noIdsL 0 l = true
    induction l with
    | nil => rfl
    | cons v r ih =>
      rw [List.all_cons, Bool.and_eq_true] at h
      have h1 := h.1
      unfold isU8 at h1
      split at h1
      · show (noIds 0 _ && noIdsL 0 r) = true
        rw [ih h.2]; rfl
      · cases h1
  simp [flatB, this]
theorem str_flat (s : List UInt8) : [AVal.str s].all flatB = true := rfl
theorem oraN_ok (w0 : World) (B : Nat) : OraOK Tryz.prog w0 B oraN := oraNone_ok w0 B
theorem tab3_ok (w0 : World) (B : Nat) : OraOK Tryz.prog w0 B (tabO tab3) := by
  refine tab_ok good (fun f args r h => ?_) w0 B
  unfold tab3 at h
  split at h
  · rename_i hf; subst hf
    split at h
    · simp only [Option.some.injEq, Prod.mk.injEq, Bool.and_eq_true, decide_eq_true_eq] at h
      obtain ⟨⟨h1, h2⟩, rfl⟩ := h
      exact ⟨u8_flat h1, hint, takes, _, _, tab2_ok, rfl, sum_run _ h1 h2⟩
    · cases h
  split at h
  · rename_i hf; subst hf
    split at h
    · cases h
      exact ⟨int_flat, hint, takes, _, _, tab0_ok, rfl, fold_run _⟩
    · cases h
  split at h
  · rename_i hf; subst hf
    split at h
    · cases h
      exact ⟨str_flat _, hint, takes, _, _, tab2_ok, rfl, name_run _⟩
    · cases h
  split at h
  · rename_i hf; subst hf
    split at h
    · cases h
      exact ⟨str_flat _, hint, takes, _, _, tab2_ok, rfl, val_run _⟩
    · cases h
  split at h
  · rename_i hf; subst hf
    split at h
    · cases h
      exact ⟨rfl, hint, takes, _, _, oraN_ok, rfl, known_true⟩
    · cases h
  · cases h
end
end L33
end

section
/- Law 33: pieces of the law's code. -/
set_option linter.unusedVariables false
open Go Go.Proofs Go.Abs
namespace L33
section
noncomputable def kx4 : KX (Ex × St) := { ora := tabK tab3, keeps := fun f => f == 5 || f == 4, asm := fun _ _ => none, loop := fun _ _ => noLoop }
noncomputable def lawX (n : Nat) : Ctx := ctxE Tryz.prog hint takes (tabO tab3) n 3 Tryz.f3
theorem law_kc (n : Nat) : KCallOK (callK Tryz.prog hint takes (tabO tab3) kx4 n) (lawX n).call := callK_ok (kx := kx4) (tab_kora rfl) (fun _ _ _ _ _ _ => noLoop_ok _ _) n
noncomputable def sndN : Nat → Code → Code
  | 0, c => c
  | n + 1, c => sndN n (sndC c)
noncomputable def pc (i : Nat) : Code := fstC (sndN i (Tryz.f3.body.getD .skip))
noncomputable def pieceL (n i : Nat) (st : St) : Option (Ex × St) := pieceK (lawX (n + 200)) (callK Tryz.prog hint takes (tabO tab3) kx4 (n + 200)) noLoop (pc i) st
theorem pieceL_run {n i : Nat} {st s : St} {e : Ex} (h : pieceL n i st = some (e, s)) : codeE (lawX (n + 200)) (pc i) st = some (e, s) := piece_run (law_kc _) (noLoop_ok _ _) h
def zb : AObj := .box [.int .u64 0, .int .i64 0]
def stB (p : List UInt8) : AObj := .box [.ptr (some (2, 0)), .str p, .bool false, .map (some 3), .map (some 4), .int .i64 0]
def dvB : AObj := .box [.map (some 0), .map (some 1), .vec [] .nul, .int .i64 0, .bool false]
def em : AObj := .map [] ⟨[], 0⟩
def idB (S c : Int) : AObj := .box [.int .u64 S, .int .i64 c]
def m1 (S c : Int) (l : List AVal) : AObj := .map [(.agg [.int .u64 S, .int .i64 c], .agg [.int .i64 0, .int .i64 0, .vec l .ro])] ⟨[0], 1⟩
end
end L33
end

section
/- Law 33, ChunkstoreNames: the law's code, piece by piece. -/
set_option linter.unusedVariables false
open Go Go.Proofs Go.Abs
namespace L33
section
def chunks : List UInt8 := [46, 99, 104, 117, 110, 107, 115]
def baseE (s : List UInt8) (n x : Int) (b : Bool) (q : Option (Nat × Nat)) (e : Int) : Env := [(0, .str s), (1, .int .i64 n), (2, .int .u8 x), (6, .bool b), (7, .ptr q), (8, .int .i64 e)]
noncomputable def st0 (s : List UInt8) (n x : Int) : St := { env := [(0, .str s), (1, .int .i64 n), (2, .int .u8 x)], facts := [], heap := [], wr := [] }
noncomputable def st1 (s : List UInt8) (n x : Int) : St := { env := [(0, .str s), (1, .int .i64 n), (2, .int .u8 x), (6, .bool false)], facts := [], heap := [], wr := [] }
noncomputable def st2 (s : List UInt8) (n x : Int) (q : Option (Nat × Nat)) (e : Int) (H : Heap) : St :=
  { env := [(0, .str s), (1, .int .i64 n), (2, .int .u8 x), (6, .bool false), (7, .ptr q), (8, .int .i64 e), (16, .tup [.tup [], .tup []]), (17, .ptr (some (2, 0))), (18, .str s), (19, .tup []), (20, .ptr q), (21, .int .i64 e)], facts := [], heap := H, wr := [] }
noncomputable def H0 (p : List UInt8) : Heap := [stB p, em, em, dvB, em, em]
theorem stage0 (s : List UInt8) (n x : Int) (m : Nat) : pieceL m 0 (st0 s n x) = some (.normal, st1 s n x) := by kernel_rfl
theorem stage1 (s : List UInt8) (n x : Int) (m : Nat) : pieceL m 1 (st1 s n x) =
    nIte (!(nameB s)) (some (.normal, st2 s n x none 336 [dvB, em, em])) (nIte (decide (s.length + 7 < 4611686018427387904)) (some (.normal, st2 s n x (some (5, 0)) 0 (H0 (s ++ chunks)))) none) := by kernel_rfl
/-- the name is not valid -/
noncomputable def st3N (s : List UInt8) (n x : Int) : St :=
  { env := [(0, .str s), (1, .int .i64 n), (2, .int .u8 x), (6, .bool true), (7, .ptr none), (8, .int .i64 336), (25, .bool true), (26, .bool true), (27, .int .i64 336), (28, .bool true), (29, .bool true), (30, .bool true), (31, .ptr none), (32, .bool true), (33, .bool true)], facts := [], heap := [dvB, em, em], wr := [] }
noncomputable def st3 (s : List UInt8) (n x : Int) (q : Option (Nat × Nat)) (e : Int) (H : Heap) : St :=
  { env := [(0, .str s), (1, .int .i64 n), (2, .int .u8 x), (6, .bool false), (7, .ptr q), (8, .int .i64 e), (22, .str s), (23, .bool (nameB s)), (24, .bool false)], facts := [], heap := H, wr := [] }
noncomputable def st3D (s : List UInt8) (n x : Int) (p : List UInt8) : St :=
  { env := [(0, .str s), (1, .int .i64 n), (2, .int .u8 x), (6, .bool false), (7, .ptr (some (5, 0))), (8, .int .i64 0), (25, .bool true), (26, .bool true), (27, .int .i64 0), (28, .bool false), (29, .bool false), (30, .bool false), (31, .tup []), (32, .tup []), (33, .bool false)], facts := [], heap := H0 p, wr := [] }
theorem stage2n (s : List UInt8) (n x : Int) (m : Nat) : pieceL m 2 (st2 s n x none 336 [dvB, em, em]) =
    nIte (!(nameB s)) (some (.ret, st3N s n x)) (some (.normal, st3 s n x none 336 [dvB, em, em])) := by kernel_rfl
theorem stage2 (s : List UInt8) (n x : Int) (p : List UInt8) (m : Nat) : pieceL m 2 (st2 s n x (some (5, 0)) 0 (H0 p)) =
    nIte (!(nameB s)) (some (.ret, st3D s n x p)) (some (.normal, st3 s n x (some (5, 0)) 0 (H0 p))) := by kernel_rfl
noncomputable def st4 (s : List UInt8) (n x : Int) (p : List UInt8) : St :=
  { env := [(0, .str s), (1, .int .i64 n), (2, .int .u8 x), (6, .bool false), (7, .ptr (some (5, 0))), (8, .int .i64 0), (34, .bool true), (35, .bool false), (36, .bool false), (37, .int .i64 0), (38, .bool false), (39, .bool false), (40, .bool false), (41, .ptr (some (5, 0))), (42, .bool false), (43, .bool false), (44, .bool false), (45, .ptr (some (5, 0))), (46, .vec [] (.tip 2)), (47, .int .i64 0), (48, .bool false), (49, .bool false)], facts := [], heap := H0 p, wr := [] }
theorem stage3 (s : List UInt8) (n x : Int) (p : List UInt8) (m : Nat) : pieceL m 3 (st3 s n x (some (5, 0)) 0 (H0 p)) = some (.normal, st4 s n x p) := by kernel_rfl
noncomputable def st5 (s : List UInt8) (n x N f : Int) (p : List UInt8) : St :=
  { env := [(0, .str s), (1, .int .i64 N), (2, .int .u8 x), (6, .bool false), (7, .ptr (some (5, 0))), (8, .int .i64 0), (50, .int .i64 n), (51, .int .i64 f), (52, .int .i64 N)], facts := [], heap := H0 p, wr := [] }
theorem stage4 (s : List UInt8) (n x : Int) (p : List UInt8) (m : Nat) : pieceL m 4 (st4 s n x p) = some (.normal, st5 s n x (IntKind.i64.wrap (8191 + fold4 n)) (fold4 n) p) := by kernel_rfl
noncomputable def st6 (s : List UInt8) (N x : Int) (l : List AVal) (p : List UInt8) : St :=
  { env := [(0, .str s), (1, .int .i64 N), (2, .int .u8 x), (6, .bool false), (7, .ptr (some (5, 0))), (8, .int .i64 0), (9, .vec l (.ex 1)), (53, .int .i64 N), (54, .tup [])], facts := [], heap := H0 p, wr := [] }
theorem stage5 (s : List UInt8) (n x N f : Int) (p : List UInt8) (m : Nat) : pieceL m 5 (st5 s n x N f p) =
    nIte (decide (0 ≤ N)) (nIte (decide (N ≤ N)) (nIte (decide (((1 : Nat) : Int) * N ≤ 140737488355328)) (nIte (decide (N ≤ 140737488355328)) (some (.normal, st6 s N x (List.replicate N.toNat (.int .u8 0)) p)) none) none) none) none := by kernel_rfl
noncomputable def st7 (s : List UInt8) (N x k : Int) (l : List AVal) (p : List UInt8) : St :=
  { env := [(0, .str s), (1, .int .i64 N), (2, .int .u8 x), (6, .bool false), (7, .ptr (some (5, 0))), (8, .int .i64 0), (9, .vec l (.ex 1)), (55, .bor 9), (56, .int .i64 N), (57, .int .i64 k), (58, .int .u8 x), (59, .sptr 9 k.toNat 0)], facts := [], heap := H0 p, wr := [] }
theorem stage6 (s : List UInt8) (N x : Int) (l : List AVal) (p : List UInt8) (m : Nat) : pieceL m 6 (st6 s N x l p) =
    nIte (decide (0 ≤ IntKind.i64.wrap (N - 1))) (nIte (headOk 1 l) (nOpt l[(IntKind.i64.wrap (N - 1)).toNat]? fun _ => nOpt l[(IntKind.i64.wrap (N - 1)).toNat]? fun v => nIte (isAggB v) none
      (some (.normal, st7 s N x (IntKind.i64.wrap (N - 1)) (l.set (IntKind.i64.wrap (N - 1)).toNat (.int .u8 x)) p))) none) none := by kernel_rfl
noncomputable def st8 (s : List UInt8) (N x f S c : Int) (l : List AVal) (H : Heap) (wr : List Nat) : St :=
  { env := [(0, .str s), (1, .int .i64 N), (2, .int .u8 x), (6, .bool false), (7, .ptr (some (5, 0))), (8, .int .i64 0), (9, .vec l (.tip 1)), (10, .ptr (some (6, 0))), (11, .int .i64 f), (60, .tup [.tup [], .tup []]), (61, .ptr (some (5, 0))), (62, .bor 9), (63, .tup []), (64, .agg [.int .u64 S, .int .i64 c]), (65, .int .i64 f)], facts := [], heap := H, wr := wr }
noncomputable def HA (p : List UInt8) (S c : Int) (M : AObj) : Heap := [idB S c, stB p, em, M, dvB, em, em]
theorem stage7 (s : List UInt8) (N x k : Int) (l : List AVal) (p : List UInt8) (m : Nat) : pieceL m 7 (st7 s N x k l p) =
    nIte ((l.length : Int) == 0) (some (.normal, st8 s N x 330 0 0 l (HA p 0 0 em) [6])) (nIte (decide (8192 < (l.length : Int))) (some (.normal, st8 s N x 330 0 0 l (HA p 0 0 em) [6]))
      (nIte (l.all isU8 && decide (l.length < 4611686018427387904)) (nIte l.isEmpty none (nIte l.isEmpty (some (.normal, st8 s N x 0 (sumI l) l.length l (HA p (sumI l) l.length (m1 (sumI l) l.length [])) [6, 3]))
        (nIte (headOk 1 l) (nIte (decide ((0 + l.length) * 1 ≤ 140737488355328)) (nIte (decide (0 + l.length ≤ 140737488355328)) (nIte (noIdsL 7 l && true && true && true)
          (some (.normal, st8 s N x 0 (sumI l) l.length l (HA p (sumI l) l.length (m1 (sumI l) l.length l)) [6, 3])) none) none) none) none))) none)) := by kernel_rfl
noncomputable def st9 (s : List UInt8) (N x f : Int) (l : List AVal) (H : Heap) (wr : List Nat) : St :=
  { env := [(0, .str s), (1, .int .i64 N), (2, .int .u8 x), (6, .bool false), (7, .ptr (some (5, 0))), (8, .int .i64 0), (9, .vec l (.tip 1)), (10, .ptr (some (6, 0))), (11, .int .i64 f), (12, .ptr (some (7, 0))), (13, .int .i64 330), (66, .tup [.tup [], .tup []]), (67, .ptr (some (5, 0))), (68, .tup []), (69, .agg [.int .u64 0, .int .i64 0]), (70, .int .i64 330)], facts := [], heap := H, wr := wr }
noncomputable def HB (p : List UInt8) (S c : Int) (M : AObj) : Heap := [zb, idB S c, stB p, em, M, dvB, em, em]
theorem stage8 (s : List UInt8) (N x f S c : Int) (l : List AVal) (p : List UInt8) (M : AObj) (wr : List Nat) (m : Nat) : pieceL m 8 (st8 s N x f S c l (HA p S c M) wr) = some (.normal, st9 s N x f l (HB p S c M) (7 :: wr)) := by kernel_rfl
noncomputable def st10N (s : List UInt8) (N x : Int) (l : List AVal) (H : Heap) (wr : List Nat) : St :=
  { env := [(0, .str s), (1, .int .i64 N), (2, .int .u8 x), (6, .bool true), (7, .ptr (some (5, 0))), (8, .int .i64 0), (9, .vec l (.tip 1)), (10, .ptr (some (6, 0))), (11, .int .i64 330), (13, .int .i64 330), (73, .int .i64 330), (74, .bool true), (75, .bool true), (76, .int .i64 330), (77, .bool true), (78, .bool true), (79, .bool true), (80, .ptr (some (5, 0))), (81, .int .i64 0), (82, .bool true), (83, .bool true)], facts := [], heap := H, wr := wr }
noncomputable def st10D (s : List UInt8) (N x : Int) (l : List AVal) (H : Heap) (wr : List Nat) : St :=
  { env := [(0, .str s), (1, .int .i64 N), (2, .int .u8 x), (6, .bool false), (7, .ptr (some (5, 0))), (8, .int .i64 0), (9, .vec l (.tip 1)), (10, .ptr (some (6, 0))), (11, .int .i64 0), (13, .int .i64 330), (73, .int .i64 0), (74, .bool false), (75, .bool false), (76, .tup []), (77, .tup []), (78, .bool false), (79, .bool false), (80, .tup []), (81, .tup []), (82, .tup []), (83, .bool false)], facts := [], heap := H, wr := wr }
noncomputable def st10 (s : List UInt8) (N x f : Int) (l : List AVal) (H : Heap) (wr : List Nat) : St :=
  { env := [(0, .str s), (1, .int .i64 N), (2, .int .u8 x), (6, .bool false), (7, .ptr (some (5, 0))), (8, .int .i64 0), (9, .vec l (.tip 1)), (10, .ptr (some (6, 0))), (11, .int .i64 f), (13, .int .i64 330), (71, .int .i64 N), (72, .bool false)], facts := [], heap := H, wr := wr }
theorem stage9n (s : List UInt8) (N x : Int) (l : List AVal) (p : List UInt8) (wr : List Nat) (m : Nat) : pieceL m 9 (st9 s N x 330 l (HB p 0 0 em) wr) =
    nIte (decide (8192 < N)) (some (.ret, st10N s N x l (HB p 0 0 em) wr)) (some (.normal, st10 s N x 330 l (HB p 0 0 em) wr)) := by kernel_rfl
theorem stage9 (s : List UInt8) (N x S c : Int) (l : List AVal) (p : List UInt8) (wr : List Nat) (m : Nat) : pieceL m 9 (st9 s N x 0 l (HB p S c (m1 S c l)) wr) =
    nIte (decide (8192 < N)) (some (.ret, st10D s N x l (HB p S c (m1 S c l)) wr)) (some (.normal, st10 s N x 0 l (HB p S c (m1 S c l)) wr)) := by kernel_rfl
noncomputable def st11 (s : List UInt8) (N x S c e : Int) (l l2 : List AVal) (H : Heap) (wr : List Nat) : St :=
  { env := [(0, .str s), (1, .int .i64 N), (2, .int .u8 x), (6, .bool false), (7, .ptr (some (5, 0))), (8, .int .i64 0), (9, .vec l (.tip 1)), (10, .ptr (some (6, 0))), (11, .int .i64 0), (13, .int .i64 330), (14, .vec l2 (.tip 1)), (15, .int .i64 e), (84, .tup [.tup [], .tup []]), (85, .ptr (some (5, 0))), (86, .agg [.int .u64 S, .int .i64 c]), (87, .tup []), (88, .vec l2 .ro), (89, .int .i64 e)], facts := [], heap := H, wr := wr }
theorem stage10 (s : List UInt8) (N x S c : Int) (l : List AVal) (p : List UInt8) (wr : List Nat) (m : Nat) : pieceL m 10 (st10 s N x 0 l (HB p S c (m1 S c l)) wr) =
    nIte (S == S && (c == c && true)) (nIte l.isEmpty none (nIte (noIdsL 10 l && true) (nIte (l.all isU8 && decide (l.length < 4611686018427387904)) (nIte (!(sumI l == S && ((l.length : Int) == c && true)))
      (some (.normal, st11 s N x S c 334 l [] (HB p S c (m1 S c l)) wr)) (nIte l.isEmpty none (nIte l.isEmpty (some (.normal, st11 s N x S c 0 l [] (HB p S c (m1 S c l)) wr))
        (nIte (headOk 1 l) (nIte (decide ((0 + l.length) * 1 ≤ 140737488355328)) (nIte (decide (0 + l.length ≤ 140737488355328)) (nIte (noIdsL 8 l && true && true)
          (some (.normal, st11 s N x S c 0 l l (HB p S c (m1 S c l)) wr)) none) none) none) none)))) none) none)) (some (.normal, st11 s N x S c 333 l [] (HB p S c (m1 S c l)) wr)) := by kernel_rfl
noncomputable def st12 (s : List UInt8) (N x S c : Int) (l : List AVal) (b : Bool) (t t' : List UInt8) (H : Heap) (wr : List Nat) : St :=
  { env := [(0, .str s), (1, .int .i64 N), (2, .int .u8 x), (6, .bool b), (7, .ptr (some (5, 0))), (8, .int .i64 0), (9, .vec l (.tip 1)), (10, .ptr (some (6, 0))), (11, .int .i64 0), (13, .int .i64 330), (14, .vec l (.tip 1)), (15, .int .i64 0), (90, .int .i64 0), (91, .bool true), (92, .bool true), (93, .int .i64 330), (94, .bool true), (95, .bool true), (96, .bool true), (97, .int .i64 0), (98, .bool true), (99, .bool true), (100, .bool true), (101, .bor 14), (102, .str t), (103, .bor 9), (104, .str t'), (105, .bool (t == t')), (106, .bool (t == t')), (107, .bool true), (108, .agg [.int .u64 S, .int .i64 c]), (109, .bor 9), (110, .agg [.int .u64 (sumI l), .int .i64 l.length]), (111, .bool b), (112, .bool b)], facts := [], heap := H, wr := wr }
noncomputable def st12D (s : List UInt8) (N x S c : Int) (l : List AVal) (t t' : List UInt8) (H : Heap) (wr : List Nat) : St :=
  { env := [(0, .str s), (1, .int .i64 N), (2, .int .u8 x), (6, .bool false), (7, .ptr (some (5, 0))), (8, .int .i64 0), (9, .vec l (.tip 1)), (10, .ptr (some (6, 0))), (11, .int .i64 0), (13, .int .i64 330), (14, .vec l (.tip 1)), (15, .int .i64 0), (90, .int .i64 0), (91, .bool true), (92, .bool true), (93, .int .i64 330), (94, .bool true), (95, .bool true), (96, .bool true), (97, .int .i64 0), (98, .bool true), (99, .bool true), (100, .bool true), (101, .bor 14), (102, .str t), (103, .bor 9), (104, .str t'), (105, .bool (t == t')), (106, .bool (t == t')), (107, .bool false), (108, .tup []), (109, .tup []), (110, .tup []), (111, .tup []), (112, .bool false)], facts := [], heap := H, wr := wr }
theorem stage11 (s : List UInt8) (N x S c : Int) (l : List AVal) (p : List UInt8) (wr : List Nat) (m : Nat) : pieceL m 11 (st11 s N x S c 0 l l (HB p S c (m1 S c l)) wr) =
    nOpt (mapO byteOf l) fun t => nOpt (mapO byteOf l) fun t' => nIte (t == t') (nIte (l.all isU8 && decide (l.length < 4611686018427387904))
      (some (.normal, st12 s N x S c l (S == sumI l && (c == (l.length : Int) && true)) t t' (HB p S c (m1 S c l)) wr)) none) (some (.normal, st12D s N x S c l t t' (HB p S c (m1 S c l)) wr)) := by kernel_rfl
end
end L33
end

section
/- Law 33, ChunkstoreNames: the law answers true. -/
set_option linter.unusedVariables false
open Go Go.Proofs Go.Abs
namespace L33
section
noncomputable def codeL : Code := .seq (pc 0) (.seq (pc 1) (.seq (pc 2) (.seq (pc 3) (.seq (pc 4) (.seq (pc 5) (.seq (pc 6) (.seq (pc 7) (.seq (pc 8) (.seq (pc 9) (.seq (pc 10) (.seq (pc 11) .ret)))))))))))
theorem body3 : Tryz.f3.body = some codeL := by kernel_rfl
theorem results3 : Tryz.f3.results.toList = [.tmp 6] := by kernel_rfl
theorem nodup3 : nodupN (resSlots Tryz.f3) = true := by kernel_rfl
theorem no3 (args : List AVal) : (if hasN (takes 3) lentN then none else tabO tab3 3 args []) = none := by kernel_rfl
theorem lent3 : hasN (takes 3) lentN = false := by kernel_rfl
theorem law_done {s : List UInt8} {n x : Int} {m : Nat} {st : St} (h : codeE (lawX (m + 200)) codeL (st0 s n x) = some (.ret, st)) (h6 : eget st.env 6 = some (.bool true)) :
    ∃ H' wr, callE Tryz.prog hint takes (tabO tab3) (m + 200 + 1) (.func 3) [.str s, .int .i64 n, .int .u8 x] [] = some (.bool true, H', wr) := by
  have h' : codeE { P := Tryz.prog, nt := Tryz.f3.ntmps, call := callE Tryz.prog hint takes (tabO tab3) (m + 200), n := m + 200, hint := hint 3, takes := takes, resv := resSlots Tryz.f3, fn := 3 } codeL { env := enumFrom' 0 [.str s, .int .i64 n, .int .u8 x], facts := [], heap := [], wr := [] } = some (.ret, st) := h
  have hm : mapO (resE Tryz.prog st) [.tmp 6] = some [.bool true] := by simp [mapO, resE, h6]
  have he : (endE 0 (.bool true) st).1 = .bool true := by unfold endE; dsimp only; split <;> rfl
  refine ⟨(endE 0 (.bool true) st).2.1, (endE 0 (.bool true) st).2.2, ?_⟩
  rw [callE]
  rw [no3]
  simp only [Tryz.func3, body3, lent3, Bool.false_and, Bool.false_eq_true, if_false, h', results3, nodup3, if_true, hm]
  exact congrArg some (show endE 0 (.bool true) st = (.bool true, (endE 0 (.bool true) st).2.1, (endE 0 (.bool true) st).2.2) from Prod.ext he rfl)
theorem nIte_t {R : Type} (y n : Option R) : nIte true y n = y := rfl
theorem nIte_f {R : Type} (y n : Option R) : nIte false y n = n := rfl
theorem u8_ids {l : List AVal} (h : l.all isU8 = true) (k : Nat) : noIdsL k l = true := by
  induction l with
  | nil => rfl
  | cons v r ih =>
    rw [List.all_cons, Bool.and_eq_true] at h
    have h1 := h.1
    unfold isU8 at h1
    split at h1
    · show (noIds k _ && noIdsL k r) = true
      rw [ih h.2]; rfl
    · cases h1
theorem bytes_all {l : List AVal} (h : ∀ v ∈ l, ∃ b, byteOf v = some b) : ∃ t, mapO byteOf l = some t := by
  induction l with
  | nil => exact ⟨[], rfl⟩
  | cons v r ih =>
    obtain ⟨b, hb⟩ := h v (by simp)
    obtain ⟨t, ht⟩ := ih fun u hu => h u (by simp [hu])
    exact ⟨b :: t, by simp [mapO, hb, ht]⟩
/-- the chunk -/
def chunkL (N : Int) (x : Int) : List AVal := (List.replicate N.toNat (AVal.int .u8 0)).set (N - 1).toNat (.int .u8 x)
theorem chunk_mem {N x : Int} {v : AVal} (h : v ∈ chunkL N x) : v = .int .u8 0 ∨ v = .int .u8 x := by
  unfold chunkL at h
  rcases List.mem_or_eq_of_mem_set h with h | h
  · exact .inl (List.eq_of_mem_replicate h)
  · exact .inr h
theorem chunk_u8 (N x : Int) : (chunkL N x).all isU8 = true := by
  rw [List.all_eq_true]
  intro v hv
  rcases chunk_mem hv with rfl | rfl <;> rfl
theorem chunk_len {N x : Int} : (chunkL N x).length = N.toNat := by unfold chunkL; simp
theorem chunk_bytes {N x : Int} (hx : 0 ≤ x ∧ x < 256) : ∃ t, mapO byteOf (chunkL N x) = some t := bytes_all fun v hv => by
  rcases chunk_mem hv with rfl | rfl
  · exact ⟨_, rfl⟩
  · exact ⟨UInt8.ofNat x.toNat, by simp [Abs.byteOf, hx]⟩
theorem law_run (s : List UInt8) (n x : Int) (hx : 0 ≤ x ∧ x < 256) : ∃ H' wr, callE Tryz.prog hint takes (tabO tab3) (0 + 200 + 1) (.func 3) [.str s, .int .i64 n, .int .u8 x] [] = some (.bool true, H', wr) := by
  have c0 := pieceL_run (stage0 s n x 0)
  cases hb : nameB s with
  | false =>
    have c1 := pieceL_run ((stage1 s n x 0).trans (by rw [hb]; rfl : _ = some (Ex.normal, st2 s n x none 336 [dvB, em, em])))
    have c2 := pieceL_run ((stage2n s n x 0).trans (by rw [hb]; rfl : _ = some (Ex.ret, st3N s n x)))
    exact law_done (st := st3N s n x) (seq_run c0 (seq_run c1 (seq_exit c2))) rfl
  | true =>
    have hs : s.length ≤ 40 := by
      unfold nameB at hb
      simp only [Bool.and_eq_true, Bool.not_eq_true', decide_eq_false_iff_not] at hb
      omega
    have c1 := pieceL_run ((stage1 s n x 0).trans (by rw [hb, decide_eq_true (show s.length + 7 < 4611686018427387904 by omega)]; rfl : _ = some (Ex.normal, st2 s n x (some (5, 0)) 0 (H0 (s ++ chunks)))))
    have c2 := pieceL_run ((stage2 s n x (s ++ chunks) 0).trans (by rw [hb]; rfl : _ = some (Ex.normal, st3 s n x (some (5, 0)) 0 (H0 (s ++ chunks)))))
    have c3 := pieceL_run (stage3 s n x (s ++ chunks) 0)
    have c4 := pieceL_run (stage4 s n x (s ++ chunks) 0)
    have hf := fold4_cases n
    have hN : IntKind.i64.wrap (8191 + fold4 n) = 8191 + fold4 n := wrap64 (by omega)
    rw [hN] at c4
    generalize hNN : 8191 + fold4 n = N at c4
    have hN1 : 8191 ≤ N ∧ N ≤ 8194 := by omega
    have c5 := pieceL_run ((stage5 s n x N (fold4 n) (s ++ chunks) 0).trans (by
      rw [decide_eq_true (show 0 ≤ N by omega), decide_eq_true (show N ≤ N by omega), decide_eq_true (show ((1 : Nat) : Int) * N ≤ 140737488355328 by omega), decide_eq_true (show N ≤ 140737488355328 by omega)]
      rfl : _ = some (Ex.normal, st6 s N x (List.replicate N.toNat (.int .u8 0)) (s ++ chunks))))
    have hk : IntKind.i64.wrap (N - 1) = N - 1 := wrap64 (by omega)
    have hget : (List.replicate N.toNat (AVal.int .u8 0))[(N - 1).toNat]? = some (.int .u8 0) := by
      rw [List.getElem?_replicate, if_pos (by omega)]
    have hhead : headOk 1 (List.replicate N.toNat (AVal.int .u8 0)) = true := u8_head (by rw [List.all_eq_true]; intro v hv; rw [List.eq_of_mem_replicate hv]; rfl)
    have c6 := pieceL_run ((stage6 s N x (List.replicate N.toNat (.int .u8 0)) (s ++ chunks) 0).trans (by
      rw [hk, decide_eq_true (show 0 ≤ N - 1 by omega), hhead, hget]
      rfl : _ = some (Ex.normal, st7 s N x (N - 1) (chunkL N x) (s ++ chunks))))
    have hl := @chunk_len N x
    have hu := chunk_u8 N x
    obtain ⟨t, ht⟩ := @chunk_bytes N x hx
    generalize hL : chunkL N x = l at c6 hl hu ht
    have hli : (l.length : Int) = N := by omega
    have hz : ((l.length : Int) == 0) = false := by simp only [beq_eq_false_iff_ne]; omega
    have he : l.isEmpty = false := by cases l with
      | nil => simp at hl; omega
      | cons v r => rfl
    by_cases hbig : 8192 < N
    · have c7 := pieceL_run ((stage7 s N x (N - 1) l (s ++ chunks) 0).trans (by
        rw [hz, decide_eq_true (show 8192 < (l.length : Int) by omega)]
        rfl : _ = some (Ex.normal, st8 s N x 330 0 0 l (HA (s ++ chunks) 0 0 em) [6])))
      have c8 := pieceL_run (stage8 s N x 330 0 0 l (s ++ chunks) em [6] 0)
      have c9 := pieceL_run ((stage9n s N x l (s ++ chunks) [7, 6] 0).trans (by
        rw [decide_eq_true hbig]
        rfl : _ = some (Ex.ret, st10N s N x l (HB (s ++ chunks) 0 0 em) [7, 6])))
      exact law_done (st := st10N s N x l (HB (s ++ chunks) 0 0 em) [7, 6]) (seq_run c0 (seq_run c1 (seq_run c2 (seq_run c3 (seq_run c4 (seq_run c5 (seq_run c6 (seq_run c7 (seq_run c8 (seq_exit c9)))))))))) rfl
    · have hguard : (l.all isU8 && decide (l.length < 4611686018427387904)) = true := by rw [hu, decide_eq_true (show l.length < 4611686018427387904 by omega)]; rfl
      have hd1 : decide ((0 + l.length) * 1 ≤ 140737488355328) = true := decide_eq_true (by omega)
      have hd2 : decide (0 + l.length ≤ 140737488355328) = true := decide_eq_true (by omega)
      have c7 := pieceL_run ((stage7 s N x (N - 1) l (s ++ chunks) 0).trans (by
        rw [hz, decide_eq_false (show ¬ 8192 < (l.length : Int) by omega), hguard, he, u8_head hu, hd1, hd2, u8_ids hu]
        rfl : _ = some (Ex.normal, st8 s N x 0 (sumI l) l.length l (HA (s ++ chunks) (sumI l) l.length (m1 (sumI l) l.length l)) [6, 3])))
      have c8 := pieceL_run (stage8 s N x 0 (sumI l) l.length l (s ++ chunks) (m1 (sumI l) l.length l) [6, 3] 0)
      have c9 := pieceL_run ((stage9 s N x (sumI l) l.length l (s ++ chunks) [7, 6, 3] 0).trans (by
        rw [decide_eq_false hbig]
        rfl : _ = some (Ex.normal, st10 s N x 0 l (HB (s ++ chunks) (sumI l) l.length (m1 (sumI l) l.length l)) [7, 6, 3])))
      have e1 : (sumI l == sumI l && ((l.length : Int) == (l.length : Int) && true)) = true := by simp
      have c10 := pieceL_run ((stage10 s N x (sumI l) l.length l (s ++ chunks) [7, 6, 3] 0).trans (by
        rw [e1, he, hguard, u8_head hu, hd1, hd2, u8_ids hu, u8_ids hu]
        rfl : _ = some (Ex.normal, st11 s N x (sumI l) l.length 0 l l (HB (s ++ chunks) (sumI l) l.length (m1 (sumI l) l.length l)) [7, 6, 3])))
      have c11 := pieceL_run ((stage11 s N x (sumI l) l.length l (s ++ chunks) [7, 6, 3] 0).trans (by
        rw [ht, e1, hguard]
        show nIte (t == t) _ _ = _
        rw [show (t == t) = true by simp]
        rfl : _ = some (Ex.normal, st12 s N x (sumI l) l.length l true t t (HB (s ++ chunks) (sumI l) l.length (m1 (sumI l) l.length l)) [7, 6, 3])))
      exact law_done (st := st12 s N x (sumI l) l.length l true t t (HB (s ++ chunks) (sumI l) l.length (m1 (sumI l) l.length l)) [7, 6, 3])
        (seq_run c0 (seq_run c1 (seq_run c2 (seq_run c3 (seq_run c4 (seq_run c5 (seq_run c6 (seq_run c7 (seq_run c8 (seq_run c9 (seq_run c10 (seq_run c11 (by rw [codeE]))))))))))))) rfl
end
end L33
end

section
/- Law 33, ChunkstoreNames: the row and the card. -/
namespace Go.Proofs.YtdbbepdmggjbkaaGreatDoor.aNames
open Go.ChangeShapes Go.WideShapes Go.ChangeAt Go.RowKit Go.Abs
theorem own : ownKnob Tryz.prog.godebug = none := by kernel_rfl
theorem laidOut : laidOutB Tryz.prog = true := by kernel_rfl
def lay1 (k : IntKind) (cs : List Nat) : Obj → Obj
  | .cells _ t frozen => .cells (cs.map fun (z : Nat) => Value.int k z).toArray t frozen
  | o => o
def lay2 (v : Value) : Obj → Obj
  | .cells _ t frozen => .cells #[v] t frozen
  | o => o
def tens : List Nat := [1, 10, 100, 1000, 10000, 100000, 1000000, 10000000, 100000000, 1000000000, 10000000000, 100000000000, 1000000000000, 10000000000000, 100000000000000, 1000000000000000, 10000000000000000, 100000000000000000, 1000000000000000000, 10000000000000000000]
def bruijn32 : List Nat := [0, 1, 28, 2, 29, 14, 24, 3, 30, 22, 20, 15, 25, 17, 4, 8, 31, 27, 13, 23, 21, 19, 16, 7, 26, 12, 18, 6, 11, 5, 10, 9]
def bruijn64 : List Nat := [0, 1, 56, 2, 57, 49, 28, 3, 61, 58, 42, 50, 38, 29, 17, 4, 62, 47, 59, 36, 45, 43, 51, 22, 53, 39, 33, 30, 24, 18, 12, 5, 63, 55, 48, 27, 60, 41, 37, 16, 46, 35, 44, 21, 52, 32, 23, 11, 54, 26, 40, 15, 34, 20, 31, 10, 25, 14, 19, 9, 13, 8, 7, 6]
def syntaxS : ByteArray := ⟨#[105, 110, 118, 97, 108, 105, 100, 32, 115, 121, 110, 116, 97, 120]⟩
def rangeS : ByteArray := ⟨#[118, 97, 108, 117, 101, 32, 111, 117, 116, 32, 111, 102, 32, 114, 97, 110, 103, 101]⟩
noncomputable def bareHeap (os : Os) : Array Obj := (World.holding Tryz.prog os ⟨#[], #[], []⟩).heap
theorem bareSize (os : Os) : (bareHeap os).size = 10 := by kernel_rfl
noncomputable def laidWorld (os : Os) : World :=
  { World.holding Tryz.prog os ⟨#[], #[], []⟩ with heap :=
    ((((((bareHeap os).modify 0 (lay2 (.iface 168 (.pointer (some ⟨10, 0, none⟩))))).modify 1 (lay2 (.iface 168 (.pointer (some ⟨11, 0, none⟩))))).modify 2 (lay1 .u64 tens)).modify 3 (lay1 .u8 bruijn32)).modify 4 (lay1 .u8 bruijn64)
      |>.push (.cells #[.string syntaxS] 170 (0, 0))).push (.cells #[.string rangeS] 170 (0, 0)) }
def wargs : Array Value := #[.string ⟨#[]⟩, .int .i64 0, .int .u8 0]
theorem laid_met (os : Os) : laidMet Tryz.prog Rows.chunkstoreNamesRow.laid ((laidWorld os).forCall (fun _ _ => 0) ⟨#[], wargs, []⟩).memory :=
  laidMet_of_run' 8 (by kernel_rfl) (by kernel_rfl)
theorem reads (os : Os) {H : Type} (enc : TypeId × Value → H) : ∃ places, DataW.whole enc Tryz.prog ((laidWorld os).forCall (fun _ _ => 0) ⟨#[], wargs, []⟩).memory Tryz.f3.params.toList Rows.chunkstoreNamesSpec.vars false wargs.toList 8 = some ([.lit (.string []), .lit (.int .i64 0), .lit (.int .u8 0)], [], places) :=
  ⟨[], by kernel_rfl⟩
theorem plain (f : FuncId) (fn : Func) (hf : Tryz.pinned.checked.prog.funcNamed "stockyard/stockyardlaw33.ChunkstoreNames" = some f) (hfn : Tryz.pinned.checked.prog.funcs[f]? = some fn) :
    true = Tryz.pinned.checked.prog.looks [] ∧ ∀ (j : Nat) t, fn.params[j]? = some t → Tryz.pinned.checked.prog.wantsStandIn t = false := by
  obtain rfl : f = 3 := Option.some.inj ((show Tryz.prog.funcNamed "stockyard/stockyardlaw33.ChunkstoreNames" = some 3 by kernel_rfl).symm.trans hf) |>.symm
  obtain rfl : fn = Tryz.f3 := (Option.some.inj (Tryz.func3.symm.trans hfn)).symm
  refine ⟨by kernel_rfl, fun j t ht => ?_⟩
  rw [Tryz.params3] at ht
  have hm := Array.mem_of_getElem? ht
  simp only [List.mem_toArray, List.mem_cons, List.mem_nil_iff, or_false] at hm
  rcases hm with rfl | rfl | rfl
  · exact (show Tryz.prog.wantsStandIn 9 = false by kernel_rfl)
  · exact (show Tryz.prog.wantsStandIn 3 = false by kernel_rfl)
  · exact (show Tryz.prog.wantsStandIn 5 = false by kernel_rfl)
theorem hlaw (avs : List AVal) (h : TyArgs Tryz.prog Tryz.f3.params.toList avs) : ∃ n H' wr, callE Tryz.prog L33.hint L33.takes (tabO L33.tab3) n (.func 3) avs [] = some (.bool true, H', wr) := by
  rw [Tryz.params3] at h
  obtain ⟨hlen, hty⟩ := h
  match avs, hlen with
  | [a, b, c], _ =>
    have ha := hty 0 9 a rfl rfl
    have hb := hty 1 3 b rfl rfl
    have hc := hty 2 5 c rfl rfl
    have ua : Tryz.prog.underlying 9 = some .string := by kernel_rfl
    have ub : Tryz.prog.underlying 3 = some (.int .i64) := by kernel_rfl
    have uc : Tryz.prog.underlying 5 = some (.int .u8) := by kernel_rfl
    cases ha with
    | str _ s hs =>
      cases hb with
      | int htb n hn =>
        rw [ub] at htb
        cases htb
        cases hc with
        | int htc x hx =>
          rw [uc] at htc
          cases htc
          have hx2 : 0 ≤ x ∧ x < 256 := by
            simp [Lit.wf, IntKind.min, IntKind.max, IntKind.signed, IntKind.bits] at hx
            omega
          obtain ⟨H', wr, h⟩ := L33.law_run s n x hx2
          exact ⟨_, H', wr, h⟩
        | bool ht => rw [uc] at ht; cases ht
        | str ht => rw [uc] at ht; cases ht
        | vec ht => rw [uc] at ht; cases ht
        | agg ht => rw [uc] at ht; cases ht
      | bool ht => rw [ub] at ht; cases ht
      | str ht => rw [ub] at ht; cases ht
      | vec ht => rw [ub] at ht; cases ht
      | agg ht => rw [ub] at ht; cases ht
    | bool ht => rw [ua] at ht; cases ht
    | int ht => rw [ua] at ht; cases ht
    | vec ht => rw [ua] at ht; cases ht
    | agg ht => rw [ua] at ht; cases ht
set_option maxRecDepth 100000 in
theorem contract (H : Type) (enc : TypeId × Value → H) (W : World) (args : Array Value) (ds gs : List (DataW H)) (before : List MemPlace)
    (hval : ∀ (j : Nat) t v, Tryz.f3.params[j]? = some t → args[j]? = some v → Value.okWide Tryz.prog W .any 0 t v)
    (hW : DataW.Whole enc Tryz.prog Tryz.f3.params.toList Rows.chunkstoreNamesSpec.vars false W args.toList ds gs before) :
    Calls Tryz.prog 3 args W fun e W' => ∃ v, e = .returned v ∧ Rows.chunkstoreNamesSpec.post enc Tryz.prog Tryz.f3 false true false false W args v W' := by
  refine row_contract (P := Tryz.prog) (f := 3) (fn := Tryz.f3) (s := Rows.chunkstoreNamesSpec) (m := 8) (tb := 4) (hint := L33.hint) (takes := L33.takes) (ora := tabO L33.tab3) L33.good L33.tab3_ok laidOut L33.lent3 ?_ ?_ (by kernel_rfl) (by kernel_rfl) (by kernel_rfl) ?_ hlaw hval hW
  · intro t ht
    rw [Tryz.params3] at ht
    simp only [List.mem_cons, List.mem_nil_iff, or_false] at ht
    rcases ht with rfl | rfl | rfl <;> exact ⟨by kernel_rfl, of_decide_eq_true (by kernel_rfl)⟩
  · intro t ht
    rw [Tryz.params3] at ht
    simp only [List.mem_cons, List.mem_nil_iff, or_false] at ht
    rcases ht with rfl | rfl | rfl <;> kernel_rfl
  · intro ds hds
    rw [show Tryz.f3.params.size = 3 by kernel_rfl] at hds
    match ds, hds with
    | [d1, d2, d3], _ => rfl
set_option maxRecDepth 100000 in
theorem lifted (os : Os) (started : os.Started) (H : Type) (enc : TypeId × Value → H) (F : Stop.Interp) :
    ReturnsInHanded {} Tryz.checked os 3 .any ((OpenSpec.ofChange Rows.chunkstoreNamesSpec).preRow enc Tryz.prog Tryz.f3 Rows.chunkstoreNamesRow.domain false Rows.chunkstoreNamesRow.laid) (((OpenSpec.ofChange Rows.chunkstoreNamesSpec).at F).post enc Tryz.prog Tryz.f3 false true false false) := by
  obtain ⟨places, hx⟩ := reads os enc
  refine returnsInHanded_of_row (C := Tryz.checked) (s := OpenSpec.ofChange Rows.chunkstoreNamesSpec) own started (by kernel_rfl) Tryz.func3
    (witness_row_at (enc := enc) (C := Tryz.checked) false (laidWorld os) wargs rfl (by kernel_rfl) (by kernel_rfl) (by kernel_rfl)
      (OpenSpec.preRow_of_cond 8 hx (by kernel_rfl) (fun k hk => by cases hk) (by kernel_rfl) (laid_met os))) ?_
  intro W base args ds gs before hval hW _ _ _ hL _ _
  exact contract H enc W args ds gs before hval hW
theorem said : Rows.ChunkstoreNamesSaid :=
  OpenClaim.holds_of_cond 3 Tryz.f3 rfl rfl rfl rfl rfl rfl rfl ⟨rfl, rfl, rfl, rfl, rfl⟩ rfl rfl rfl rfl rfl (by kernel_rfl) Tryz.func3 (by kernel_rfl)
    (of_decide_eq_true (by kernel_rfl)) (by unfold Func.isWrapper; first | (rw [if_pos (by decide +kernel)]; kernel_rfl) | (rw [if_neg (by decide +kernel)]; exact ⟨rfl, rfl⟩))
    (fun os started H enc _ F => by rw [OpenClaim.pre_eq_preRow]; exact lifted os started H enc F)
end Go.Proofs.YtdbbepdmggjbkaaGreatDoor.aNames
namespace Go.Proofs.YtdbbepdmggjbkaaGreatDoor
theorem chunkstoreNames_card : Rows.ChunkstoreNamesCardSaid :=
  Claim7.holds_tied_plain_at .later [] _ _ _ _ aNames.said (fun _ h => by cases h) (by kernel_rfl) (fun _ h => by cases h) chunkstoreNames_row_tie rfl ⟨rfl, rfl⟩ (by kernel_rfl) rfl aNames.plain (by kernel_rfl)
end Go.Proofs.YtdbbepdmggjbkaaGreatDoor
end

