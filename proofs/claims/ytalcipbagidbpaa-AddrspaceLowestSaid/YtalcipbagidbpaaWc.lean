/- DERIVED. A part of the proof of a statement of this seat (Val, Fa, Fb, Fc, Fd, Fe, Ff, Fg, Fh, Fi, Fj, Fk, Fl, Fm). No statement of its own; no conditions. -/
import Derived.IntWalk
import Derived.KernelRfl
import Derived.Test.YtalcipbagidbpaaWb
set_option linter.unusedVariables false
set_option linter.unusedSimpArgs false
set_option linter.unusedSectionVars false
set_option linter.unnecessarySimpa false
section
set_option linter.unusedVariables false
namespace Go.Proofs.Ytalcipbagidbpaa
open Go.Proofs
/-- The laws of Bools that the walks simplify with. -/
theorem bsm : (∀ b, (b || true) = true) ∧ (∀ b, (true || b) = true) ∧ (∀ b, (b || false) = b) ∧ (∀ b, (false || b) = b) ∧ (∀ b, (b && true) = b) ∧ (∀ b, (true && b) = b) ∧ (∀ b, (b && false) = false) ∧ (∀ b, (false && b) = false) ∧
    (∀ {α : Type} (a b : α), (bif true then a else b) = a) ∧ (∀ {α : Type} (a b : α), (bif false then a else b) = b) ∧ (!true) = false ∧ (!false) = true ∧ (∀ {α : Type} (a b : α), (if True then a else b) = a) ∧ (∀ {α : Type} (a b : α), (if False then a else b) = b) ∧
    (false = true) = False ∧ (true = false) = False ∧ (∀ h, @decide True h = true) ∧ (∀ h, @decide False h = false) ∧ (∀ n : Int, (n != n) = false) ∧ (∀ n : Int, (n == n) = true) := by
  refine ⟨Bool.or_true, Bool.true_or, Bool.or_false, Bool.false_or, Bool.and_true, Bool.true_and, Bool.and_false, Bool.false_and, fun a b => rfl, fun a b => rfl, rfl, rfl, fun a b => rfl, fun a b => rfl, by simp, by simp, fun h => by simp, fun h => by simp, fun n => by simp, fun n => by simp⟩
def plainN : Nat → GV → Bool
  | _, .int _ _ => true
  | _, .bool _ => true
  | _, .lit _ => true
  | _, .str _ => true
  | _, .nils => true
  | _, .any => true
  | n + 1, .fn _ cs => cs.all (plainN n)
  | n + 1, .eptr cs => cs.all (plainN n)
  | n + 1, .im _ cs => cs.all (plainN n)
  | n + 1, .agg cs => cs.all (plainN n)
  | _, _ => false
theorem plainN_pur : ∀ (n : Nat) {g : GV}, plainN n g = true → Pur g := by
  intro n
  induction n with
  | zero => intro g h; cases g <;> simp only [plainN, Bool.false_eq_true] at h <;> first | exact .int | exact .bool | exact .lit | exact .str | exact .nils | exact .any
  | succ n ih =>
    intro g h
    have hl : ∀ {cs : List GV}, cs.all (plainN n) = true → PurL cs := fun h c hc => ih (List.all_eq_true.1 h c hc)
    cases g <;> simp only [plainN, Bool.false_eq_true] at h <;> first | exact .int | exact .bool | exact .lit | exact .str | exact .nils | exact .any | exact .fn (hl h) | exact (hl h).eptr | exact .im (hl h) | exact .agg (hl h)
theorem purS {cs : List GV} (h : cs.all (plainN 5) = true) : PurL cs := fun c hc => plainN_pur 5 (List.all_eq_true.1 h c hc)
/-- The temporaries of a state of which little is known. -/
def tmL (n : Nat) (l : List (Nat × GV)) : List GV := tmL.go n 0 l
where go : Nat → Nat → List (Nat × GV) → List GV
  | 0, _, _ => []
  | n + 1, i, l => (match look i l with | some g => g | none => .any) :: go n (i + 1) l
structure Rg where
  start : Int
  pages : Int
  prot : Int
  flags : Int
  file : Int
  index : Int
  deriving DecidableEq
inductive Tr where
  | mk (h f l g : Int) (r : Rg) (kids : List Tr)
namespace Tr
def h : Tr → Int | mk h _ _ _ _ _ => h
def f : Tr → Int | mk _ f _ _ _ _ => f
def l : Tr → Int | mk _ _ l _ _ _ => l
def g : Tr → Int | mk _ _ _ g _ _ => g
def r : Tr → Rg | mk _ _ _ _ r _ => r
def kids : Tr → List Tr | mk _ _ _ _ _ k => k
end Tr
def Rg.cells (r : Rg) : List GV := [.int .i64 r.start, .int .i64 r.pages, .int .i64 r.prot, .int .i64 r.flags, .int .i64 r.file, .int .i64 r.index]
def Rg.v (r : Rg) : GV := .agg r.cells
mutual
/-- The cells of the kids of a tree. -/
def Tr.K : Tr → List GV
  | .mk _ _ _ _ _ k => KL k
def KL : List Tr → List GV
  | [] => []
  | t :: ts => .int .i64 t.h :: .int .i64 t.f :: .int .i64 t.l :: .int .i64 t.g :: .int .i64 t.r.start :: .int .i64 t.r.pages :: .int .i64 t.r.prot :: .int .i64 t.r.flags :: .int .i64 t.r.file :: .int .i64 t.r.index :: .im t.kids.length t.K :: KL ts
end
def Tr.cells (t : Tr) : List GV := [.int .i64 t.h, .int .i64 t.f, .int .i64 t.l, .int .i64 t.g, .int .i64 t.r.start, .int .i64 t.r.pages, .int .i64 t.r.prot, .int .i64 t.r.flags, .int .i64 t.r.file, .int .i64 t.r.index, .im t.kids.length t.K]
def Tr.v (t : Tr) : GV := .agg t.cells
theorem KL_cons (t : Tr) (ts : List Tr) : KL (t :: ts) = t.cells ++ KL ts := by rw [KL]; rfl
theorem K_eq (t : Tr) : t.K = KL t.kids := by cases t; rw [Tr.K]; rfl
theorem Rg.pur (r : Rg) : Pur r.v := .agg fun c hc => by
  simp only [Rg.cells, List.mem_cons, List.not_mem_nil, or_false] at hc
  rcases hc with rfl | rfl | rfl | rfl | rfl | rfl <;> exact .int
theorem cells_pur (t : Tr) (hK : PurL t.K) : PurL t.cells := by
  intro c hc
  rw [Tr.cells] at hc
  simp only [List.mem_cons, List.not_mem_nil, or_false] at hc
  rcases hc with rfl | rfl | rfl | rfl | rfl | rfl | rfl | rfl | rfl | rfl | rfl
  all_goals first | exact .int | exact .im hK
mutual
theorem Tr.purK : ∀ (t : Tr), PurL t.K
  | .mk h f l g r k => by rw [Tr.K]; exact KL_pur k
theorem KL_pur : ∀ (k : List Tr), PurL (KL k)
  | [], c, hc => by simp [KL] at hc
  | t :: ts, c, hc => by
    rw [KL_cons] at hc
    rcases List.mem_append.1 hc with h | h
    · exact cells_pur t (Tr.purK t) c h
    · exact KL_pur ts c h
end
theorem Tr.purc (t : Tr) : PurL t.cells := cells_pur t t.purK
theorem Tr.pur (t : Tr) : Pur t.v := .agg t.purc
/-- The cells of a list of regions. -/
def RL : List Rg → List GV
  | [] => []
  | r :: rs => .int .i64 r.start :: .int .i64 r.pages :: .int .i64 r.prot :: .int .i64 r.flags :: .int .i64 r.file :: .int .i64 r.index :: RL rs
theorem RL_cons (r : Rg) (rs : List Rg) : RL (r :: rs) = r.cells ++ RL rs := rfl
theorem RL_append : ∀ (a b : List Rg), RL (a ++ b) = RL a ++ RL b
  | [], b => rfl
  | r :: a, b => by rw [List.cons_append, RL_cons, RL_cons, RL_append a b, List.append_assoc]
theorem RL_length : ∀ (a : List Rg), (RL a).length = a.length * 6
  | [] => rfl
  | r :: a => by rw [RL_cons, List.length_append, RL_length a]; simp [Rg.cells]; omega
theorem RL_pur (rs : List Rg) : PurL (RL rs) := by
  induction rs with
  | nil => intro c hc; simp [RL] at hc
  | cons r rs ih =>
    intro c hc
    rw [RL_cons] at hc
    rcases List.mem_append.1 hc with h | h
    · simp only [Rg.cells, List.mem_cons, List.not_mem_nil, or_false] at h
      rcases h with rfl | rfl | rfl | rfl | rfl | rfl <;> exact .int
    · exact ih c h
theorem RL_scalar (rs : List Rg) : (RL rs).all GV.scalar = true := by
  induction rs with
  | nil => rfl
  | cons r rs ih => simp [RL, GV.scalar, ih]
theorem RL_nil {rs : List Rg} : RL rs = [] ↔ rs = [] := by cases rs <;> simp [RL]
theorem RL_drop : ∀ (rs : List Rg) (i : Nat), (RL rs).drop (i * 6) = RL (rs.drop i)
  | rs, 0 => by simp
  | [], i + 1 => by simp [RL]
  | r :: rs, i + 1 => by rw [RL_cons, Nat.succ_mul, Nat.add_comm, ← List.drop_drop, List.drop_left' (by rfl), RL_drop rs i]; rfl
theorem RL_take : ∀ (rs : List Rg) (i : Nat), (RL rs).take (i * 6) = RL (rs.take i)
  | rs, 0 => by simp [RL]
  | [], i + 1 => by simp [RL]
  | r :: rs, i + 1 => by
    have : (i + 1) * 6 = r.cells.length + i * 6 := by simp [Rg.cells]; omega
    rw [RL_cons, this, List.take_length_add_append, RL_take rs i]; rfl
theorem RL_takeL (rs : List Rg) : (RL rs).take (rs.length * 6) = RL rs := by rw [← RL_length]; exact List.take_length
theorem RL_set (rs : List Rg) (i : Nat) (m : Rg) (h : i < rs.length) : splice (RL rs) (i * 6) m.cells = RL (rs.set i m) := by
  have e : i * 6 + m.cells.length = (i + 1) * 6 := by show i * 6 + 6 = _; omega
  rw [splice, e, RL_take, RL_drop, List.set_eq_take_append_cons_drop, if_pos h, RL_append, RL_cons]
theorem KL_length : ∀ (a : List Tr), (KL a).length = a.length * 11
  | [] => by simp [KL]
  | r :: a => by rw [KL_cons, List.length_append, KL_length a]; simp [Tr.cells]; omega
theorem KL_drop : ∀ (rs : List Tr) (i : Nat), (KL rs).drop (i * 11) = KL (rs.drop i)
  | rs, 0 => by simp
  | [], i + 1 => by simp [KL]
  | r :: rs, i + 1 => by rw [KL_cons, Nat.succ_mul, Nat.add_comm, ← List.drop_drop, List.drop_left' (by rfl), KL_drop rs i]; rfl
/-! ### Lists, element by element -/
def atR (l : List Rg) (i : Nat) : Rg := l.getD i ⟨0, 0, 0, 0, 0, 0⟩
def atT (l : List Tr) (i : Nat) : Tr := l.getD i (.mk 0 0 0 0 ⟨0, 0, 0, 0, 0, 0⟩ [])
theorem drop_atR {l : List Rg} {i : Nat} (h : i < l.length) : l.drop i = atR l i :: l.drop (i + 1) := by
  rw [List.drop_eq_getElem_cons h, atR, List.getD_eq_getElem?_getD, List.getElem?_eq_getElem h]; rfl
theorem drop_atT {l : List Tr} {i : Nat} (h : i < l.length) : l.drop i = atT l i :: l.drop (i + 1) := by
  rw [List.drop_eq_getElem_cons h, atT, List.getD_eq_getElem?_getD, List.getElem?_eq_getElem h]; rfl
theorem RL_at {l : List Rg} {i : Nat} (h : i < l.length) : ((RL l).drop (i * 6)).take 6 = (atR l i).cells := by
  rw [RL_drop, drop_atR h, RL_cons]; rfl
theorem KL_at {l : List Tr} {i : Nat} (h : i < l.length) : ((KL l).drop (i * 11)).take 11 = (atT l i).cells := by
  rw [KL_drop, drop_atT h, KL_cons]; rfl
theorem wrap_id {n : Int} (h1 : -9223372036854775808 ≤ n) (h2 : n < 9223372036854775808) : IntKind.i64.wrap n = n := Go.IntWalk.i64_in n ⟨h1, by omega⟩
theorem ltD {i n : Nat} (h : decide ((i : Int) < (n : Int)) = true) : i < n := by have := of_decide_eq_true h; omega
theorem wrap_succ {i : Nat} (h : i < 4294967296) : IntKind.i64.wrap ((i : Int) + 1) = ((i + 1 : Nat) : Int) := by
  rw [wrap_id (by omega) (by omega)]; omega
/-- A call of the address spaces. -/
structure Opr where
  kind : Int
  r : Rg
  page : Int
  count : Int
  n : Int
  deriving DecidableEq
def Opr.cells (o : Opr) : List GV := [.int .i64 o.kind, .int .i64 o.r.start, .int .i64 o.r.pages, .int .i64 o.r.prot, .int .i64 o.r.flags, .int .i64 o.r.file, .int .i64 o.r.index, .int .i64 o.page, .int .i64 o.count, .int .i64 o.n]
def Opr.v (o : Opr) : GV := .agg o.cells
def OL : List Opr → List GV
  | [] => []
  | o :: os => o.cells ++ OL os
theorem OL_cons (o : Opr) (os : List Opr) : OL (o :: os) = o.cells ++ OL os := rfl
theorem OL_pur (os : List Opr) : PurL (OL os) := by
  induction os with
  | nil => intro c hc; simp [OL] at hc
  | cons o os ih =>
    intro c hc
    rw [OL_cons] at hc
    rcases List.mem_append.1 hc with h | h
    · simp only [Opr.cells, List.mem_cons, List.not_mem_nil, or_false] at h
      rcases h with rfl | rfl | rfl | rfl | rfl | rfl | rfl | rfl | rfl | rfl <;> exact .int
    · exact ih c h
theorem Opr.pur (o : Opr) : Pur o.v := .agg fun c hc => OL_pur [o] c (by rw [OL_cons]; simp [OL, hc])
theorem Tr.ind {p : Tr → Prop} (h : ∀ t : Tr, (∀ k ∈ t.kids, p k) → p t) (t : Tr) : p t :=
  Tr.rec (motive_1 := p) (motive_2 := fun l => ∀ k ∈ l, p k) (fun a b c d r ks ih => h _ (by simpa [Tr.kids] using ih)) (fun _ h => by simp at h) (fun t ts h1 h2 k hk => by
    rcases List.mem_cons.1 hk with rfl | hk
    · exact h1
    · exact h2 k hk) t
end Go.Proofs.Ytalcipbagidbpaa
end

section
set_option linter.unusedVariables false
namespace Go.Proofs.Ytalcipbagidbpaa
open Go.Proofs
def tl (g : GV) : Tell := .stp (.tell g)
def Rg.end (x : Rg) : Int := IntKind.i64.wrap (x.start + x.pages)
def imax (a b : Int) : Int := if b > a then b else a
def validF (r : Rg) : Bool := decide (r.start ≥ 0) && (decide (r.pages ≥ 1) && (decide (r.pages ≤ 512) && decide (r.start ≤ IntKind.i64.wrap (512 - r.pages))))
def nodeF (l : Tr) (x : Rg) (r : Tr) : Tr :=
  .mk (IntKind.i64.wrap (1 + imax l.h r.h)) (if l.h > 0 then l.f else x.start) (if r.h > 0 then r.l else x.end)
    (if r.h > 0 then imax (if l.h > 0 then imax (imax l.g r.g) (IntKind.i64.wrap (x.start - l.l)) else imax l.g r.g) (IntKind.i64.wrap (r.f - x.end))
      else if l.h > 0 then imax (imax l.g r.g) (IntKind.i64.wrap (x.start - l.l)) else imax l.g r.g) x [l, r]
theorem end_ok : FnOK Try.prog 112 Try.f112 (bodyOf Try.f112) := ⟨Try.func112, rfl, rfl⟩
theorem end_vc (x : Rg) : vc Try.prog TA none [] [] (bodyOf Try.f112) ⟨startT Try.f112 [x.v], []⟩ (Fin TA Try.f112 (.int .i64 x.end)) = (x.end = x.end ∧ True) := by kernel_rfl
theorem end_ps (x : Rg) : PS Try.prog 112 [x.v] (.int .i64 x.end) :=
  .of_vcN mixedA tabA end_ok ⟨x.pur, trivial⟩ (end_vc x) ((by simp [Rg.end]))
theorem valid_ok : FnOK Try.prog 110 Try.f110 (bodyOf Try.f110) := ⟨Try.func110, rfl, rfl⟩
open Go.IntKind GV Ent in
theorem valid_vc (x : Rg) : vc Try.prog TA none [] [] (bodyOf Try.f110) ⟨startT Try.f110 [x.v], []⟩ (Fin TA Try.f110 (.bool (validF x))) = ((decide (x.start ≥ 0) = true → (decide (x.pages ≥ 1) = true → (decide (x.pages ≤ 512) = true → decide (x.start ≤ i64.wrap ((512 : Int) - x.pages)) = validF x ∧ True) ∧ (decide (x.pages ≤ 512) = false → false = validF x ∧ True)) ∧ (decide (x.pages ≥ 1) = false → false = validF x ∧ True)) ∧ (decide (x.start ≥ 0) = false → false = validF x ∧ True)) := by kernel_rfl
theorem valid_ps (x : Rg) : PS Try.prog 110 [x.v] (.bool (validF x)) :=
  .of_vcN mixedA tabA valid_ok ⟨x.pur, trivial⟩ (valid_vc x) ((by
    unfold validF; repeat' (first | refine And.intro ?_ ?_ | intro h)
    all_goals (simp_all; try (intros; omega))))
theorem node_ok : FnOK Try.prog 131 Try.f131 (bodyOf Try.f131) := ⟨Try.func131, rfl, rfl⟩
open Go.IntKind GV Ent in
theorem node_vc (l : Tr) (x : Rg) (r : Tr) : vc Try.prog TA none [] [(17, tl (.int .i64 x.end)), (54, tl (.int .i64 x.end))] (bodyOf Try.f131) ⟨startT Try.f131 [l.v, x.v, r.v], []⟩ (Fin TA Try.f131 (nodeF l x r).v) = (CallSem Try.prog 112 [x.v] [] 4 (int i64 x.end) [] [] ∧ 11 = 11 ∧ true = true ∧ 11 ≤ 11 ∧ (decide (l.h > 0) = true → 1 = 1 ∧ true = true ∧ 2 ≤ 11 ∧ 1 = 1 ∧ true = true ∧ 4 ≤ 11 ∧ (decide (r.h > 0) = true → 1 = 1 ∧ true = true ∧ 3 ≤ 11 ∧ CallSem Try.prog 112 [x.v] [] 6 (int i64 x.end) [] [] ∧ 1 = 1 ∧ true = true ∧ 4 ≤ 11 ∧ 11 = 11 ∧ true = true ∧ 11 ≤ 11 ∧ (nodeF l x r).h = (nodeF l x r).h ∧ l.f = (nodeF l x r).f ∧ r.l = (nodeF l x r).l ∧ (if i64.wrap (r.f - x.end) > if i64.wrap (x.start - l.l) > if r.g > l.g then r.g else l.g then i64.wrap (x.start - l.l) else if r.g > l.g then r.g else l.g then i64.wrap (r.f - x.end) else if i64.wrap (x.start - l.l) > if r.g > l.g then r.g else l.g then i64.wrap (x.start - l.l) else if r.g > l.g then r.g else l.g) = (nodeF l x r).g ∧ x.start = x.start ∧ x.pages = x.pages ∧ x.prot = x.prot ∧ x.flags = x.flags ∧ x.file = x.file ∧ x.index = x.index ∧ 2 = 2 ∧ l.h = l.h ∧ l.f = l.f ∧ l.l = l.l ∧ l.g = l.g ∧ l.r.start = l.r.start ∧ l.r.pages = l.r.pages ∧ l.r.prot = l.r.prot ∧ l.r.flags = l.r.flags ∧ l.r.file = l.r.file ∧ l.r.index = l.r.index ∧ l.kids.length = l.kids.length ∧ l.K = l.K ∧ PurL l.K ∧ r.h = r.h ∧ r.f = r.f ∧ r.l = r.l ∧ r.g = r.g ∧ r.r.start = r.r.start ∧ r.r.pages = r.r.pages ∧ r.r.prot = r.r.prot ∧ r.r.flags = r.r.flags ∧ r.r.file = r.r.file ∧ r.r.index = r.r.index ∧ r.kids.length = r.kids.length ∧ r.K = r.K ∧ PurL r.K ∧ True) ∧ (decide (r.h > 0) = false → 11 = 11 ∧ true = true ∧ 11 ≤ 11 ∧ (nodeF l x r).h = (nodeF l x r).h ∧ l.f = (nodeF l x r).f ∧ x.end = (nodeF l x r).l ∧ (if i64.wrap (x.start - l.l) > if r.g > l.g then r.g else l.g then i64.wrap (x.start - l.l) else if r.g > l.g then r.g else l.g) = (nodeF l x r).g ∧ x.start = x.start ∧ x.pages = x.pages ∧ x.prot = x.prot ∧ x.flags = x.flags ∧ x.file = x.file ∧ x.index = x.index ∧ 2 = 2 ∧ l.h = l.h ∧ l.f = l.f ∧ l.l = l.l ∧ l.g = l.g ∧ l.r.start = l.r.start ∧ l.r.pages = l.r.pages ∧ l.r.prot = l.r.prot ∧ l.r.flags = l.r.flags ∧ l.r.file = l.r.file ∧ l.r.index = l.r.index ∧ l.kids.length = l.kids.length ∧ l.K = l.K ∧ PurL l.K ∧ r.h = r.h ∧ r.f = r.f ∧ r.l = r.l ∧ r.g = r.g ∧ r.r.start = r.r.start ∧ r.r.pages = r.r.pages ∧ r.r.prot = r.r.prot ∧ r.r.flags = r.r.flags ∧ r.r.file = r.r.file ∧ r.r.index = r.r.index ∧ r.kids.length = r.kids.length ∧ r.K = r.K ∧ PurL r.K ∧ True)) ∧ (decide (l.h > 0) = false → (decide (r.h > 0) = true → 1 = 1 ∧ true = true ∧ 3 ≤ 11 ∧ CallSem Try.prog 112 [x.v] [] 6 (int i64 x.end) [] [] ∧ 1 = 1 ∧ true = true ∧ 4 ≤ 11 ∧ 11 = 11 ∧ true = true ∧ 11 ≤ 11 ∧ (nodeF l x r).h = (nodeF l x r).h ∧ x.start = (nodeF l x r).f ∧ r.l = (nodeF l x r).l ∧ (if i64.wrap (r.f - x.end) > if r.g > l.g then r.g else l.g then i64.wrap (r.f - x.end) else if r.g > l.g then r.g else l.g) = (nodeF l x r).g ∧ x.start = x.start ∧ x.pages = x.pages ∧ x.prot = x.prot ∧ x.flags = x.flags ∧ x.file = x.file ∧ x.index = x.index ∧ 2 = 2 ∧ l.h = l.h ∧ l.f = l.f ∧ l.l = l.l ∧ l.g = l.g ∧ l.r.start = l.r.start ∧ l.r.pages = l.r.pages ∧ l.r.prot = l.r.prot ∧ l.r.flags = l.r.flags ∧ l.r.file = l.r.file ∧ l.r.index = l.r.index ∧ l.kids.length = l.kids.length ∧ l.K = l.K ∧ PurL l.K ∧ r.h = r.h ∧ r.f = r.f ∧ r.l = r.l ∧ r.g = r.g ∧ r.r.start = r.r.start ∧ r.r.pages = r.r.pages ∧ r.r.prot = r.r.prot ∧ r.r.flags = r.r.flags ∧ r.r.file = r.r.file ∧ r.r.index = r.r.index ∧ r.kids.length = r.kids.length ∧ r.K = r.K ∧ PurL r.K ∧ True) ∧ (decide (r.h > 0) = false → 11 = 11 ∧ true = true ∧ 11 ≤ 11 ∧ (nodeF l x r).h = (nodeF l x r).h ∧ x.start = (nodeF l x r).f ∧ x.end = (nodeF l x r).l ∧ (if r.g > l.g then r.g else l.g) = (nodeF l x r).g ∧ x.start = x.start ∧ x.pages = x.pages ∧ x.prot = x.prot ∧ x.flags = x.flags ∧ x.file = x.file ∧ x.index = x.index ∧ 2 = 2 ∧ l.h = l.h ∧ l.f = l.f ∧ l.l = l.l ∧ l.g = l.g ∧ l.r.start = l.r.start ∧ l.r.pages = l.r.pages ∧ l.r.prot = l.r.prot ∧ l.r.flags = l.r.flags ∧ l.r.file = l.r.file ∧ l.r.index = l.r.index ∧ l.kids.length = l.kids.length ∧ l.K = l.K ∧ PurL l.K ∧ r.h = r.h ∧ r.f = r.f ∧ r.l = r.l ∧ r.g = r.g ∧ r.r.start = r.r.start ∧ r.r.pages = r.r.pages ∧ r.r.prot = r.r.prot ∧ r.r.flags = r.r.flags ∧ r.r.file = r.r.file ∧ r.r.index = r.r.index ∧ r.kids.length = r.kids.length ∧ r.K = r.K ∧ PurL r.K ∧ True))) := by kernel_rfl
theorem node_ps (l : Tr) (x : Rg) (r : Tr) : PS Try.prog 131 [l.v, x.v, r.v] (nodeF l x r).v := by
  refine .of_vcN mixedA tabA node_ok ⟨l.pur, x.pur, r.pur, trivial⟩ (node_vc l x r) ?_
  have e1 := end_ps x
  repeat' (first | exact e1 _ | exact Tr.purK _ | refine And.intro ?_ ?_ | intro h)
  all_goals first | rfl | exact e1 _ | exact Tr.purK _ | decide | (simp only [decide_eq_true_eq, decide_eq_false_iff_not] at *; simp [nodeF, imax, Tr.f, Tr.l, Tr.g, *]; done)
theorem parts_ok : FnOK Try.prog 124 Try.f124 (bodyOf Try.f124) := ⟨Try.func124, rfl, rfl⟩
theorem parts_vc (h f l g : Int) (x : Rg) (a b : Tr) : vc Try.prog TA none [] [] (bodyOf Try.f124) ⟨startT Try.f124 [(Tr.mk h f l g x [a, b]).v], []⟩ (Fin TA Try.f124 (.tup [a.v, x.v, b.v])) = (((0 : Int) ≤ (0 : Int) ∧ (0 : Int) < ↑(Tr.mk h f l g x [a, b]).kids.length) ∧ 22 = 22 ∧ ((0 : Int) ≤ (1 : Int) ∧ (1 : Int) < ↑(Tr.mk h f l g x [a, b]).kids.length) ∧ 22 = 22 ∧ 11 = 11 ∧ true = true ∧ 11 ≤ 11 ∧ 6 = 6 ∧ true = true ∧ 6 ≤ 6 ∧ 11 = 11 ∧ true = true ∧ 11 ≤ 11 ∧ a.h = a.h ∧ a.f = a.f ∧ a.l = a.l ∧ a.g = a.g ∧ a.r.start = a.r.start ∧ a.r.pages = a.r.pages ∧ a.r.prot = a.r.prot ∧ a.r.flags = a.r.flags ∧ a.r.file = a.r.file ∧ a.r.index = a.r.index ∧ a.kids.length = a.kids.length ∧ a.K = a.K ∧ PurL a.K ∧ x.start = x.start ∧ x.pages = x.pages ∧ x.prot = x.prot ∧ x.flags = x.flags ∧ x.file = x.file ∧ x.index = x.index ∧ b.h = b.h ∧ b.f = b.f ∧ b.l = b.l ∧ b.g = b.g ∧ b.r.start = b.r.start ∧ b.r.pages = b.r.pages ∧ b.r.prot = b.r.prot ∧ b.r.flags = b.r.flags ∧ b.r.file = b.r.file ∧ b.r.index = b.r.index ∧ b.kids.length = b.kids.length ∧ b.K = b.K ∧ PurL b.K ∧ True) := by kernel_rfl
theorem parts_ps (h f l g : Int) (x : Rg) (a b : Tr) : PS Try.prog 124 [(Tr.mk h f l g x [a, b]).v] (.tup [a.v, x.v, b.v]) := by
  refine .of_vcN mixedA tabA parts_ok ⟨Tr.pur _, trivial⟩ (parts_vc h f l g x a b) ?_
  repeat' (first | exact Tr.purK _ | refine And.intro ?_ ?_ | intro h)
  all_goals first | rfl | decide | (simp [Tr.kids]; done)
end Go.Proofs.Ytalcipbagidbpaa
end

section
set_option linter.unusedVariables false
namespace Go.Proofs.Ytalcipbagidbpaa
open Go.Proofs
abbrev w64 (n : Int) : Int := IntKind.i64.wrap n
def hasF (r : Rg) (f : Int) : Bool := w64 (BitVec.ofInt IntKind.i64.bits r.flags &&& BitVec.ofInt IntKind.i64.bits f).toNat != 0
def chkA (r : Rg) : Bool := decide (r.pages < 1) || (r.prot != 1 && r.prot != 3) || (decide (r.flags < 0) || decide (r.flags > 15)) || (decide (r.file < -1) || decide (r.file ≥ 4)) ||
  (hasF r 1 && r.file == -1) || (hasF r 10 && r.file != -1)
def chkB (r : Rg) : Bool := (decide (r.start < 0) || decide (r.start > 512) || decide (r.pages > w64 (512 - r.start))) || decide (r.index < 0) || (r.index != 0 && r.file == -1) ||
  (r.file != -1 && (decide (r.index > 16) || decide (r.pages > w64 (16 - r.index))))
def chkR (r : Rg) : Int := bif chkA r then 1 else bif chkB r then 2 else 0
def endR (r : Rg) : Int := bif chkR r != 0 then 0 else w64 (r.start + r.pages)
def ovl (a b : Rg) : Bool := chkR a == 0 && chkR b == 0 && decide (a.start < endR b) && decide (b.start < endR a)
def Rg.ints (r : Rg) : List Int := [r.start, r.pages, r.prot, r.flags, r.file, r.index]
def mrg (a b : Rg) : Bool := !(chkR a != 0 || chkR b != 0 || hasF a 2 || hasF b 2) && (bif a.file != -1 then decide ([w64 (a.start + a.pages), b.pages, a.prot, a.flags, a.file, w64 (a.index + a.pages)] = b.ints) else decide ([w64 (a.start + a.pages), b.pages, a.prot, a.flags, a.file, a.index] = b.ints))
def zR : Rg := ⟨0, 0, 0, 0, 0, 0⟩
def mergeR (a b : Rg) : Rg × Int := bif chkR a != 0 then (zR, chkR a) else bif chkR b != 0 then (zR, chkR b) else bif !mrg a b then (zR, 11) else ({ a with pages := w64 (a.pages + b.pages) }, 0)
theorem has_ok : FnOK Try.prog 94 Try.f94 (bodyOf Try.f94) := ⟨Try.func94, rfl, rfl⟩
theorem has_vc (r : Rg) (f : Int) : vc Try.prog TA none [] [] (bodyOf Try.f94) ⟨startT Try.f94 [r.v, .int .i64 f], []⟩ (Fin TA Try.f94 (.bool (hasF r f))) = (hasF r f = hasF r f ∧ True) := by kernel_rfl
theorem has_ps (r : Rg) (f : Int) : PS Try.prog 94 [r.v, .int .i64 f] (.bool (hasF r f)) := by
  refine .of_vcN mixedA tabA has_ok (by repeat' (first | exact trivial | exact Rg.pur _ | exact Pur.int | refine And.intro ?_ ?_)) (has_vc r f) ?_
  try simp only [hasF]
  repeat' (first | refine And.intro ?_ ?_)
  all_goals (exact trivial)
theorem chkR_ok : FnOK Try.prog 51 Try.f51 (bodyOf Try.f51) := ⟨Try.func51, rfl, rfl⟩
open Go.IntKind GV Ent in
theorem chkR_vc (r : Rg) : vc Try.prog TA none [] [(32, tl (.bool (hasF r 1))), (39, tl (.bool (hasF r 10)))] (bodyOf Try.f51) ⟨startT Try.f51 [r.v], []⟩ (Fin TA Try.f51 (.int .i64 (chkR r))) = ((decide (r.pages < 1) = true → (1 : Int) = chkR r ∧ True) ∧ (decide (r.pages < 1) = false → ((r.prot != 1) = true → ((r.prot != 3) = true → (1 : Int) = chkR r ∧ True) ∧ ((r.prot != 3) = false → (decide (r.flags < 0) = true → (1 : Int) = chkR r ∧ True) ∧ (decide (r.flags < 0) = false → (decide (r.flags > 15) = true → (1 : Int) = chkR r ∧ True) ∧ (decide (r.flags > 15) = false → (decide (r.file < -1) = true → (1 : Int) = chkR r ∧ True) ∧ (decide (r.file < -1) = false → (decide (r.file ≥ 4) = true → (1 : Int) = chkR r ∧ True) ∧ (decide (r.file ≥ 4) = false → CallSem Try.prog 94 [r.v, int i64 1] [] 1 (bool (hasF r (1 : Int))) [] [] ∧ (hasF r (1 : Int) = true → ((r.file == -1) = true → (1 : Int) = chkR r ∧ True) ∧ ((r.file == -1) = false → CallSem Try.prog 94 [r.v, int i64 10] [] 1 (bool (hasF r (10 : Int))) [] [] ∧ (hasF r (10 : Int) = true → ((r.file != -1) = true → (1 : Int) = chkR r ∧ True) ∧ ((r.file != -1) = false → (decide (r.start < 0) = true → (2 : Int) = chkR r ∧ True) ∧ (decide (r.start < 0) = false → (decide (r.start > 512) = true → (2 : Int) = chkR r ∧ True) ∧ (decide (r.start > 512) = false → (decide (r.pages > i64.wrap ((512 : Int) - r.start)) = true → (2 : Int) = chkR r ∧ True) ∧ (decide (r.pages > i64.wrap ((512 : Int) - r.start)) = false → (decide (r.index < 0) = true → (2 : Int) = chkR r ∧ True) ∧ (decide (r.index < 0) = false → ((r.index != 0) = true → ((r.file == -1) = true → (2 : Int) = chkR r ∧ True) ∧ ((r.file == -1) = false → ((r.file != -1) = true → (decide (r.index > 16) = true → (2 : Int) = chkR r ∧ True) ∧ (decide (r.index > 16) = false → (decide (r.pages > i64.wrap ((16 : Int) - r.index)) = true → (2 : Int) = chkR r ∧ True) ∧ (decide (r.pages > i64.wrap ((16 : Int) - r.index)) = false → (0 : Int) = chkR r ∧ True))) ∧ ((r.file != -1) = false → (0 : Int) = chkR r ∧ True))) ∧ ((r.index != 0) = false → ((r.file != -1) = true → (decide (r.index > 16) = true → (2 : Int) = chkR r ∧ True) ∧ (decide (r.index > 16) = false → (decide (r.pages > i64.wrap ((16 : Int) - r.index)) = true → (2 : Int) = chkR r ∧ True) ∧ (decide (r.pages > i64.wrap ((16 : Int) - r.index)) = false → (0 : Int) = chkR r ∧ True))) ∧ ((r.file != -1) = false → (0 : Int) = chkR r ∧ True)))))))) ∧ (hasF r (10 : Int) = false → (decide (r.start < 0) = true → (2 : Int) = chkR r ∧ True) ∧ (decide (r.start < 0) = false → (decide (r.start > 512) = true → (2 : Int) = chkR r ∧ True) ∧ (decide (r.start > 512) = false → (decide (r.pages > i64.wrap ((512 : Int) - r.start)) = true → (2 : Int) = chkR r ∧ True) ∧ (decide (r.pages > i64.wrap ((512 : Int) - r.start)) = false → (decide (r.index < 0) = true → (2 : Int) = chkR r ∧ True) ∧ (decide (r.index < 0) = false → ((r.index != 0) = true → ((r.file == -1) = true → (2 : Int) = chkR r ∧ True) ∧ ((r.file == -1) = false → ((r.file != -1) = true → (decide (r.index > 16) = true → (2 : Int) = chkR r ∧ True) ∧ (decide (r.index > 16) = false → (decide (r.pages > i64.wrap ((16 : Int) - r.index)) = true → (2 : Int) = chkR r ∧ True) ∧ (decide (r.pages > i64.wrap ((16 : Int) - r.index)) = false → (0 : Int) = chkR r ∧ True))) ∧ ((r.file != -1) = false → (0 : Int) = chkR r ∧ True))) ∧ ((r.index != 0) = false → ((r.file != -1) = true → (decide (r.index > 16) = true → (2 : Int) = chkR r ∧ True) ∧ (decide (r.index > 16) = false → (decide (r.pages > i64.wrap ((16 : Int) - r.index)) = true → (2 : Int) = chkR r ∧ True) ∧ (decide (r.pages > i64.wrap ((16 : Int) - r.index)) = false → (0 : Int) = chkR r ∧ True))) ∧ ((r.file != -1) = false → (0 : Int) = chkR r ∧ True))))))))) ∧ (hasF r (1 : Int) = false → CallSem Try.prog 94 [r.v, int i64 10] [] 1 (bool (hasF r (10 : Int))) [] [] ∧ (hasF r (10 : Int) = true → ((r.file != -1) = true → (1 : Int) = chkR r ∧ True) ∧ ((r.file != -1) = false → (decide (r.start < 0) = true → (2 : Int) = chkR r ∧ True) ∧ (decide (r.start < 0) = false → (decide (r.start > 512) = true → (2 : Int) = chkR r ∧ True) ∧ (decide (r.start > 512) = false → (decide (r.pages > i64.wrap ((512 : Int) - r.start)) = true → (2 : Int) = chkR r ∧ True) ∧ (decide (r.pages > i64.wrap ((512 : Int) - r.start)) = false → (decide (r.index < 0) = true → (2 : Int) = chkR r ∧ True) ∧ (decide (r.index < 0) = false → ((r.index != 0) = true → ((r.file == -1) = true → (2 : Int) = chkR r ∧ True) ∧ ((r.file == -1) = false → ((r.file != -1) = true → (decide (r.index > 16) = true → (2 : Int) = chkR r ∧ True) ∧ (decide (r.index > 16) = false → (decide (r.pages > i64.wrap ((16 : Int) - r.index)) = true → (2 : Int) = chkR r ∧ True) ∧ (decide (r.pages > i64.wrap ((16 : Int) - r.index)) = false → (0 : Int) = chkR r ∧ True))) ∧ ((r.file != -1) = false → (0 : Int) = chkR r ∧ True))) ∧ ((r.index != 0) = false → ((r.file != -1) = true → (decide (r.index > 16) = true → (2 : Int) = chkR r ∧ True) ∧ (decide (r.index > 16) = false → (decide (r.pages > i64.wrap ((16 : Int) - r.index)) = true → (2 : Int) = chkR r ∧ True) ∧ (decide (r.pages > i64.wrap ((16 : Int) - r.index)) = false → (0 : Int) = chkR r ∧ True))) ∧ ((r.file != -1) = false → (0 : Int) = chkR r ∧ True)))))))) ∧ (hasF r (10 : Int) = false → (decide (r.start < 0) = true → (2 : Int) = chkR r ∧ True) ∧ (decide (r.start < 0) = false → (decide (r.start > 512) = true → (2 : Int) = chkR r ∧ True) ∧ (decide (r.start > 512) = false → (decide (r.pages > i64.wrap ((512 : Int) - r.start)) = true → (2 : Int) = chkR r ∧ True) ∧ (decide (r.pages > i64.wrap ((512 : Int) - r.start)) = false → (decide (r.index < 0) = true → (2 : Int) = chkR r ∧ True) ∧ (decide (r.index < 0) = false → ((r.index != 0) = true → ((r.file == -1) = true → (2 : Int) = chkR r ∧ True) ∧ ((r.file == -1) = false → ((r.file != -1) = true → (decide (r.index > 16) = true → (2 : Int) = chkR r ∧ True) ∧ (decide (r.index > 16) = false → (decide (r.pages > i64.wrap ((16 : Int) - r.index)) = true → (2 : Int) = chkR r ∧ True) ∧ (decide (r.pages > i64.wrap ((16 : Int) - r.index)) = false → (0 : Int) = chkR r ∧ True))) ∧ ((r.file != -1) = false → (0 : Int) = chkR r ∧ True))) ∧ ((r.index != 0) = false → ((r.file != -1) = true → (decide (r.index > 16) = true → (2 : Int) = chkR r ∧ True) ∧ (decide (r.index > 16) = false → (decide (r.pages > i64.wrap ((16 : Int) - r.index)) = true → (2 : Int) = chkR r ∧ True) ∧ (decide (r.pages > i64.wrap ((16 : Int) - r.index)) = false → (0 : Int) = chkR r ∧ True))) ∧ ((r.file != -1) = false → (0 : Int) = chkR r ∧ True)))))))))))))) ∧ ((r.prot != 1) = false → (decide (r.flags < 0) = true → (1 : Int) = chkR r ∧ True) ∧ (decide (r.flags < 0) = false → (decide (r.flags > 15) = true → (1 : Int) = chkR r ∧ True) ∧ (decide (r.flags > 15) = false → (decide (r.file < -1) = true → (1 : Int) = chkR r ∧ True) ∧ (decide (r.file < -1) = false → (decide (r.file ≥ 4) = true → (1 : Int) = chkR r ∧ True) ∧ (decide (r.file ≥ 4) = false → CallSem Try.prog 94 [r.v, int i64 1] [] 1 (bool (hasF r (1 : Int))) [] [] ∧ (hasF r (1 : Int) = true → ((r.file == -1) = true → (1 : Int) = chkR r ∧ True) ∧ ((r.file == -1) = false → CallSem Try.prog 94 [r.v, int i64 10] [] 1 (bool (hasF r (10 : Int))) [] [] ∧ (hasF r (10 : Int) = true → ((r.file != -1) = true → (1 : Int) = chkR r ∧ True) ∧ ((r.file != -1) = false → (decide (r.start < 0) = true → (2 : Int) = chkR r ∧ True) ∧ (decide (r.start < 0) = false → (decide (r.start > 512) = true → (2 : Int) = chkR r ∧ True) ∧ (decide (r.start > 512) = false → (decide (r.pages > i64.wrap ((512 : Int) - r.start)) = true → (2 : Int) = chkR r ∧ True) ∧ (decide (r.pages > i64.wrap ((512 : Int) - r.start)) = false → (decide (r.index < 0) = true → (2 : Int) = chkR r ∧ True) ∧ (decide (r.index < 0) = false → ((r.index != 0) = true → ((r.file == -1) = true → (2 : Int) = chkR r ∧ True) ∧ ((r.file == -1) = false → ((r.file != -1) = true → (decide (r.index > 16) = true → (2 : Int) = chkR r ∧ True) ∧ (decide (r.index > 16) = false → (decide (r.pages > i64.wrap ((16 : Int) - r.index)) = true → (2 : Int) = chkR r ∧ True) ∧ (decide (r.pages > i64.wrap ((16 : Int) - r.index)) = false → (0 : Int) = chkR r ∧ True))) ∧ ((r.file != -1) = false → (0 : Int) = chkR r ∧ True))) ∧ ((r.index != 0) = false → ((r.file != -1) = true → (decide (r.index > 16) = true → (2 : Int) = chkR r ∧ True) ∧ (decide (r.index > 16) = false → (decide (r.pages > i64.wrap ((16 : Int) - r.index)) = true → (2 : Int) = chkR r ∧ True) ∧ (decide (r.pages > i64.wrap ((16 : Int) - r.index)) = false → (0 : Int) = chkR r ∧ True))) ∧ ((r.file != -1) = false → (0 : Int) = chkR r ∧ True)))))))) ∧ (hasF r (10 : Int) = false → (decide (r.start < 0) = true → (2 : Int) = chkR r ∧ True) ∧ (decide (r.start < 0) = false → (decide (r.start > 512) = true → (2 : Int) = chkR r ∧ True) ∧ (decide (r.start > 512) = false → (decide (r.pages > i64.wrap ((512 : Int) - r.start)) = true → (2 : Int) = chkR r ∧ True) ∧ (decide (r.pages > i64.wrap ((512 : Int) - r.start)) = false → (decide (r.index < 0) = true → (2 : Int) = chkR r ∧ True) ∧ (decide (r.index < 0) = false → ((r.index != 0) = true → ((r.file == -1) = true → (2 : Int) = chkR r ∧ True) ∧ ((r.file == -1) = false → ((r.file != -1) = true → (decide (r.index > 16) = true → (2 : Int) = chkR r ∧ True) ∧ (decide (r.index > 16) = false → (decide (r.pages > i64.wrap ((16 : Int) - r.index)) = true → (2 : Int) = chkR r ∧ True) ∧ (decide (r.pages > i64.wrap ((16 : Int) - r.index)) = false → (0 : Int) = chkR r ∧ True))) ∧ ((r.file != -1) = false → (0 : Int) = chkR r ∧ True))) ∧ ((r.index != 0) = false → ((r.file != -1) = true → (decide (r.index > 16) = true → (2 : Int) = chkR r ∧ True) ∧ (decide (r.index > 16) = false → (decide (r.pages > i64.wrap ((16 : Int) - r.index)) = true → (2 : Int) = chkR r ∧ True) ∧ (decide (r.pages > i64.wrap ((16 : Int) - r.index)) = false → (0 : Int) = chkR r ∧ True))) ∧ ((r.file != -1) = false → (0 : Int) = chkR r ∧ True))))))))) ∧ (hasF r (1 : Int) = false → CallSem Try.prog 94 [r.v, int i64 10] [] 1 (bool (hasF r (10 : Int))) [] [] ∧ (hasF r (10 : Int) = true → ((r.file != -1) = true → (1 : Int) = chkR r ∧ True) ∧ ((r.file != -1) = false → (decide (r.start < 0) = true → (2 : Int) = chkR r ∧ True) ∧ (decide (r.start < 0) = false → (decide (r.start > 512) = true → (2 : Int) = chkR r ∧ True) ∧ (decide (r.start > 512) = false → (decide (r.pages > i64.wrap ((512 : Int) - r.start)) = true → (2 : Int) = chkR r ∧ True) ∧ (decide (r.pages > i64.wrap ((512 : Int) - r.start)) = false → (decide (r.index < 0) = true → (2 : Int) = chkR r ∧ True) ∧ (decide (r.index < 0) = false → ((r.index != 0) = true → ((r.file == -1) = true → (2 : Int) = chkR r ∧ True) ∧ ((r.file == -1) = false → ((r.file != -1) = true → (decide (r.index > 16) = true → (2 : Int) = chkR r ∧ True) ∧ (decide (r.index > 16) = false → (decide (r.pages > i64.wrap ((16 : Int) - r.index)) = true → (2 : Int) = chkR r ∧ True) ∧ (decide (r.pages > i64.wrap ((16 : Int) - r.index)) = false → (0 : Int) = chkR r ∧ True))) ∧ ((r.file != -1) = false → (0 : Int) = chkR r ∧ True))) ∧ ((r.index != 0) = false → ((r.file != -1) = true → (decide (r.index > 16) = true → (2 : Int) = chkR r ∧ True) ∧ (decide (r.index > 16) = false → (decide (r.pages > i64.wrap ((16 : Int) - r.index)) = true → (2 : Int) = chkR r ∧ True) ∧ (decide (r.pages > i64.wrap ((16 : Int) - r.index)) = false → (0 : Int) = chkR r ∧ True))) ∧ ((r.file != -1) = false → (0 : Int) = chkR r ∧ True)))))))) ∧ (hasF r (10 : Int) = false → (decide (r.start < 0) = true → (2 : Int) = chkR r ∧ True) ∧ (decide (r.start < 0) = false → (decide (r.start > 512) = true → (2 : Int) = chkR r ∧ True) ∧ (decide (r.start > 512) = false → (decide (r.pages > i64.wrap ((512 : Int) - r.start)) = true → (2 : Int) = chkR r ∧ True) ∧ (decide (r.pages > i64.wrap ((512 : Int) - r.start)) = false → (decide (r.index < 0) = true → (2 : Int) = chkR r ∧ True) ∧ (decide (r.index < 0) = false → ((r.index != 0) = true → ((r.file == -1) = true → (2 : Int) = chkR r ∧ True) ∧ ((r.file == -1) = false → ((r.file != -1) = true → (decide (r.index > 16) = true → (2 : Int) = chkR r ∧ True) ∧ (decide (r.index > 16) = false → (decide (r.pages > i64.wrap ((16 : Int) - r.index)) = true → (2 : Int) = chkR r ∧ True) ∧ (decide (r.pages > i64.wrap ((16 : Int) - r.index)) = false → (0 : Int) = chkR r ∧ True))) ∧ ((r.file != -1) = false → (0 : Int) = chkR r ∧ True))) ∧ ((r.index != 0) = false → ((r.file != -1) = true → (decide (r.index > 16) = true → (2 : Int) = chkR r ∧ True) ∧ (decide (r.index > 16) = false → (decide (r.pages > i64.wrap ((16 : Int) - r.index)) = true → (2 : Int) = chkR r ∧ True) ∧ (decide (r.pages > i64.wrap ((16 : Int) - r.index)) = false → (0 : Int) = chkR r ∧ True))) ∧ ((r.file != -1) = false → (0 : Int) = chkR r ∧ True))))))))))))))) := by kernel_rfl
theorem chkR_ps (r : Rg) : PS Try.prog 51 [r.v] (.int .i64 (chkR r)) := by
  refine .of_vcN mixedA tabA chkR_ok (by repeat' (first | exact trivial | exact Rg.pur _ | refine And.intro ?_ ?_)) (chkR_vc r) ?_
  try simp only [chkR, chkA, chkB]
  repeat' (first | exact has_ps r 1 _ | exact has_ps r 10 _ | refine And.intro ?_ ?_ | (intro h_; first | (cases h_; done) | rw [h_] | (simp only [Bool.not_eq_true', Bool.not_eq_false'] at h_; rw [h_]) | skip))
  all_goals (first | exact trivial | (simp only [bsm]; done))
theorem endR_ok : FnOK Try.prog 97 Try.f97 (bodyOf Try.f97) := ⟨Try.func97, rfl, rfl⟩
open Go.IntKind GV Ent in
theorem endR_vc (r : Rg) : vc Try.prog TA none [] [(4, tl (.int .i64 (chkR r)))] (bodyOf Try.f97) ⟨startT Try.f97 [r.v], []⟩ (Fin TA Try.f97 (.int .i64 (endR r))) = (CallSem Try.prog 51 [r.v] [] 1 (int i64 (chkR r)) [] [] ∧ ((chkR r != (0 : Int)) = true → (0 : Int) = endR r ∧ True) ∧ ((chkR r != (0 : Int)) = false → i64.wrap (r.start + r.pages) = endR r ∧ True)) := by kernel_rfl
theorem endR_ps (r : Rg) : PS Try.prog 97 [r.v] (.int .i64 (endR r)) := by
  refine .of_vcN mixedA tabA endR_ok (by repeat' (first | exact trivial | exact Rg.pur _ | refine And.intro ?_ ?_)) (endR_vc r) ?_
  try simp only [endR]
  repeat' (first | exact chkR_ps r _ | refine And.intro ?_ ?_ | (intro h_; first | (cases h_; done) | rw [h_] | (simp only [Bool.not_eq_true', Bool.not_eq_false'] at h_; rw [h_]) | skip))
  all_goals (first | exact trivial | (simp only [bsm]; done))
theorem ovl_ok : FnOK Try.prog 53 Try.f53 (bodyOf Try.f53) := ⟨Try.func53, rfl, rfl⟩
open Go.IntKind GV Ent in
theorem ovl_vc (a b : Rg) : vc Try.prog TA none [] [(6, tl (.int .i64 (chkR a))), (10, tl (.int .i64 (chkR b))), (17, tl (.int .i64 (endR b))), (24, tl (.int .i64 (endR a)))] (bodyOf Try.f53) ⟨startT Try.f53 [a.v, b.v], []⟩ (Fin TA Try.f53 (.bool (ovl a b))) = (CallSem Try.prog 51 [a.v] [] 2 (int i64 (chkR a)) [] [] ∧ ((chkR a == (0 : Int)) = true → CallSem Try.prog 51 [b.v] [] 2 (int i64 (chkR b)) [] [] ∧ ((chkR b == (0 : Int)) = true → CallSem Try.prog 97 [b.v] [] 2 (int i64 (endR b)) [] [] ∧ (decide (a.start < endR b) = true → CallSem Try.prog 97 [a.v] [] 2 (int i64 (endR a)) [] [] ∧ decide (b.start < endR a) = ovl a b ∧ True) ∧ (decide (a.start < endR b) = false → false = ovl a b ∧ True)) ∧ ((chkR b == (0 : Int)) = false → false = ovl a b ∧ True)) ∧ ((chkR a == (0 : Int)) = false → false = ovl a b ∧ True)) := by kernel_rfl
theorem ovl_ps (a b : Rg) : PS Try.prog 53 [a.v, b.v] (.bool (ovl a b)) := by
  refine .of_vcN mixedA tabA ovl_ok (by repeat' (first | exact trivial | exact Rg.pur _ | refine And.intro ?_ ?_)) (ovl_vc a b) ?_
  try simp only [ovl]
  repeat' (first | exact chkR_ps a _ | exact chkR_ps b _ | exact endR_ps b _ | exact endR_ps a _ | refine And.intro ?_ ?_ | (intro h_; first | (cases h_; done) | rw [h_] | (simp only [Bool.not_eq_true', Bool.not_eq_false'] at h_; rw [h_]) | skip))
  all_goals (first | exact trivial | (simp only [bsm]; done))
theorem mrg_ok : FnOK Try.prog 72 Try.f72 (bodyOf Try.f72) := ⟨Try.func72, rfl, rfl⟩
open Go.IntKind GV Ent in
theorem mrg_vc (a b : Rg) : vc Try.prog TA none [] [(7, tl (.int .i64 (chkR a))), (11, tl (.int .i64 (chkR b))), (16, tl (.bool (hasF a 2))), (20, tl (.bool (hasF b 2)))] (bodyOf Try.f72) ⟨startT Try.f72 [a.v, b.v], []⟩ (Fin TA Try.f72 (.bool (mrg a b))) = (CallSem Try.prog 51 [a.v] [] 2 (int i64 (chkR a)) [] [] ∧ ((chkR a != (0 : Int)) = true → false = mrg a b ∧ True) ∧ ((chkR a != (0 : Int)) = false → CallSem Try.prog 51 [b.v] [] 2 (int i64 (chkR b)) [] [] ∧ ((chkR b != (0 : Int)) = true → false = mrg a b ∧ True) ∧ ((chkR b != (0 : Int)) = false → CallSem Try.prog 94 [a.v, int i64 2] [] 2 (bool (hasF a (2 : Int))) [] [] ∧ (hasF a (2 : Int) = true → false = mrg a b ∧ True) ∧ (hasF a (2 : Int) = false → CallSem Try.prog 94 [b.v, int i64 2] [] 2 (bool (hasF b (2 : Int))) [] [] ∧ (hasF b (2 : Int) = true → false = mrg a b ∧ True) ∧ (hasF b (2 : Int) = false → 6 = 6 ∧ true = true ∧ 6 ≤ 6 ∧ 1 = 1 ∧ true = true ∧ 1 ≤ 6 ∧ 1 = 1 ∧ true = true ∧ 2 ≤ 6 ∧ ((a.file != -1) = true → 1 = 1 ∧ true = true ∧ 6 ≤ 6 ∧ decide ([i64.wrap (a.start + a.pages), b.pages, a.prot, a.flags, a.file, i64.wrap (a.index + a.pages)] = [b.start, b.pages, b.prot, b.flags, b.file, b.index]) = mrg a b ∧ True) ∧ ((a.file != -1) = false → decide ([i64.wrap (a.start + a.pages), b.pages, a.prot, a.flags, a.file, a.index] = [b.start, b.pages, b.prot, b.flags, b.file, b.index]) = mrg a b ∧ True)))))) := by kernel_rfl
theorem mrg_ps (a b : Rg) : PS Try.prog 72 [a.v, b.v] (.bool (mrg a b)) := by
  refine .of_vcN mixedA tabA mrg_ok (by repeat' (first | exact trivial | exact Rg.pur _ | refine And.intro ?_ ?_)) (mrg_vc a b) ?_
  try simp only [mrg, Rg.ints, w64]
  repeat' (first | exact chkR_ps a _ | exact chkR_ps b _ | exact has_ps a 2 _ | exact has_ps b 2 _ | refine And.intro ?_ ?_ | (intro h_; first | (cases h_; done) | rw [h_] | (simp only [Bool.not_eq_true', Bool.not_eq_false'] at h_; rw [h_]) | skip))
  all_goals (first | exact trivial | exact Nat.le_refl _ | (simp only [bsm]; done) | (simp only [bsm]; exact rfl) | exact Nat.le_of_ble_eq_true (Eq.refl true))
theorem mergeR_ok : FnOK Try.prog 99 Try.f99 (bodyOf Try.f99) := ⟨Try.func99, rfl, rfl⟩
open Go.IntKind GV Ent in
theorem mergeR_vc (a b : Rg) : vc Try.prog TA none [] [(9, tl (.int .i64 (chkR a))), (15, tl (.int .i64 (chkR b))), (22, tl (.bool (mrg a b)))] (bodyOf Try.f99) ⟨startT Try.f99 [a.v, b.v], []⟩ (Fin TA Try.f99 (.tup [(mergeR a b).1.v, .int .i64 (mergeR a b).2])) = (CallSem Try.prog 51 [a.v] [] 3 (int i64 (chkR a)) [] [] ∧ ((chkR a != (0 : Int)) = true → 6 = 6 ∧ true = true ∧ 6 ≤ 6 ∧ 0 = (mergeR a b).fst.start ∧ 0 = (mergeR a b).fst.pages ∧ 0 = (mergeR a b).fst.prot ∧ 0 = (mergeR a b).fst.flags ∧ 0 = (mergeR a b).fst.file ∧ 0 = (mergeR a b).fst.index ∧ chkR a = (mergeR a b).snd ∧ True) ∧ ((chkR a != (0 : Int)) = false → CallSem Try.prog 51 [b.v] [] 3 (int i64 (chkR b)) [] [] ∧ ((chkR b != (0 : Int)) = true → 6 = 6 ∧ true = true ∧ 6 ≤ 6 ∧ 0 = (mergeR a b).fst.start ∧ 0 = (mergeR a b).fst.pages ∧ 0 = (mergeR a b).fst.prot ∧ 0 = (mergeR a b).fst.flags ∧ 0 = (mergeR a b).fst.file ∧ 0 = (mergeR a b).fst.index ∧ chkR b = (mergeR a b).snd ∧ True) ∧ ((chkR b != (0 : Int)) = false → CallSem Try.prog 72 [a.v, b.v] [] 3 (bool (mrg a b)) [] [] ∧ ((!mrg a b) = true → 6 = 6 ∧ true = true ∧ 6 ≤ 6 ∧ 0 = (mergeR a b).fst.start ∧ 0 = (mergeR a b).fst.pages ∧ 0 = (mergeR a b).fst.prot ∧ 0 = (mergeR a b).fst.flags ∧ 0 = (mergeR a b).fst.file ∧ 0 = (mergeR a b).fst.index ∧ 11 = (mergeR a b).snd ∧ True) ∧ ((!mrg a b) = false → 1 = 1 ∧ true = true ∧ 2 ≤ 6 ∧ 6 = 6 ∧ true = true ∧ 6 ≤ 6 ∧ a.start = (mergeR a b).fst.start ∧ i64.wrap (a.pages + b.pages) = (mergeR a b).fst.pages ∧ a.prot = (mergeR a b).fst.prot ∧ a.flags = (mergeR a b).fst.flags ∧ a.file = (mergeR a b).fst.file ∧ a.index = (mergeR a b).fst.index ∧ 0 = (mergeR a b).snd ∧ True)))) := by kernel_rfl
theorem mergeR_ps (a b : Rg) : PS Try.prog 99 [a.v, b.v] (.tup [(mergeR a b).1.v, .int .i64 (mergeR a b).2]) := by
  refine .of_vcN mixedA tabA mergeR_ok (by repeat' (first | exact trivial | exact Rg.pur _ | refine And.intro ?_ ?_)) (mergeR_vc a b) ?_
  try simp only [mergeR, zR]
  repeat' (first | exact chkR_ps a _ | exact chkR_ps b _ | exact mrg_ps a b _ | refine And.intro ?_ ?_ | (intro h_; first | (cases h_; done) | rw [h_] | (simp only [Bool.not_eq_true', Bool.not_eq_false'] at h_; rw [h_]) | skip))
  all_goals (first | exact trivial | exact Nat.le_refl _ | (simp only [bsm]; done) | exact Nat.le_of_ble_eq_true (Eq.refl true))
def splitOK (r : Rg) (p : Int) : Bool := !(decide (p ≤ r.start) || decide (p ≥ endR r))
def splitL (r : Rg) (p : Int) : Rg := { r with pages := w64 (p - r.start) }
def splitH (r : Rg) (p : Int) : Rg := { r with start := p, pages := w64 (r.pages - w64 (p - r.start)), flags := w64 (BitVec.ofInt IntKind.i64.bits r.flags &&& ~~~ BitVec.ofInt IntKind.i64.bits 2).toNat, index := bif r.file != -1 then w64 (r.index + w64 (p - r.start)) else r.index }
def splitK (r : Rg) (p : Int) : Bool := bif chkR r != 0 then false else splitOK r p
def splitE (r : Rg) (p : Int) : Int := bif chkR r != 0 then chkR r else bif splitOK r p then 0 else 2
def split1 (r : Rg) (p : Int) : Rg := bif splitK r p then splitL r p else zR
def split2 (r : Rg) (p : Int) : Rg := bif splitK r p then splitH r p else zR
theorem splitR_ok : FnOK Try.prog 105 Try.f105 (bodyOf Try.f105) := ⟨Try.func105, rfl, rfl⟩
open Go.IntKind GV Ent in
theorem splitR_vc (r : Rg) (p : Int) : vc Try.prog TA none [] [(11, tl (.int .i64 (chkR r))), (24, tl (.int .i64 (endR r)))] (bodyOf Try.f105) ⟨startT Try.f105 [r.v, .int .i64 p], []⟩ (Fin TA Try.f105 (.tup [(split1 r p).v, (split2 r p).v, .int .i64 (splitE r p)])) = (CallSem Try.prog 51 [r.v] [] 3 (int i64 (chkR r)) [] [] ∧ ((chkR r != (0 : Int)) = true → 6 = 6 ∧ true = true ∧ 6 ≤ 6 ∧ 6 = 6 ∧ true = true ∧ 6 ≤ 6 ∧ 0 = (split1 r p).start ∧ 0 = (split1 r p).pages ∧ 0 = (split1 r p).prot ∧ 0 = (split1 r p).flags ∧ 0 = (split1 r p).file ∧ 0 = (split1 r p).index ∧ 0 = (split2 r p).start ∧ 0 = (split2 r p).pages ∧ 0 = (split2 r p).prot ∧ 0 = (split2 r p).flags ∧ 0 = (split2 r p).file ∧ 0 = (split2 r p).index ∧ chkR r = splitE r p ∧ True) ∧ ((chkR r != (0 : Int)) = false → (decide (p ≤ r.start) = true → 6 = 6 ∧ true = true ∧ 6 ≤ 6 ∧ 6 = 6 ∧ true = true ∧ 6 ≤ 6 ∧ 0 = (split1 r p).start ∧ 0 = (split1 r p).pages ∧ 0 = (split1 r p).prot ∧ 0 = (split1 r p).flags ∧ 0 = (split1 r p).file ∧ 0 = (split1 r p).index ∧ 0 = (split2 r p).start ∧ 0 = (split2 r p).pages ∧ 0 = (split2 r p).prot ∧ 0 = (split2 r p).flags ∧ 0 = (split2 r p).file ∧ 0 = (split2 r p).index ∧ (2 : Int) = splitE r p ∧ True) ∧ (decide (p ≤ r.start) = false → CallSem Try.prog 97 [r.v] [] 3 (int i64 (endR r)) [] [] ∧ (decide (p ≥ endR r) = true → 6 = 6 ∧ true = true ∧ 6 ≤ 6 ∧ 6 = 6 ∧ true = true ∧ 6 ≤ 6 ∧ 0 = (split1 r p).start ∧ 0 = (split1 r p).pages ∧ 0 = (split1 r p).prot ∧ 0 = (split1 r p).flags ∧ 0 = (split1 r p).file ∧ 0 = (split1 r p).index ∧ 0 = (split2 r p).start ∧ 0 = (split2 r p).pages ∧ 0 = (split2 r p).prot ∧ 0 = (split2 r p).flags ∧ 0 = (split2 r p).file ∧ 0 = (split2 r p).index ∧ (2 : Int) = splitE r p ∧ True) ∧ (decide (p ≥ endR r) = false → 6 = 6 ∧ true = true ∧ 6 ≤ 6 ∧ 6 = 6 ∧ true = true ∧ 6 ≤ 6 ∧ 1 = 1 ∧ true = true ∧ 2 ≤ 6 ∧ 1 = 1 ∧ true = true ∧ 1 ≤ 6 ∧ 1 = 1 ∧ true = true ∧ 2 ≤ 6 ∧ 1 = 1 ∧ true = true ∧ 4 ≤ 6 ∧ ((r.file != -1) = true → 1 = 1 ∧ true = true ∧ 6 ≤ 6 ∧ 6 = 6 ∧ true = true ∧ 6 ≤ 6 ∧ 6 = 6 ∧ true = true ∧ 6 ≤ 6 ∧ r.start = (split1 r p).start ∧ i64.wrap (p - r.start) = (split1 r p).pages ∧ r.prot = (split1 r p).prot ∧ r.flags = (split1 r p).flags ∧ r.file = (split1 r p).file ∧ r.index = (split1 r p).index ∧ p = (split2 r p).start ∧ i64.wrap (r.pages - i64.wrap (p - r.start)) = (split2 r p).pages ∧ r.prot = (split2 r p).prot ∧ i64.wrap ↑(BitVec.ofInt i64.bits r.flags &&& ~~~BitVec.ofInt i64.bits (2 : Int)).toNat = (split2 r p).flags ∧ r.file = (split2 r p).file ∧ i64.wrap (r.index + i64.wrap (p - r.start)) = (split2 r p).index ∧ (0 : Int) = splitE r p ∧ True) ∧ ((r.file != -1) = false → 6 = 6 ∧ true = true ∧ 6 ≤ 6 ∧ 6 = 6 ∧ true = true ∧ 6 ≤ 6 ∧ r.start = (split1 r p).start ∧ i64.wrap (p - r.start) = (split1 r p).pages ∧ r.prot = (split1 r p).prot ∧ r.flags = (split1 r p).flags ∧ r.file = (split1 r p).file ∧ r.index = (split1 r p).index ∧ p = (split2 r p).start ∧ i64.wrap (r.pages - i64.wrap (p - r.start)) = (split2 r p).pages ∧ r.prot = (split2 r p).prot ∧ i64.wrap ↑(BitVec.ofInt i64.bits r.flags &&& ~~~BitVec.ofInt i64.bits (2 : Int)).toNat = (split2 r p).flags ∧ r.file = (split2 r p).file ∧ r.index = (split2 r p).index ∧ (0 : Int) = splitE r p ∧ True))))) := by kernel_rfl
theorem splitR_ps (r : Rg) (p : Int) : PS Try.prog 105 [r.v, .int .i64 p] (.tup [(split1 r p).v, (split2 r p).v, .int .i64 (splitE r p)]) := by
  refine .of_vcN mixedA tabA splitR_ok (by repeat' (first | exact trivial | exact Rg.pur _ | exact Pur.int | refine And.intro ?_ ?_)) (splitR_vc r p) ?_
  try simp only [split1, split2, splitE, splitK, splitOK, zR, splitL, splitH, w64]
  repeat' (first | exact chkR_ps r _ | exact endR_ps r _ | refine And.intro ?_ ?_ | (intro h_; first | (cases h_; done) | rw [h_] | (simp only [Bool.not_eq_true', Bool.not_eq_false'] at h_; rw [h_]) | skip))
  all_goals (first | exact trivial | exact Nat.le_refl _ | (simp only [bsm]; done) | exact Nat.le_of_ble_eq_true (Eq.refl true))
end Go.Proofs.Ytalcipbagidbpaa
end

section
set_option linter.unusedVariables false
namespace Go.Proofs.Ytalcipbagidbpaa
open Go.Proofs
/-- A list of regions, as a value that nobody writes. -/
def Lv (l : List Rg) : GV := .im l.length (RL l)
def cutA (p c : Int) : Bool := decide (p < 0) || decide (p > 512) || decide (c > w64 (512 - p))
def cutE (r : Rg) (p c : Int) : Int := bif chkR r != 0 then chkR r else bif decide (c < 1) then 1 else bif cutA p c then 2 else 0
def cutO (r : Rg) (p c : Int) : Bool := decide (p ≥ endR r) || decide (w64 (p + c) ≤ r.start)
def cutL (r : Rg) (p c : Int) : List Rg :=
  bif chkR r != 0 then [] else bif decide (c < 1) then [] else bif cutA p c then [] else bif cutO r p c then [r] else
  (bif splitE r p == 0 then [split1 r p] else []) ++ (bif splitE r (w64 (p + c)) == 0 then [split2 r (w64 (p + c))] else [])
theorem cutR_ok : FnOK Try.prog 64 Try.f64 (bodyOf Try.f64) := ⟨Try.func64, rfl, rfl⟩
open Go.IntKind GV Ent in
theorem cutR_vc (r : Rg) (p c : Int) : vc Try.prog TA none [] [(17, tl (.int .i64 (chkR r))), (37, tl (.int .i64 (endR r))), (52, tl (.tup [(split1 r p).v, (split2 r p).v, .int .i64 (splitE r p)])), (67, tl (.tup [(split1 r (w64 (p + c))).v, (split2 r (w64 (p + c))).v, .int .i64 (splitE r (w64 (p + c)))]))] (bodyOf Try.f64) ⟨startT Try.f64 [r.v, .int .i64 p, .int .i64 c], []⟩ (Fin TA Try.f64 (.tup [Lv (cutL r p c), .int .i64 (cutE r p c)])) = (CallSem Try.prog 51 [r.v] [] 1 (int i64 (chkR r)) [] [] ∧ ((chkR r != (0 : Int)) = true → ((cutL r p c).length = (0 : Nat) ∧ RL (cutL r p c) = []) ∧ chkR r = cutE r p c ∧ True) ∧ ((chkR r != (0 : Int)) = false → (decide (c < (1 : Int)) = true → ((cutL r p c).length = (0 : Nat) ∧ RL (cutL r p c) = []) ∧ (1 : Int) = cutE r p c ∧ True) ∧ (decide (c < (1 : Int)) = false → (decide (p < (0 : Int)) = true → ((cutL r p c).length = (0 : Nat) ∧ RL (cutL r p c) = []) ∧ (2 : Int) = cutE r p c ∧ True) ∧ (decide (p < (0 : Int)) = false → (decide (p > (512 : Int)) = true → ((cutL r p c).length = (0 : Nat) ∧ RL (cutL r p c) = []) ∧ (2 : Int) = cutE r p c ∧ True) ∧ (decide (p > (512 : Int)) = false → (decide (c > i64.wrap ((512 : Int) - p)) = true → ((cutL r p c).length = (0 : Nat) ∧ RL (cutL r p c) = []) ∧ (2 : Int) = cutE r p c ∧ True) ∧ (decide (c > i64.wrap ((512 : Int) - p)) = false → CallSem Try.prog 97 [r.v] [] 1 (int i64 (endR r)) [] [] ∧ (decide (p ≥ endR r) = true → (1 : Nat) = (cutL r p c).length ∧ 6 ≤ 6 ∧ [int i64 r.start, int i64 r.pages, int i64 r.prot, int i64 r.flags, int i64 r.file, int i64 r.index] = RL (cutL r p c) ∧ PurL (RL (cutL r p c)) ∧ (0 : Int) = cutE r p c ∧ True) ∧ (decide (p ≥ endR r) = false → (decide (i64.wrap (p + c) ≤ r.start) = true → (1 : Nat) = (cutL r p c).length ∧ 6 ≤ 6 ∧ [int i64 r.start, int i64 r.pages, int i64 r.prot, int i64 r.flags, int i64 r.file, int i64 r.index] = RL (cutL r p c) ∧ PurL (RL (cutL r p c)) ∧ (0 : Int) = cutE r p c ∧ True) ∧ (decide (i64.wrap (p + c) ≤ r.start) = false → CallSem Try.prog 105 [r.v, int i64 p] [] 1 (tup [(split1 r p).v, (split2 r p).v, int i64 (splitE r p)]) [] [] ∧ 6 = 6 ∧ true = true ∧ 6 ≤ 6 ∧ 6 = 6 ∧ true = true ∧ 6 ≤ 6 ∧ ((splitE r p == (0 : Int)) = true → 6 ≤ 6 ∧ 1 ≤ 1073741824 ∧ true = true ∧ ((0 : Nat) < (6 : Nat) ∧ 48 ≤ 65536) ∧ CallSem Try.prog 105 [r.v, int i64 (i64.wrap (p + c))] [] 5 (tup [(split1 r (w64 (p + c))).v, (split2 r (w64 (p + c))).v, int i64 (splitE r (w64 (p + c)))]) [] [] ∧ 6 = 6 ∧ true = true ∧ 6 ≤ 6 ∧ 6 = 6 ∧ true = true ∧ 6 ≤ 6 ∧ ((splitE r (w64 (p + c)) == (0 : Int)) = true → 6 ≤ 6 ∧ 23 = 23 ∧ 6 ≤ 6 ∧ 2 ≤ 1073741824 ∧ true = true ∧ true = true ∧ ((0 : Nat) < (6 : Nat) ∧ 48 ≤ 65536) ∧ (2 : Nat) = (cutL r p c).length ∧ 12 ≤ 12 ∧ [int i64 (split1 r p).start, int i64 (split1 r p).pages, int i64 (split1 r p).prot, int i64 (split1 r p).flags, int i64 (split1 r p).file, int i64 (split1 r p).index, int i64 (split2 r (w64 (p + c))).start, int i64 (split2 r (w64 (p + c))).pages, int i64 (split2 r (w64 (p + c))).prot, int i64 (split2 r (w64 (p + c))).flags, int i64 (split2 r (w64 (p + c))).file, int i64 (split2 r (w64 (p + c))).index] = RL (cutL r p c) ∧ PurL (RL (cutL r p c)) ∧ (0 : Int) = cutE r p c ∧ True) ∧ ((splitE r (w64 (p + c)) == (0 : Int)) = false → (1 : Nat) = (cutL r p c).length ∧ 6 ≤ 6 ∧ [int i64 (split1 r p).start, int i64 (split1 r p).pages, int i64 (split1 r p).prot, int i64 (split1 r p).flags, int i64 (split1 r p).file, int i64 (split1 r p).index] = RL (cutL r p c) ∧ PurL (RL (cutL r p c)) ∧ (0 : Int) = cutE r p c ∧ True)) ∧ ((splitE r p == (0 : Int)) = false → CallSem Try.prog 105 [r.v, int i64 (i64.wrap (p + c))] [] 3 (tup [(split1 r (w64 (p + c))).v, (split2 r (w64 (p + c))).v, int i64 (splitE r (w64 (p + c)))]) [] [] ∧ 6 = 6 ∧ true = true ∧ 6 ≤ 6 ∧ 6 = 6 ∧ true = true ∧ 6 ≤ 6 ∧ ((splitE r (w64 (p + c)) == (0 : Int)) = true → 6 ≤ 6 ∧ 1 ≤ 1073741824 ∧ true = true ∧ ((0 : Nat) < (6 : Nat) ∧ 48 ≤ 65536) ∧ (1 : Nat) = (cutL r p c).length ∧ 6 ≤ 6 ∧ [int i64 (split2 r (w64 (p + c))).start, int i64 (split2 r (w64 (p + c))).pages, int i64 (split2 r (w64 (p + c))).prot, int i64 (split2 r (w64 (p + c))).flags, int i64 (split2 r (w64 (p + c))).file, int i64 (split2 r (w64 (p + c))).index] = RL (cutL r p c) ∧ PurL (RL (cutL r p c)) ∧ (0 : Int) = cutE r p c ∧ True) ∧ ((splitE r (w64 (p + c)) == (0 : Int)) = false → ((cutL r p c).length = (0 : Nat) ∧ RL (cutL r p c) = []) ∧ (0 : Int) = cutE r p c ∧ True)))))))))) := by kernel_rfl
theorem cutR_ps (r : Rg) (p c : Int) : PS Try.prog 64 [r.v, .int .i64 p, .int .i64 c] (.tup [Lv (cutL r p c), .int .i64 (cutE r p c)]) := by
  refine .of_vcN mixedA tabA cutR_ok (by repeat' (first | exact trivial | exact Rg.pur _ | exact Pur.int | refine And.intro ?_ ?_)) (cutR_vc r p c) ?_
  try simp only [cutL, cutE, cutO, cutA, RL, w64]
  repeat' (first | exact chkR_ps r _ | exact endR_ps r _ | exact splitR_ps r p _ | exact splitR_ps r (w64 (p + c)) _ | exact RL_pur _ | refine And.intro ?_ ?_ | (intro h_; first | (cases h_; done) | rw [h_] | (simp only [Bool.not_eq_true', Bool.not_eq_false'] at h_; rw [h_]) | skip))
  all_goals (first | exact trivial | exact Nat.le_refl _ | (simp only [bsm]; done) | (simp only [bsm]; exact rfl) | exact Nat.le_of_ble_eq_true (Eq.refl true))
end Go.Proofs.Ytalcipbagidbpaa
end

section
set_option linter.unusedVariables false
namespace Go.Proofs.Ytalcipbagidbpaa
open Go.Proofs
def noneF (t : Tr) : Bool := t.h == 0 && (t.f == 0 && (t.l == 0 && (t.g == 0 && (decide ([t.r.start, t.r.pages, t.r.prot, t.r.flags, t.r.file, t.r.index] = [0, 0, 0, 0, 0, 0]) && ((t.kids.length : Int) == 0)))))
theorem none_ok : FnOK Try.prog 129 Try.f129 (bodyOf Try.f129) := ⟨Try.func129, rfl, rfl⟩
theorem none_vc (t : Tr) : vc Try.prog TA none [] [] (bodyOf Try.f129) ⟨startT Try.f129 [t.v], []⟩ (Fin TA Try.f129 (.bool (noneF t))) = (((t.h == 0) = true → ((t.f == 0) = true → ((t.l == 0) = true → ((t.g == 0) = true → (decide ([t.r.start, t.r.pages, t.r.prot, t.r.flags, t.r.file, t.r.index] = [(0 : Int), (0 : Int), (0 : Int), (0 : Int), (0 : Int), (0 : Int)]) = true → (↑t.kids.length == (0 : Int)) = noneF t ∧ True) ∧ (decide ([t.r.start, t.r.pages, t.r.prot, t.r.flags, t.r.file, t.r.index] = [(0 : Int), (0 : Int), (0 : Int), (0 : Int), (0 : Int), (0 : Int)]) = false → false = noneF t ∧ True)) ∧ ((t.g == 0) = false → false = noneF t ∧ True)) ∧ ((t.l == 0) = false → false = noneF t ∧ True)) ∧ ((t.f == 0) = false → false = noneF t ∧ True)) ∧ ((t.h == 0) = false → false = noneF t ∧ True)) := by kernel_rfl
theorem none_ps (t : Tr) : PS Try.prog 129 [t.v] (.bool (noneF t)) := by
  refine .of_vcN mixedA tabA none_ok (by repeat' (first | exact trivial | exact Tr.pur _ | refine And.intro ?_ ?_)) (none_vc t) ?_
  try simp only [noneF]
  repeat' (first | refine And.intro ?_ ?_ | (intro h_; first | (cases h_; done) | rw [h_] | (simp only [Bool.not_eq_true', Bool.not_eq_false'] at h_; rw [h_]) | skip))
  all_goals (first | exact trivial | (simp only [bsm]; done))
def formedF : Tr → Bool
  | .mk h f l g x [a, b] => bif h == 0 then noneF (.mk h f l g x [a, b]) else (formedF a && formedF b)
  | t => bif t.h == 0 then noneF t else false
theorem formedF_two (h f l g : Int) (x : Rg) (a b : Tr) : formedF (.mk h f l g x [a, b]) = bif h == 0 then noneF (.mk h f l g x [a, b]) else (formedF a && formedF b) := by rw [formedF]
theorem formedF_else (t : Tr) (hk : ∀ a b, t.kids ≠ [a, b]) : formedF t = bif t.h == 0 then noneF t else false := by
  cases t with
  | mk h f l g x k => rw [formedF]; rintro h f l g x a b e; simp only [Tr.mk.injEq] at e; exact hk a b e.2.2.2.2.2
theorem formed_ok : FnOK Try.prog 108 Try.f108 (bodyOf Try.f108) := ⟨Try.func108, rfl, rfl⟩
open Go.IntKind GV Ent in
theorem formed_vc (t : Tr) : vc Try.prog TA none [] [(7, tl (.bool (noneF t))), (16, .dead)] (bodyOf Try.f108) ⟨startT Try.f108 [t.v], []⟩ (Fin TA Try.f108 (.bool (formedF t))) = (((t.h == 0) = true → CallSem Try.prog 129 [t.v] [] 1 (bool (noneF t)) [] [] ∧ noneF t = formedF t ∧ True) ∧ ((t.h == 0) = false → ((↑t.kids.length == (2 : Int)) = true → ((0 : Int) ≤ (0 : Int) ∧ (0 : Int) < ↑t.kids.length) ∧ t.K.length = t.kids.length * 11 ∧ Stuck (16 : Nat)) ∧ ((↑t.kids.length == (2 : Int)) = false → false = formedF t ∧ True))) := by kernel_rfl
theorem formed_ps (t : Tr) (hk : ∀ a b, t.kids ≠ [a, b]) : PS Try.prog 108 [t.v] (.bool (formedF t)) := by
  have hl : ((t.kids.length : Int) == 2) = false := by rcases h : t.kids with _ | ⟨a, _ | ⟨b, _ | _⟩⟩ <;> first | rfl | exact (hk _ _ h).elim | (simp; omega)
  refine .of_vcN mixedA tabA formed_ok (by repeat' (first | exact trivial | exact Tr.pur _ | refine And.intro ?_ ?_)) (formed_vc t) ?_
  try rw [hl]
  try simp only [formedF_else t hk]
  repeat' (first | exact none_ps t _ | refine And.intro ?_ ?_ | (intro h_; first | (cases h_; done) | rw [h_] | (simp only [Bool.not_eq_true', Bool.not_eq_false'] at h_; rw [h_]) | skip))
  all_goals (first | exact trivial | (simp only [bsm]; done))
open Go.IntKind GV Ent in
theorem formed2_vc (h f l g : Int) (x : Rg) (a b : Tr) : vc Try.prog TA none [] [(7, tl (.bool (noneF (.mk h f l g x [a, b])))), (17, tl (.bool (formedF a))), (24, tl (.bool (formedF b)))] (bodyOf Try.f108) ⟨startT Try.f108 [(Tr.mk h f l g x [a, b]).v], []⟩ (Fin TA Try.f108 (.bool (formedF (.mk h f l g x [a, b])))) = (((h == (0 : Int)) = true → CallSem Try.prog 129 [agg [int i64 h, int i64 f, int i64 l, int i64 g, int i64 x.start, int i64 x.pages, int i64 x.prot, int i64 x.flags, int i64 x.file, int i64 x.index, im 2 [int i64 a.h, int i64 a.f, int i64 a.l, int i64 a.g, int i64 a.r.start, int i64 a.r.pages, int i64 a.r.prot, int i64 a.r.flags, int i64 a.r.file, int i64 a.r.index, im a.kids.length a.K, int i64 b.h, int i64 b.f, int i64 b.l, int i64 b.g, int i64 b.r.start, int i64 b.r.pages, int i64 b.r.prot, int i64 b.r.flags, int i64 b.r.file, int i64 b.r.index, im b.kids.length b.K]]] [] 1 (bool (noneF (Tr.mk h f l g x [a, b]))) [] [] ∧ noneF (Tr.mk h f l g x [a, b]) = formedF (Tr.mk h f l g x [a, b]) ∧ True) ∧ ((h == (0 : Int)) = false → (true = true → ((0 : Int) ≤ (0 : Int) ∧ (0 : Int) < ↑(2 : Nat)) ∧ 22 = 22 ∧ CallSem Try.prog 108 [a.v] [] 1 (bool (formedF a)) [] [] ∧ (formedF a = true → ((0 : Int) ≤ (1 : Int) ∧ (1 : Int) < ↑(2 : Nat)) ∧ 22 = 22 ∧ CallSem Try.prog 108 [b.v] [] 1 (bool (formedF b)) [] [] ∧ formedF b = formedF (Tr.mk h f l g x [a, b]) ∧ True) ∧ (formedF a = false → false = formedF (Tr.mk h f l g x [a, b]) ∧ True)) ∧ (true = false → false = formedF (Tr.mk h f l g x [a, b]) ∧ True))) := by kernel_rfl
theorem formed2_ps (h f l g : Int) (x : Rg) (a b : Tr) (ha : PS Try.prog 108 [a.v] (.bool (formedF a))) (hb : PS Try.prog 108 [b.v] (.bool (formedF b))) : PS Try.prog 108 [(Tr.mk h f l g x [a, b]).v] (.bool (formedF (.mk h f l g x [a, b]))) := by
  refine .of_vcN mixedA tabA formed_ok (by repeat' (first | exact trivial | exact Tr.pur _ | refine And.intro ?_ ?_)) (formed2_vc h f l g x a b) ?_
  try simp only [formedF_two]
  repeat' (first | exact none_ps (.mk h f l g x [a, b]) _ | exact ha _ | exact hb _ | refine And.intro ?_ ?_ | (intro h_; first | (cases h_; done) | rw [h_] | (simp only [Bool.not_eq_true', Bool.not_eq_false'] at h_; rw [h_]) | skip))
  all_goals (first | exact trivial | (simp only [bsm]; done) | (simp [RL_length, RL_takeL, RL_append, RL, formedF_two, bsm]; done))
theorem formedA_ps (t : Tr) : PS Try.prog 108 [t.v] (.bool (formedF t)) := by
  induction t using Tr.ind with
  | h t ih => 
    by_cases hk : ∃ a b, t.kids = [a, b]
    · obtain ⟨a, b, hk⟩ := hk
      cases t with
      | mk h f l g x k =>
        cases (hk : k = [a, b])
        exact formed2_ps h f l g x a b (ih a (by simp [Tr.kids])) (ih b (by simp [Tr.kids]))
    · exact formed_ps t fun a b e => hk ⟨a, b, e⟩
end Go.Proofs.Ytalcipbagidbpaa
end

section
set_option linter.unusedVariables false
namespace Go.Proofs.Ytalcipbagidbpaa
open Go.Proofs
def zT : Tr := .mk 0 0 0 0 zR []
def Two (t : Tr) : Prop := ∃ a b, t.kids = [a, b]
def k0 (t : Tr) : Tr := match t.kids with | [a, _] => a | _ => zT
def k1 (t : Tr) : Tr := match t.kids with | [_, b] => b | _ => zT
theorem parts_two (t : Tr) (h : Two t) : PS Try.prog 124 [t.v] (.tup [(k0 t).v, t.r.v, (k1 t).v]) := by
  obtain ⟨a, b, hk⟩ := h
  cases t with
  | mk h f l g x k =>
    cases (hk : k = [a, b])
    exact parts_ps h f l g x a b
def joinF (l : Tr) (x : Rg) (r : Tr) : Tr :=
  bif decide (l.h > w64 (r.h + 1)) then
    (bif decide ((k0 l).h ≥ (k1 l).h) then nodeF (k0 l) l.r (nodeF (k1 l) x r) else nodeF (nodeF (k0 l) l.r (k0 (k1 l))) (k1 l).r (nodeF (k1 (k1 l)) x r))
  else bif decide (r.h > w64 (l.h + 1)) then
    (bif decide ((k1 r).h ≥ (k0 r).h) then nodeF (nodeF l x (k0 r)) r.r (k1 r) else nodeF (nodeF l x (k0 (k0 r))) (k0 r).r (nodeF (k1 (k0 r)) r.r (k1 r)))
  else nodeF l x r
def JoinOK (l r : Tr) : Prop := (decide (l.h > w64 (r.h + 1)) = true → Two l ∧ (decide ((k0 l).h ≥ (k1 l).h) = false → Two (k1 l))) ∧
  (decide (l.h > w64 (r.h + 1)) = false → decide (r.h > w64 (l.h + 1)) = true → Two r ∧ (decide ((k1 r).h ≥ (k0 r).h) = false → Two (k0 r)))
theorem join_ok : FnOK Try.prog 134 Try.f134 (bodyOf Try.f134) := ⟨Try.func134, rfl, rfl⟩
open Go.IntKind GV Ent in
theorem join_vc (l : Tr) (x : Rg) (r : Tr) : vc Try.prog TA none [] [(28, tl (.tup [(k0 l).v, l.r.v, (k1 l).v])), (46, tl (.tup [(k0 (k1 l)).v, (k1 l).r.v, (k1 (k1 l)).v])), (69, tl (.tup [(k0 r).v, r.r.v, (k1 r).v])), (87, tl (.tup [(k0 (k0 r)).v, (k0 r).r.v, (k1 (k0 r)).v])), (42, tl (nodeF (k1 l) x r).v), (43, tl (nodeF (k0 l) l.r (nodeF (k1 l) x r)).v), (53, tl (nodeF (k0 l) l.r (k0 (k1 l))).v), (58, tl (nodeF (k1 (k1 l)) x r).v), (59, tl (nodeF (nodeF (k0 l) l.r (k0 (k1 l))) (k1 l).r (nodeF (k1 (k1 l)) x r)).v), (81, tl (nodeF l x (k0 r)).v), (84, tl (nodeF (nodeF l x (k0 r)) r.r (k1 r)).v), (94, tl (nodeF l x (k0 (k0 r))).v), (99, tl (nodeF (k1 (k0 r)) r.r (k1 r)).v), (100, tl (nodeF (nodeF l x (k0 (k0 r))) (k0 r).r (nodeF (k1 (k0 r)) r.r (k1 r))).v), (104, tl (nodeF l x r).v)] (bodyOf Try.f134) ⟨startT Try.f134 [l.v, x.v, r.v], []⟩ (Fin TA Try.f134 ((joinF l x r).v)) = ((decide (l.h > i64.wrap (r.h + (1 : Int))) = true → CallSem Try.prog 124 [l.v] [] 4 (tup [(k0 l).v, l.r.v, (k1 l).v]) [] [] ∧ 11 = 11 ∧ true = true ∧ 11 ≤ 11 ∧ 6 = 6 ∧ true = true ∧ 6 ≤ 6 ∧ 11 = 11 ∧ true = true ∧ 11 ≤ 11 ∧ (decide ((k0 l).h ≥ (k1 l).h) = true → CallSem Try.prog 131 [(k1 l).v, x.v, r.v] [] 7 ((nodeF (k1 l) x r).v) [] [] ∧ CallSem Try.prog 131 [(k0 l).v, l.r.v, (nodeF (k1 l) x r).v] [] 7 ((nodeF (k0 l) l.r (nodeF (k1 l) x r)).v) [] [] ∧ 11 = 11 ∧ true = true ∧ 11 ≤ 11 ∧ (nodeF (k0 l) l.r (nodeF (k1 l) x r)).h = (joinF l x r).h ∧ (nodeF (k0 l) l.r (nodeF (k1 l) x r)).f = (joinF l x r).f ∧ (nodeF (k0 l) l.r (nodeF (k1 l) x r)).l = (joinF l x r).l ∧ (nodeF (k0 l) l.r (nodeF (k1 l) x r)).g = (joinF l x r).g ∧ (nodeF (k0 l) l.r (nodeF (k1 l) x r)).r.start = (joinF l x r).r.start ∧ (nodeF (k0 l) l.r (nodeF (k1 l) x r)).r.pages = (joinF l x r).r.pages ∧ (nodeF (k0 l) l.r (nodeF (k1 l) x r)).r.prot = (joinF l x r).r.prot ∧ (nodeF (k0 l) l.r (nodeF (k1 l) x r)).r.flags = (joinF l x r).r.flags ∧ (nodeF (k0 l) l.r (nodeF (k1 l) x r)).r.file = (joinF l x r).r.file ∧ (nodeF (k0 l) l.r (nodeF (k1 l) x r)).r.index = (joinF l x r).r.index ∧ (nodeF (k0 l) l.r (nodeF (k1 l) x r)).kids.length = (joinF l x r).kids.length ∧ (nodeF (k0 l) l.r (nodeF (k1 l) x r)).K = (joinF l x r).K ∧ PurL (nodeF (k0 l) l.r (nodeF (k1 l) x r)).K ∧ True) ∧ (decide ((k0 l).h ≥ (k1 l).h) = false → CallSem Try.prog 124 [(k1 l).v] [] 7 (tup [(k0 (k1 l)).v, (k1 l).r.v, (k1 (k1 l)).v]) [] [] ∧ 11 = 11 ∧ true = true ∧ 11 ≤ 11 ∧ 6 = 6 ∧ true = true ∧ 6 ≤ 6 ∧ 11 = 11 ∧ true = true ∧ 11 ≤ 11 ∧ CallSem Try.prog 131 [(k0 l).v, l.r.v, (k0 (k1 l)).v] [] 10 ((nodeF (k0 l) l.r (k0 (k1 l))).v) [] [] ∧ CallSem Try.prog 131 [(k1 (k1 l)).v, x.v, r.v] [] 10 ((nodeF (k1 (k1 l)) x r).v) [] [] ∧ CallSem Try.prog 131 [(nodeF (k0 l) l.r (k0 (k1 l))).v, (k1 l).r.v, (nodeF (k1 (k1 l)) x r).v] [] 10 ((nodeF (nodeF (k0 l) l.r (k0 (k1 l))) (k1 l).r (nodeF (k1 (k1 l)) x r)).v) [] [] ∧ 11 = 11 ∧ true = true ∧ 11 ≤ 11 ∧ (nodeF (nodeF (k0 l) l.r (k0 (k1 l))) (k1 l).r (nodeF (k1 (k1 l)) x r)).h = (joinF l x r).h ∧ (nodeF (nodeF (k0 l) l.r (k0 (k1 l))) (k1 l).r (nodeF (k1 (k1 l)) x r)).f = (joinF l x r).f ∧ (nodeF (nodeF (k0 l) l.r (k0 (k1 l))) (k1 l).r (nodeF (k1 (k1 l)) x r)).l = (joinF l x r).l ∧ (nodeF (nodeF (k0 l) l.r (k0 (k1 l))) (k1 l).r (nodeF (k1 (k1 l)) x r)).g = (joinF l x r).g ∧ (nodeF (nodeF (k0 l) l.r (k0 (k1 l))) (k1 l).r (nodeF (k1 (k1 l)) x r)).r.start = (joinF l x r).r.start ∧ (nodeF (nodeF (k0 l) l.r (k0 (k1 l))) (k1 l).r (nodeF (k1 (k1 l)) x r)).r.pages = (joinF l x r).r.pages ∧ (nodeF (nodeF (k0 l) l.r (k0 (k1 l))) (k1 l).r (nodeF (k1 (k1 l)) x r)).r.prot = (joinF l x r).r.prot ∧ (nodeF (nodeF (k0 l) l.r (k0 (k1 l))) (k1 l).r (nodeF (k1 (k1 l)) x r)).r.flags = (joinF l x r).r.flags ∧ (nodeF (nodeF (k0 l) l.r (k0 (k1 l))) (k1 l).r (nodeF (k1 (k1 l)) x r)).r.file = (joinF l x r).r.file ∧ (nodeF (nodeF (k0 l) l.r (k0 (k1 l))) (k1 l).r (nodeF (k1 (k1 l)) x r)).r.index = (joinF l x r).r.index ∧ (nodeF (nodeF (k0 l) l.r (k0 (k1 l))) (k1 l).r (nodeF (k1 (k1 l)) x r)).kids.length = (joinF l x r).kids.length ∧ (nodeF (nodeF (k0 l) l.r (k0 (k1 l))) (k1 l).r (nodeF (k1 (k1 l)) x r)).K = (joinF l x r).K ∧ PurL (nodeF (nodeF (k0 l) l.r (k0 (k1 l))) (k1 l).r (nodeF (k1 (k1 l)) x r)).K ∧ True)) ∧ (decide (l.h > i64.wrap (r.h + (1 : Int))) = false → (decide (r.h > i64.wrap (l.h + (1 : Int))) = true → CallSem Try.prog 124 [r.v] [] 4 (tup [(k0 r).v, r.r.v, (k1 r).v]) [] [] ∧ 11 = 11 ∧ true = true ∧ 11 ≤ 11 ∧ 6 = 6 ∧ true = true ∧ 6 ≤ 6 ∧ 11 = 11 ∧ true = true ∧ 11 ≤ 11 ∧ (decide ((k1 r).h ≥ (k0 r).h) = true → CallSem Try.prog 131 [l.v, x.v, (k0 r).v] [] 7 ((nodeF l x (k0 r)).v) [] [] ∧ CallSem Try.prog 131 [(nodeF l x (k0 r)).v, r.r.v, (k1 r).v] [] 7 ((nodeF (nodeF l x (k0 r)) r.r (k1 r)).v) [] [] ∧ 11 = 11 ∧ true = true ∧ 11 ≤ 11 ∧ (nodeF (nodeF l x (k0 r)) r.r (k1 r)).h = (joinF l x r).h ∧ (nodeF (nodeF l x (k0 r)) r.r (k1 r)).f = (joinF l x r).f ∧ (nodeF (nodeF l x (k0 r)) r.r (k1 r)).l = (joinF l x r).l ∧ (nodeF (nodeF l x (k0 r)) r.r (k1 r)).g = (joinF l x r).g ∧ (nodeF (nodeF l x (k0 r)) r.r (k1 r)).r.start = (joinF l x r).r.start ∧ (nodeF (nodeF l x (k0 r)) r.r (k1 r)).r.pages = (joinF l x r).r.pages ∧ (nodeF (nodeF l x (k0 r)) r.r (k1 r)).r.prot = (joinF l x r).r.prot ∧ (nodeF (nodeF l x (k0 r)) r.r (k1 r)).r.flags = (joinF l x r).r.flags ∧ (nodeF (nodeF l x (k0 r)) r.r (k1 r)).r.file = (joinF l x r).r.file ∧ (nodeF (nodeF l x (k0 r)) r.r (k1 r)).r.index = (joinF l x r).r.index ∧ (nodeF (nodeF l x (k0 r)) r.r (k1 r)).kids.length = (joinF l x r).kids.length ∧ (nodeF (nodeF l x (k0 r)) r.r (k1 r)).K = (joinF l x r).K ∧ PurL (nodeF (nodeF l x (k0 r)) r.r (k1 r)).K ∧ True) ∧ (decide ((k1 r).h ≥ (k0 r).h) = false → CallSem Try.prog 124 [(k0 r).v] [] 7 (tup [(k0 (k0 r)).v, (k0 r).r.v, (k1 (k0 r)).v]) [] [] ∧ 11 = 11 ∧ true = true ∧ 11 ≤ 11 ∧ 6 = 6 ∧ true = true ∧ 6 ≤ 6 ∧ 11 = 11 ∧ true = true ∧ 11 ≤ 11 ∧ CallSem Try.prog 131 [l.v, x.v, (k0 (k0 r)).v] [] 10 ((nodeF l x (k0 (k0 r))).v) [] [] ∧ CallSem Try.prog 131 [(k1 (k0 r)).v, r.r.v, (k1 r).v] [] 10 ((nodeF (k1 (k0 r)) r.r (k1 r)).v) [] [] ∧ CallSem Try.prog 131 [(nodeF l x (k0 (k0 r))).v, (k0 r).r.v, (nodeF (k1 (k0 r)) r.r (k1 r)).v] [] 10 ((nodeF (nodeF l x (k0 (k0 r))) (k0 r).r (nodeF (k1 (k0 r)) r.r (k1 r))).v) [] [] ∧ 11 = 11 ∧ true = true ∧ 11 ≤ 11 ∧ (nodeF (nodeF l x (k0 (k0 r))) (k0 r).r (nodeF (k1 (k0 r)) r.r (k1 r))).h = (joinF l x r).h ∧ (nodeF (nodeF l x (k0 (k0 r))) (k0 r).r (nodeF (k1 (k0 r)) r.r (k1 r))).f = (joinF l x r).f ∧ (nodeF (nodeF l x (k0 (k0 r))) (k0 r).r (nodeF (k1 (k0 r)) r.r (k1 r))).l = (joinF l x r).l ∧ (nodeF (nodeF l x (k0 (k0 r))) (k0 r).r (nodeF (k1 (k0 r)) r.r (k1 r))).g = (joinF l x r).g ∧ (nodeF (nodeF l x (k0 (k0 r))) (k0 r).r (nodeF (k1 (k0 r)) r.r (k1 r))).r.start = (joinF l x r).r.start ∧ (nodeF (nodeF l x (k0 (k0 r))) (k0 r).r (nodeF (k1 (k0 r)) r.r (k1 r))).r.pages = (joinF l x r).r.pages ∧ (nodeF (nodeF l x (k0 (k0 r))) (k0 r).r (nodeF (k1 (k0 r)) r.r (k1 r))).r.prot = (joinF l x r).r.prot ∧ (nodeF (nodeF l x (k0 (k0 r))) (k0 r).r (nodeF (k1 (k0 r)) r.r (k1 r))).r.flags = (joinF l x r).r.flags ∧ (nodeF (nodeF l x (k0 (k0 r))) (k0 r).r (nodeF (k1 (k0 r)) r.r (k1 r))).r.file = (joinF l x r).r.file ∧ (nodeF (nodeF l x (k0 (k0 r))) (k0 r).r (nodeF (k1 (k0 r)) r.r (k1 r))).r.index = (joinF l x r).r.index ∧ (nodeF (nodeF l x (k0 (k0 r))) (k0 r).r (nodeF (k1 (k0 r)) r.r (k1 r))).kids.length = (joinF l x r).kids.length ∧ (nodeF (nodeF l x (k0 (k0 r))) (k0 r).r (nodeF (k1 (k0 r)) r.r (k1 r))).K = (joinF l x r).K ∧ PurL (nodeF (nodeF l x (k0 (k0 r))) (k0 r).r (nodeF (k1 (k0 r)) r.r (k1 r))).K ∧ True)) ∧ (decide (r.h > i64.wrap (l.h + (1 : Int))) = false → CallSem Try.prog 131 [l.v, x.v, r.v] [] 4 ((nodeF l x r).v) [] [] ∧ 11 = 11 ∧ true = true ∧ 11 ≤ 11 ∧ (nodeF l x r).h = (joinF l x r).h ∧ (nodeF l x r).f = (joinF l x r).f ∧ (nodeF l x r).l = (joinF l x r).l ∧ (nodeF l x r).g = (joinF l x r).g ∧ (nodeF l x r).r.start = (joinF l x r).r.start ∧ (nodeF l x r).r.pages = (joinF l x r).r.pages ∧ (nodeF l x r).r.prot = (joinF l x r).r.prot ∧ (nodeF l x r).r.flags = (joinF l x r).r.flags ∧ (nodeF l x r).r.file = (joinF l x r).r.file ∧ (nodeF l x r).r.index = (joinF l x r).r.index ∧ (nodeF l x r).kids.length = (joinF l x r).kids.length ∧ (nodeF l x r).K = (joinF l x r).K ∧ PurL (nodeF l x r).K ∧ True))) := by kernel_rfl
theorem join_ps (l : Tr) (x : Rg) (r : Tr) (hJ : JoinOK l r) : PS Try.prog 134 [l.v, x.v, r.v] ((joinF l x r).v) := by
  refine .of_vcN mixedA tabA join_ok (by repeat' (first | exact trivial | exact Rg.pur _ | exact Tr.pur _ | refine And.intro ?_ ?_)) (join_vc l x r) ?_
  try simp only [joinF]
  repeat' (first | exact parts_two l (hJ.1 (by assumption)).1 _ | exact parts_two (k1 l) ((hJ.1 (by assumption)).2 (by assumption)) _ | exact parts_two r (hJ.2 (by assumption) (by assumption)).1 _ | exact parts_two (k0 r) ((hJ.2 (by assumption) (by assumption)).2 (by assumption)) _ | exact node_ps (k1 l) x r _ | exact node_ps (k0 l) l.r (nodeF (k1 l) x r) _ | exact node_ps (k0 l) l.r (k0 (k1 l)) _ | exact node_ps (k1 (k1 l)) x r _ | exact node_ps (nodeF (k0 l) l.r (k0 (k1 l))) (k1 l).r (nodeF (k1 (k1 l)) x r) _ | exact node_ps l x (k0 r) _ | exact node_ps (nodeF l x (k0 r)) r.r (k1 r) _ | exact node_ps l x (k0 (k0 r)) _ | exact node_ps (k1 (k0 r)) r.r (k1 r) _ | exact node_ps (nodeF l x (k0 (k0 r))) (k0 r).r (nodeF (k1 (k0 r)) r.r (k1 r)) _ | exact node_ps l x r _ | exact Tr.purK _ | refine And.intro ?_ ?_ | (intro h_; first | (cases h_; done) | rw [h_] | (simp only [Bool.not_eq_true', Bool.not_eq_false'] at h_; rw [h_]) | skip))
  all_goals (first | exact trivial | exact Nat.le_refl _ | (simp only [bsm]; done))
def zG : GV := .agg [zi, zi, zi, zi, zi, zi, zi, zi, zi, zi, .nils]
theorem zG_pur : Pur zG := .agg fun c hc => by
  simp only [List.mem_cons, List.not_mem_nil, or_false] at hc
  rcases hc with rfl | rfl | rfl | rfl | rfl | rfl | rfl | rfl | rfl | rfl | rfl
  all_goals first | exact .int | exact .nils
open Go.IntKind GV Ent in
theorem nodeZ_vc (x : Rg) : vc Try.prog TA none [] [(17, tl (.int .i64 x.end)), (54, tl (.int .i64 x.end))] (bodyOf Try.f131) ⟨startT Try.f131 [zG, x.v, zG], []⟩ (Fin TA Try.f131 ((nodeF zT x zT).v)) = (CallSem Try.prog 112 [x.v] [] 4 (int i64 x.end) [] [] ∧ 11 = 11 ∧ true = true ∧ 11 ≤ 11 ∧ (false = true → 1 = 1 ∧ true = true ∧ 2 ≤ 11 ∧ 1 = 1 ∧ true = true ∧ 4 ≤ 11 ∧ (false = true → 1 = 1 ∧ true = true ∧ 3 ≤ 11 ∧ CallSem Try.prog 112 [x.v] [] 6 (int i64 x.end) [] [] ∧ 1 = 1 ∧ true = true ∧ 4 ≤ 11 ∧ 11 = 11 ∧ true = true ∧ 11 ≤ 11 ∧ (nodeF zT x zT).h = (nodeF zT x zT).h ∧ 0 = (nodeF zT x zT).f ∧ 0 = (nodeF zT x zT).l ∧ (if i64.wrap ((0 : Int) - x.end) > if i64.wrap (x.start - (0 : Int)) > if (0 : Int) > (0 : Int) then (0 : Int) else (0 : Int) then i64.wrap (x.start - (0 : Int)) else if (0 : Int) > (0 : Int) then (0 : Int) else (0 : Int) then i64.wrap ((0 : Int) - x.end) else if i64.wrap (x.start - (0 : Int)) > if (0 : Int) > (0 : Int) then (0 : Int) else (0 : Int) then i64.wrap (x.start - (0 : Int)) else if (0 : Int) > (0 : Int) then (0 : Int) else (0 : Int)) = (nodeF zT x zT).g ∧ x.start = x.start ∧ x.pages = x.pages ∧ x.prot = x.prot ∧ x.flags = x.flags ∧ x.file = x.file ∧ x.index = x.index ∧ 2 = 2 ∧ (0 : Int) = (0 : Int) ∧ (0 : Int) = (0 : Int) ∧ (0 : Int) = (0 : Int) ∧ (0 : Int) = (0 : Int) ∧ (0 : Int) = (0 : Int) ∧ (0 : Int) = (0 : Int) ∧ (0 : Int) = (0 : Int) ∧ (0 : Int) = (0 : Int) ∧ (0 : Int) = (0 : Int) ∧ (0 : Int) = (0 : Int) ∧ (0 = 0 ∧ ([] : List GV) = []) ∧ (0 : Int) = (0 : Int) ∧ (0 : Int) = (0 : Int) ∧ (0 : Int) = (0 : Int) ∧ (0 : Int) = (0 : Int) ∧ (0 : Int) = (0 : Int) ∧ (0 : Int) = (0 : Int) ∧ (0 : Int) = (0 : Int) ∧ (0 : Int) = (0 : Int) ∧ (0 : Int) = (0 : Int) ∧ (0 : Int) = (0 : Int) ∧ (0 = 0 ∧ ([] : List GV) = []) ∧ True) ∧ (false = false → 11 = 11 ∧ true = true ∧ 11 ≤ 11 ∧ (nodeF zT x zT).h = (nodeF zT x zT).h ∧ 0 = (nodeF zT x zT).f ∧ x.end = x.end ∧ (if i64.wrap (x.start - (0 : Int)) > if (0 : Int) > (0 : Int) then (0 : Int) else (0 : Int) then i64.wrap (x.start - (0 : Int)) else if (0 : Int) > (0 : Int) then (0 : Int) else (0 : Int)) = (nodeF zT x zT).g ∧ x.start = x.start ∧ x.pages = x.pages ∧ x.prot = x.prot ∧ x.flags = x.flags ∧ x.file = x.file ∧ x.index = x.index ∧ 2 = 2 ∧ (0 : Int) = (0 : Int) ∧ (0 : Int) = (0 : Int) ∧ (0 : Int) = (0 : Int) ∧ (0 : Int) = (0 : Int) ∧ (0 : Int) = (0 : Int) ∧ (0 : Int) = (0 : Int) ∧ (0 : Int) = (0 : Int) ∧ (0 : Int) = (0 : Int) ∧ (0 : Int) = (0 : Int) ∧ (0 : Int) = (0 : Int) ∧ (0 = 0 ∧ ([] : List GV) = []) ∧ (0 : Int) = (0 : Int) ∧ (0 : Int) = (0 : Int) ∧ (0 : Int) = (0 : Int) ∧ (0 : Int) = (0 : Int) ∧ (0 : Int) = (0 : Int) ∧ (0 : Int) = (0 : Int) ∧ (0 : Int) = (0 : Int) ∧ (0 : Int) = (0 : Int) ∧ (0 : Int) = (0 : Int) ∧ (0 : Int) = (0 : Int) ∧ (0 = 0 ∧ ([] : List GV) = []) ∧ True)) ∧ (false = false → (false = true → 1 = 1 ∧ true = true ∧ 3 ≤ 11 ∧ CallSem Try.prog 112 [x.v] [] 6 (int i64 x.end) [] [] ∧ 1 = 1 ∧ true = true ∧ 4 ≤ 11 ∧ 11 = 11 ∧ true = true ∧ 11 ≤ 11 ∧ (nodeF zT x zT).h = (nodeF zT x zT).h ∧ x.start = x.start ∧ 0 = (nodeF zT x zT).l ∧ (if i64.wrap ((0 : Int) - x.end) > if (0 : Int) > (0 : Int) then (0 : Int) else (0 : Int) then i64.wrap ((0 : Int) - x.end) else if (0 : Int) > (0 : Int) then (0 : Int) else (0 : Int)) = (nodeF zT x zT).g ∧ x.start = x.start ∧ x.pages = x.pages ∧ x.prot = x.prot ∧ x.flags = x.flags ∧ x.file = x.file ∧ x.index = x.index ∧ 2 = 2 ∧ (0 : Int) = (0 : Int) ∧ (0 : Int) = (0 : Int) ∧ (0 : Int) = (0 : Int) ∧ (0 : Int) = (0 : Int) ∧ (0 : Int) = (0 : Int) ∧ (0 : Int) = (0 : Int) ∧ (0 : Int) = (0 : Int) ∧ (0 : Int) = (0 : Int) ∧ (0 : Int) = (0 : Int) ∧ (0 : Int) = (0 : Int) ∧ (0 = 0 ∧ ([] : List GV) = []) ∧ (0 : Int) = (0 : Int) ∧ (0 : Int) = (0 : Int) ∧ (0 : Int) = (0 : Int) ∧ (0 : Int) = (0 : Int) ∧ (0 : Int) = (0 : Int) ∧ (0 : Int) = (0 : Int) ∧ (0 : Int) = (0 : Int) ∧ (0 : Int) = (0 : Int) ∧ (0 : Int) = (0 : Int) ∧ (0 : Int) = (0 : Int) ∧ (0 = 0 ∧ ([] : List GV) = []) ∧ True) ∧ (false = false → 11 = 11 ∧ true = true ∧ 11 ≤ 11 ∧ (nodeF zT x zT).h = (nodeF zT x zT).h ∧ x.start = x.start ∧ x.end = x.end ∧ (nodeF zT x zT).g = (nodeF zT x zT).g ∧ x.start = x.start ∧ x.pages = x.pages ∧ x.prot = x.prot ∧ x.flags = x.flags ∧ x.file = x.file ∧ x.index = x.index ∧ 2 = 2 ∧ (0 : Int) = (0 : Int) ∧ (0 : Int) = (0 : Int) ∧ (0 : Int) = (0 : Int) ∧ (0 : Int) = (0 : Int) ∧ (0 : Int) = (0 : Int) ∧ (0 : Int) = (0 : Int) ∧ (0 : Int) = (0 : Int) ∧ (0 : Int) = (0 : Int) ∧ (0 : Int) = (0 : Int) ∧ (0 : Int) = (0 : Int) ∧ (0 = 0 ∧ ([] : List GV) = []) ∧ (0 : Int) = (0 : Int) ∧ (0 : Int) = (0 : Int) ∧ (0 : Int) = (0 : Int) ∧ (0 : Int) = (0 : Int) ∧ (0 : Int) = (0 : Int) ∧ (0 : Int) = (0 : Int) ∧ (0 : Int) = (0 : Int) ∧ (0 : Int) = (0 : Int) ∧ (0 : Int) = (0 : Int) ∧ (0 : Int) = (0 : Int) ∧ (0 = 0 ∧ ([] : List GV) = []) ∧ True))) := by kernel_rfl
theorem nodeZ_ps (x : Rg) : PS Try.prog 131 [zG, x.v, zG] ((nodeF zT x zT).v) := by
  refine .of_vcN mixedA tabA node_ok (by repeat' (first | exact trivial | exact Rg.pur _ | exact zG_pur | refine And.intro ?_ ?_)) (nodeZ_vc x) ?_
  repeat' (first | exact end_ps x _ | refine And.intro ?_ ?_ | (intro h_; first | (cases h_; done) | rw [h_] | (simp only [Bool.not_eq_true', Bool.not_eq_false'] at h_; rw [h_]) | skip))
  all_goals (first | exact trivial | rfl | exact Nat.le_of_ble_eq_true (Eq.refl true))
def insF : Tr → Rg → Tr
  | .mk h f l g x [a, b], r => bif h == 0 then nodeF zT r zT else bif decide (r.start < x.start) then joinF (insF a r) x b else joinF a x (insF b r)
  | _, r => nodeF zT r zT
theorem insF_two (h f l g : Int) (x : Rg) (a b : Tr) (r : Rg) : insF (.mk h f l g x [a, b]) r = bif h == 0 then nodeF zT r zT else bif decide (r.start < x.start) then joinF (insF a r) x b else joinF a x (insF b r) := by rw [insF]
theorem insF_zero (t : Tr) (r : Rg) (h0 : (t.h == 0) = true) : insF t r = nodeF zT r zT := by
  cases t with
  | mk h f l g x k =>
    have h0 : (h == 0) = true := h0
    unfold insF
    split
    · simp_all
    · rfl
inductive InsOK (r : Rg) : Tr → Prop
  | zero {t : Tr} (h : (t.h == 0) = true) : InsOK r t
  | lt {h f l g : Int} {x : Rg} {a b : Tr} (h0 : (h == 0) = false) (hs : decide (r.start < x.start) = true) (ha : InsOK r a) (hj : JoinOK (insF a r) b) : InsOK r (.mk h f l g x [a, b])
  | ge {h f l g : Int} {x : Rg} {a b : Tr} (h0 : (h == 0) = false) (hs : decide (r.start < x.start) = false) (hb : InsOK r b) (hj : JoinOK a (insF b r)) : InsOK r (.mk h f l g x [a, b])
theorem ins_ok : FnOK Try.prog 126 Try.f126 (bodyOf Try.f126) := ⟨Try.func126, rfl, rfl⟩
open Go.IntKind GV Ent in
theorem ins_vc (t : Tr) (r : Rg) : vc Try.prog TA none [] [(14, tl (nodeF zT r zT).v), (17, .dead)] (bodyOf Try.f126) ⟨startT Try.f126 [t.v, r.v], []⟩ (Fin TA Try.f126 ((nodeF zT r zT).v)) = (((t.h == 0) = true → CallSem Try.prog 131 [agg [int i64 0, int i64 0, int i64 0, int i64 0, int i64 0, int i64 0, int i64 0, int i64 0, int i64 0, int i64 0, nils], r.v, agg [int i64 0, int i64 0, int i64 0, int i64 0, int i64 0, int i64 0, int i64 0, int i64 0, int i64 0, int i64 0, nils]] [] 3 ((nodeF zT r zT).v) [] [] ∧ 11 = 11 ∧ true = true ∧ 11 ≤ 11 ∧ (nodeF zT r zT).h = (nodeF zT r zT).h ∧ (nodeF zT r zT).f = (nodeF zT r zT).f ∧ (nodeF zT r zT).l = (nodeF zT r zT).l ∧ (nodeF zT r zT).g = (nodeF zT r zT).g ∧ (nodeF zT r zT).r.start = (nodeF zT r zT).r.start ∧ (nodeF zT r zT).r.pages = (nodeF zT r zT).r.pages ∧ (nodeF zT r zT).r.prot = (nodeF zT r zT).r.prot ∧ (nodeF zT r zT).r.flags = (nodeF zT r zT).r.flags ∧ (nodeF zT r zT).r.file = (nodeF zT r zT).r.file ∧ (nodeF zT r zT).r.index = (nodeF zT r zT).r.index ∧ (nodeF zT r zT).kids.length = (nodeF zT r zT).kids.length ∧ (nodeF zT r zT).K = (nodeF zT r zT).K ∧ PurL (nodeF zT r zT).K ∧ True) ∧ ((t.h == 0) = false → Stuck (17 : Nat))) := by kernel_rfl
theorem ins_ps (t : Tr) (r : Rg) (h0 : (t.h == 0) = true) : PS Try.prog 126 [t.v, r.v] ((nodeF zT r zT).v) := by
  refine .of_vcN mixedA tabA ins_ok (by repeat' (first | exact trivial | exact Rg.pur _ | exact Tr.pur _ | refine And.intro ?_ ?_)) (ins_vc t r) ?_
  try rw [h0]
  repeat' (first | exact nodeZ_ps r _ | exact Tr.purK _ | refine And.intro ?_ ?_ | (intro h_; first | (cases h_; done) | rw [h_] | (simp only [Bool.not_eq_true', Bool.not_eq_false'] at h_; rw [h_]) | skip))
  all_goals (first | exact trivial | with_reducible rfl | exact Nat.le_refl _)
open Go.IntKind GV Ent in
theorem insL_vc (h f l g : Int) (x : Rg) (a b : Tr) (r : Rg) : vc Try.prog TA none [] [(14, .dead), (17, tl (.tup [a.v, x.v, b.v])), (28, tl (insF a r).v), (31, tl (joinF (insF a r) x b).v), (36, .dead)] (bodyOf Try.f126) ⟨startT Try.f126 [(Tr.mk h f l g x [a, b]).v, r.v], []⟩ (Fin TA Try.f126 ((joinF (insF a r) x b).v)) = (((h == (0 : Int)) = true → Stuck (14 : Nat)) ∧ ((h == (0 : Int)) = false → CallSem Try.prog 124 [agg [int i64 h, int i64 f, int i64 l, int i64 g, int i64 x.start, int i64 x.pages, int i64 x.prot, int i64 x.flags, int i64 x.file, int i64 x.index, im 2 [int i64 a.h, int i64 a.f, int i64 a.l, int i64 a.g, int i64 a.r.start, int i64 a.r.pages, int i64 a.r.prot, int i64 a.r.flags, int i64 a.r.file, int i64 a.r.index, im a.kids.length a.K, int i64 b.h, int i64 b.f, int i64 b.l, int i64 b.g, int i64 b.r.start, int i64 b.r.pages, int i64 b.r.prot, int i64 b.r.flags, int i64 b.r.file, int i64 b.r.index, im b.kids.length b.K]]] [] 3 (tup [a.v, x.v, b.v]) [] [] ∧ 11 = 11 ∧ true = true ∧ 11 ≤ 11 ∧ 6 = 6 ∧ true = true ∧ 6 ≤ 6 ∧ 11 = 11 ∧ true = true ∧ 11 ≤ 11 ∧ (decide (r.start < x.start) = true → CallSem Try.prog 126 [a.v, r.v] [] 6 ((insF a r).v) [] [] ∧ CallSem Try.prog 134 [(insF a r).v, x.v, b.v] [] 6 ((joinF (insF a r) x b).v) [] [] ∧ 11 = 11 ∧ true = true ∧ 11 ≤ 11 ∧ (joinF (insF a r) x b).h = (joinF (insF a r) x b).h ∧ (joinF (insF a r) x b).f = (joinF (insF a r) x b).f ∧ (joinF (insF a r) x b).l = (joinF (insF a r) x b).l ∧ (joinF (insF a r) x b).g = (joinF (insF a r) x b).g ∧ (joinF (insF a r) x b).r.start = (joinF (insF a r) x b).r.start ∧ (joinF (insF a r) x b).r.pages = (joinF (insF a r) x b).r.pages ∧ (joinF (insF a r) x b).r.prot = (joinF (insF a r) x b).r.prot ∧ (joinF (insF a r) x b).r.flags = (joinF (insF a r) x b).r.flags ∧ (joinF (insF a r) x b).r.file = (joinF (insF a r) x b).r.file ∧ (joinF (insF a r) x b).r.index = (joinF (insF a r) x b).r.index ∧ (joinF (insF a r) x b).kids.length = (joinF (insF a r) x b).kids.length ∧ (joinF (insF a r) x b).K = (joinF (insF a r) x b).K ∧ PurL (joinF (insF a r) x b).K ∧ True) ∧ (decide (r.start < x.start) = false → Stuck (36 : Nat)))) := by kernel_rfl
theorem insL_ps (h f l g : Int) (x : Rg) (a b : Tr) (r : Rg) (h0 : (h == 0) = false) (hs : decide (r.start < x.start) = true) (ha : PS Try.prog 126 [a.v, r.v] (insF a r).v) (hj : JoinOK (insF a r) b) : PS Try.prog 126 [(Tr.mk h f l g x [a, b]).v, r.v] ((joinF (insF a r) x b).v) := by
  refine .of_vcN mixedA tabA ins_ok (by repeat' (first | exact trivial | exact Rg.pur _ | exact Tr.pur _ | refine And.intro ?_ ?_)) (insL_vc h f l g x a b r) ?_
  try rw [h0, hs]
  repeat' (first | exact parts_ps h f l g x a b _ | exact ha _ | exact join_ps (insF a r) x b hj _ | exact Tr.purK _ | refine And.intro ?_ ?_ | (intro h_; first | (cases h_; done) | rw [h_] | (simp only [Bool.not_eq_true', Bool.not_eq_false'] at h_; rw [h_]) | skip))
  all_goals (first | exact trivial | with_reducible rfl | exact Nat.le_refl _)
open Go.IntKind GV Ent in
theorem insR_vc (h f l g : Int) (x : Rg) (a b : Tr) (r : Rg) : vc Try.prog TA none [] [(14, .dead), (17, tl (.tup [a.v, x.v, b.v])), (28, .dead), (36, tl (insF b r).v), (37, tl (joinF a x (insF b r)).v)] (bodyOf Try.f126) ⟨startT Try.f126 [(Tr.mk h f l g x [a, b]).v, r.v], []⟩ (Fin TA Try.f126 ((joinF a x (insF b r)).v)) = (((h == (0 : Int)) = true → Stuck (14 : Nat)) ∧ ((h == (0 : Int)) = false → CallSem Try.prog 124 [agg [int i64 h, int i64 f, int i64 l, int i64 g, int i64 x.start, int i64 x.pages, int i64 x.prot, int i64 x.flags, int i64 x.file, int i64 x.index, im 2 [int i64 a.h, int i64 a.f, int i64 a.l, int i64 a.g, int i64 a.r.start, int i64 a.r.pages, int i64 a.r.prot, int i64 a.r.flags, int i64 a.r.file, int i64 a.r.index, im a.kids.length a.K, int i64 b.h, int i64 b.f, int i64 b.l, int i64 b.g, int i64 b.r.start, int i64 b.r.pages, int i64 b.r.prot, int i64 b.r.flags, int i64 b.r.file, int i64 b.r.index, im b.kids.length b.K]]] [] 3 (tup [a.v, x.v, b.v]) [] [] ∧ 11 = 11 ∧ true = true ∧ 11 ≤ 11 ∧ 6 = 6 ∧ true = true ∧ 6 ≤ 6 ∧ 11 = 11 ∧ true = true ∧ 11 ≤ 11 ∧ (decide (r.start < x.start) = true → Stuck (28 : Nat)) ∧ (decide (r.start < x.start) = false → CallSem Try.prog 126 [b.v, r.v] [] 6 ((insF b r).v) [] [] ∧ CallSem Try.prog 134 [a.v, x.v, (insF b r).v] [] 6 ((joinF a x (insF b r)).v) [] [] ∧ 11 = 11 ∧ true = true ∧ 11 ≤ 11 ∧ (joinF a x (insF b r)).h = (joinF a x (insF b r)).h ∧ (joinF a x (insF b r)).f = (joinF a x (insF b r)).f ∧ (joinF a x (insF b r)).l = (joinF a x (insF b r)).l ∧ (joinF a x (insF b r)).g = (joinF a x (insF b r)).g ∧ (joinF a x (insF b r)).r.start = (joinF a x (insF b r)).r.start ∧ (joinF a x (insF b r)).r.pages = (joinF a x (insF b r)).r.pages ∧ (joinF a x (insF b r)).r.prot = (joinF a x (insF b r)).r.prot ∧ (joinF a x (insF b r)).r.flags = (joinF a x (insF b r)).r.flags ∧ (joinF a x (insF b r)).r.file = (joinF a x (insF b r)).r.file ∧ (joinF a x (insF b r)).r.index = (joinF a x (insF b r)).r.index ∧ (joinF a x (insF b r)).kids.length = (joinF a x (insF b r)).kids.length ∧ (joinF a x (insF b r)).K = (joinF a x (insF b r)).K ∧ PurL (joinF a x (insF b r)).K ∧ True))) := by kernel_rfl
theorem insR_ps (h f l g : Int) (x : Rg) (a b : Tr) (r : Rg) (h0 : (h == 0) = false) (hs : decide (r.start < x.start) = false) (hb : PS Try.prog 126 [b.v, r.v] (insF b r).v) (hj : JoinOK a (insF b r)) : PS Try.prog 126 [(Tr.mk h f l g x [a, b]).v, r.v] ((joinF a x (insF b r)).v) := by
  refine .of_vcN mixedA tabA ins_ok (by repeat' (first | exact trivial | exact Rg.pur _ | exact Tr.pur _ | refine And.intro ?_ ?_)) (insR_vc h f l g x a b r) ?_
  try rw [h0, hs]
  repeat' (first | exact parts_ps h f l g x a b _ | exact hb _ | exact join_ps a x (insF b r) hj _ | exact Tr.purK _ | refine And.intro ?_ ?_ | (intro h_; first | (cases h_; done) | rw [h_] | (simp only [Bool.not_eq_true', Bool.not_eq_false'] at h_; rw [h_]) | skip))
  all_goals (first | exact trivial | with_reducible rfl | exact Nat.le_refl _)
theorem insA_ps {r : Rg} {t : Tr} (hi : InsOK r t) : PS Try.prog 126 [t.v, r.v] (insF t r).v := by
  induction hi with
  | zero h => rw [insF_zero _ r h]; exact ins_ps _ r h
  | lt h0 hs ha hj ih => rw [insF_two, h0, hs]; exact insL_ps _ _ _ _ _ _ _ r h0 hs ih hj
  | ge h0 hs ha hj ih => rw [insF_two, h0, hs]; exact insR_ps _ _ _ _ _ _ _ r h0 hs ih hj
end Go.Proofs.Ytalcipbagidbpaa
end

section
set_option linter.unusedVariables false
namespace Go.Proofs.Ytalcipbagidbpaa
open Go.Proofs
theorem c1_ok : FnOK Try.prog 109 Try.f109 (bodyOf Try.f109) := ⟨Try.func109, rfl, rfl⟩
open Go.IntKind GV Ent in
theorem c1_vc (t : Tr) (b : Bool) (bf : Nat → Nat × Nat) : vc Try.prog TA none [] [(7, tl (.bool (validF t.r)))] (bodyOf Try.f109) ⟨startT Try.f109 [t.v, .at_ 0 0 (bf 0).1 (bf 0).2], [.blk [.bool b] 4]⟩ (FinO TA Try.f109 [(1, 0)] bf (.tup []) [.blk [.bool (b && validF t.r)] 4]) = ((b = true → CallSem Try.prog 110 [t.r.v] [] 2 (bool (validF t.r)) [] [] ∧ 1 = 1 ∧ true = true ∧ 1 ≤ 1 ∧ (0 = 0 ∧ (bf (0 : Nat)).fst = (bf (0 : Nat)).fst ∧ (bf (0 : Nat)).snd = (bf (0 : Nat)).snd) ∧ validF t.r = (b && validF t.r) ∧ True) ∧ (b = false → 1 = 1 ∧ true = true ∧ 1 ≤ 1 ∧ (0 = 0 ∧ (bf (0 : Nat)).fst = (bf (0 : Nat)).fst ∧ (bf (0 : Nat)).snd = (bf (0 : Nat)).snd) ∧ false = (b && validF t.r) ∧ True)) := by kernel_rfl
theorem c1_side (t : Tr) (b : Bool) (p0 base : Nat) (bf : Nat → Nat × Nat) : sideP [p0] base [(1, 0)] bf [t.v, .at_ 0 0 (bf 0).1 (bf 0).2] [t.v, .ptr p0 0] [.blk [.bool b] 4] [.blk [.bool b] 4] (.tup []) (.tup []) [.blk [.bool (b && validF t.r)] 4] ([.blk [.bool (b && validF t.r)] 4] ++ []) = (t.h = t.h ∧ t.f = t.f ∧ t.l = t.l ∧ t.g = t.g ∧ t.r.start = t.r.start ∧ t.r.pages = t.r.pages ∧ t.r.prot = t.r.prot ∧ t.r.flags = t.r.flags ∧ t.r.file = t.r.file ∧ t.r.index = t.r.index ∧ t.kids.length = t.kids.length ∧ t.K = t.K ∧ PurL t.K ∧ true = true ∧ p0 = p0 ∧ 0 = 0 ∧ (bf (0 : Nat)).fst = (bf (0 : Nat)).fst ∧ (bf (0 : Nat)).snd = (bf (0 : Nat)).snd ∧ 4 = 4 ∧ b = b ∧ 4 = 4 ∧ (b && validF t.r) = (b && validF t.r) ∧ true = true ∧ true = true) := by kernel_rfl
theorem c1_cs (t : Tr) (b : Bool)  (p0 base : Nat)  (hb0 : p0 < base) : CallSem Try.prog 109 [t.v, .ptr p0 0] [(p0, .blk [.bool b] 4)] base (.tup []) [(p0, .blk [.bool (b && validF t.r)] 4)] [] := by
  have hnd : nodupB [p0] = true := by simp [nodupB]
  have hlt : ∀ p ∈ [p0], p < base := by intro p hp; simp at hp; omega
  refine CallSem.of_vcS (fps := [.blk [.bool b] 4]) (upds := [.blk [.bool (b && validF t.r)] 4]) mixedA tabA c1_ok [p0] rfl rfl hnd hlt [(1, 0)] (fun bf => [t.v, .at_ 0 0 (bf 0).1 (bf 0).2]) (fun bf => [.blk [.bool b] 4]) (.tup []) [.blk [.bool (b && validF t.r)] 4] (c1_side t b p0 base) (fun bf => ?_) (c1_vc t b) (fun bf => ?_)
  · repeat' (first | exact Tr.purK _ | with_reducible rfl | refine And.intro ?_ ?_)
    all_goals first | rfl | assumption | exact Nat.le_of_ble_eq_true (Eq.refl true) | (refine PurAll.mem ?_; repeat' (first | skip)) | (simp [RL_length, RL_takeL, RL_append, RL]; done)
  · repeat' (first | exact valid_ps t.r _ | refine And.intro ?_ ?_ | (intro h_; first | (cases h_; done) | rw [h_] | (simp only [Bool.not_eq_true', Bool.not_eq_false'] at h_; rw [h_]) | skip))
    all_goals (first | exact trivial | with_reducible rfl | exact Nat.le_refl _ | (simp only [bsm]; done))
theorem c2_ok : FnOK Try.prog 111 Try.f111 (bodyOf Try.f111) := ⟨Try.func111, rfl, rfl⟩
open Go.IntKind GV Ent in
theorem c2_vc (t : Tr) (b : Bool) (z : Int) (bf : Nat → Nat × Nat) : vc Try.prog TA none [] [(14, tl (.int .i64 t.r.end))] (bodyOf Try.f111) ⟨startT Try.f111 [t.v, .at_ 0 0 (bf 0).1 (bf 0).2, .at_ 1 0 (bf 1).1 (bf 1).2], [.blk [.bool b] 4, .blk [.int .i64 z] 3]⟩ (FinO TA Try.f111 [(1, 0), (2, 1)] bf (.tup []) [.blk [.bool (b && decide (t.r.start ≥ z))] 4, .blk [.int .i64 t.r.end] 3]) = ((b = true → 1 = 1 ∧ true = true ∧ 1 ≤ 1 ∧ CallSem Try.prog 112 [t.r.v] [] 3 (int i64 t.r.end) [] [] ∧ 1 = 1 ∧ true = true ∧ 1 ≤ 1 ∧ (0 = 0 ∧ (bf (0 : Nat)).fst = (bf (0 : Nat)).fst ∧ (bf (0 : Nat)).snd = (bf (0 : Nat)).snd) ∧ (0 = 0 ∧ (bf (1 : Nat)).fst = (bf (1 : Nat)).fst ∧ (bf (1 : Nat)).snd = (bf (1 : Nat)).snd) ∧ decide (t.r.start ≥ z) = (b && decide (t.r.start ≥ z)) ∧ t.r.end = t.r.end ∧ True) ∧ (b = false → 1 = 1 ∧ true = true ∧ 1 ≤ 1 ∧ CallSem Try.prog 112 [t.r.v] [] 3 (int i64 t.r.end) [] [] ∧ 1 = 1 ∧ true = true ∧ 1 ≤ 1 ∧ (0 = 0 ∧ (bf (0 : Nat)).fst = (bf (0 : Nat)).fst ∧ (bf (0 : Nat)).snd = (bf (0 : Nat)).snd) ∧ (0 = 0 ∧ (bf (1 : Nat)).fst = (bf (1 : Nat)).fst ∧ (bf (1 : Nat)).snd = (bf (1 : Nat)).snd) ∧ false = (b && decide (t.r.start ≥ z)) ∧ t.r.end = t.r.end ∧ True)) := by kernel_rfl
theorem c2_side (t : Tr) (b : Bool) (z : Int) (p0 p1 base : Nat) (bf : Nat → Nat × Nat) : sideP [p0, p1] base [(1, 0), (2, 1)] bf [t.v, .at_ 0 0 (bf 0).1 (bf 0).2, .at_ 1 0 (bf 1).1 (bf 1).2] [t.v, .ptr p0 0, .ptr p1 0] [.blk [.bool b] 4, .blk [.int .i64 z] 3] [.blk [.bool b] 4, .blk [.int .i64 z] 3] (.tup []) (.tup []) [.blk [.bool (b && decide (t.r.start ≥ z))] 4, .blk [.int .i64 t.r.end] 3] ([.blk [.bool (b && decide (t.r.start ≥ z))] 4, .blk [.int .i64 t.r.end] 3] ++ []) = (t.h = t.h ∧ t.f = t.f ∧ t.l = t.l ∧ t.g = t.g ∧ t.r.start = t.r.start ∧ t.r.pages = t.r.pages ∧ t.r.prot = t.r.prot ∧ t.r.flags = t.r.flags ∧ t.r.file = t.r.file ∧ t.r.index = t.r.index ∧ t.kids.length = t.kids.length ∧ t.K = t.K ∧ PurL t.K ∧ true = true ∧ p0 = p0 ∧ 0 = 0 ∧ (bf (0 : Nat)).fst = (bf (0 : Nat)).fst ∧ (bf (0 : Nat)).snd = (bf (0 : Nat)).snd ∧ true = true ∧ p1 = p1 ∧ 0 = 0 ∧ (bf (1 : Nat)).fst = (bf (1 : Nat)).fst ∧ (bf (1 : Nat)).snd = (bf (1 : Nat)).snd ∧ 4 = 4 ∧ b = b ∧ 3 = 3 ∧ z = z ∧ 4 = 4 ∧ (b && decide (t.r.start ≥ z)) = (b && decide (t.r.start ≥ z)) ∧ 3 = 3 ∧ t.r.end = t.r.end ∧ true = true ∧ true = true) := by kernel_rfl
theorem c2_cs (t : Tr) (b : Bool) (z : Int)  (p0 p1 base : Nat) (h01 : p0 ≠ p1) (hb0 : p0 < base) (hb1 : p1 < base) : CallSem Try.prog 111 [t.v, .ptr p0 0, .ptr p1 0] [(p0, .blk [.bool b] 4), (p1, .blk [.int .i64 z] 3)] base (.tup []) [(p0, .blk [.bool (b && decide (t.r.start ≥ z))] 4), (p1, .blk [.int .i64 t.r.end] 3)] [] := by
  have hnd : nodupB [p0, p1] = true := by simp [nodupB, beqF h01]
  have hlt : ∀ p ∈ [p0, p1], p < base := by intro p hp; simp at hp; omega
  refine CallSem.of_vcS (fps := [.blk [.bool b] 4, .blk [.int .i64 z] 3]) (upds := [.blk [.bool (b && decide (t.r.start ≥ z))] 4, .blk [.int .i64 t.r.end] 3]) mixedA tabA c2_ok [p0, p1] rfl rfl hnd hlt [(1, 0), (2, 1)] (fun bf => [t.v, .at_ 0 0 (bf 0).1 (bf 0).2, .at_ 1 0 (bf 1).1 (bf 1).2]) (fun bf => [.blk [.bool b] 4, .blk [.int .i64 z] 3]) (.tup []) [.blk [.bool (b && decide (t.r.start ≥ z))] 4, .blk [.int .i64 t.r.end] 3] (c2_side t b z p0 p1 base) (fun bf => ?_) (c2_vc t b z) (fun bf => ?_)
  · repeat' (first | exact Tr.purK _ | with_reducible rfl | refine And.intro ?_ ?_)
    all_goals first | rfl | assumption | exact Nat.le_of_ble_eq_true (Eq.refl true) | (refine PurAll.mem ?_; repeat' (first | skip)) | (simp [RL_length, RL_takeL, RL_append, RL]; done)
  · repeat' (first | exact end_ps t.r _ | refine And.intro ?_ ?_ | (intro h_; first | (cases h_; done) | rw [h_] | (simp only [Bool.not_eq_true', Bool.not_eq_false'] at h_; rw [h_]) | skip))
    all_goals (first | exact trivial | with_reducible rfl | exact Nat.le_refl _ | (simp only [bsm]; done))
def numF (t : Tr) : Bool := let w := nodeF (k0 t) t.r (k1 t)
  !((w.h != t.h) || (w.f != t.f) || (w.l != t.l) || (w.g != t.g) || decide (w64 ((k0 t).h - (k1 t).h) < -1) || decide (w64 ((k0 t).h - (k1 t).h) > 1))
theorem c3_ok : FnOK Try.prog 130 Try.f130 (bodyOf Try.f130) := ⟨Try.func130, rfl, rfl⟩
open Go.IntKind GV Ent in
theorem c3_vc (t : Tr) (b : Bool) (bf : Nat → Nat × Nat) : vc Try.prog TA none [] [(10, tl (.tup [(k0 t).v, t.r.v, (k1 t).v])), (17, tl (nodeF (k0 t) t.r (k1 t)).v)] (bodyOf Try.f130) ⟨startT Try.f130 [t.v, .at_ 0 0 (bf 0).1 (bf 0).2], [.blk [.bool b] 4]⟩ (FinO TA Try.f130 [(1, 0)] bf (.tup []) [.blk [.bool (b && numF t)] 4]) = (CallSem Try.prog 124 [t.v] [] 2 (tup [(k0 t).v, t.r.v, (k1 t).v]) [] [] ∧ 11 = 11 ∧ true = true ∧ 11 ≤ 11 ∧ 6 = 6 ∧ true = true ∧ 6 ≤ 6 ∧ 11 = 11 ∧ true = true ∧ 11 ≤ 11 ∧ CallSem Try.prog 131 [(k0 t).v, t.r.v, (k1 t).v] [] 5 ((nodeF (k0 t) t.r (k1 t)).v) [] [] ∧ 11 = 11 ∧ true = true ∧ 11 ≤ 11 ∧ (((nodeF (k0 t) t.r (k1 t)).h != t.h) = true → 1 = 1 ∧ true = true ∧ 1 ≤ 1 ∧ (0 = 0 ∧ (bf (0 : Nat)).fst = (bf (0 : Nat)).fst ∧ (bf (0 : Nat)).snd = (bf (0 : Nat)).snd) ∧ false = (b && numF t) ∧ True) ∧ (((nodeF (k0 t) t.r (k1 t)).h != t.h) = false → (((nodeF (k0 t) t.r (k1 t)).f != t.f) = true → 1 = 1 ∧ true = true ∧ 1 ≤ 1 ∧ (0 = 0 ∧ (bf (0 : Nat)).fst = (bf (0 : Nat)).fst ∧ (bf (0 : Nat)).snd = (bf (0 : Nat)).snd) ∧ false = (b && numF t) ∧ True) ∧ (((nodeF (k0 t) t.r (k1 t)).f != t.f) = false → (((nodeF (k0 t) t.r (k1 t)).l != t.l) = true → 1 = 1 ∧ true = true ∧ 1 ≤ 1 ∧ (0 = 0 ∧ (bf (0 : Nat)).fst = (bf (0 : Nat)).fst ∧ (bf (0 : Nat)).snd = (bf (0 : Nat)).snd) ∧ false = (b && numF t) ∧ True) ∧ (((nodeF (k0 t) t.r (k1 t)).l != t.l) = false → (((nodeF (k0 t) t.r (k1 t)).g != t.g) = true → 1 = 1 ∧ true = true ∧ 1 ≤ 1 ∧ (0 = 0 ∧ (bf (0 : Nat)).fst = (bf (0 : Nat)).fst ∧ (bf (0 : Nat)).snd = (bf (0 : Nat)).snd) ∧ false = (b && numF t) ∧ True) ∧ (((nodeF (k0 t) t.r (k1 t)).g != t.g) = false → (decide (i64.wrap ((k0 t).h - (k1 t).h) < (-1 : Int)) = true → 1 = 1 ∧ true = true ∧ 1 ≤ 1 ∧ (0 = 0 ∧ (bf (0 : Nat)).fst = (bf (0 : Nat)).fst ∧ (bf (0 : Nat)).snd = (bf (0 : Nat)).snd) ∧ false = (b && numF t) ∧ True) ∧ (decide (i64.wrap ((k0 t).h - (k1 t).h) < (-1 : Int)) = false → (decide (i64.wrap ((k0 t).h - (k1 t).h) > (1 : Int)) = true → 1 = 1 ∧ true = true ∧ 1 ≤ 1 ∧ (0 = 0 ∧ (bf (0 : Nat)).fst = (bf (0 : Nat)).fst ∧ (bf (0 : Nat)).snd = (bf (0 : Nat)).snd) ∧ false = (b && numF t) ∧ True) ∧ (decide (i64.wrap ((k0 t).h - (k1 t).h) > (1 : Int)) = false → (0 = 0 ∧ (bf (0 : Nat)).fst = (bf (0 : Nat)).fst ∧ (bf (0 : Nat)).snd = (bf (0 : Nat)).snd) ∧ b = (b && numF t) ∧ True))))))) := by kernel_rfl
theorem c3_side (t : Tr) (b : Bool) (p0 base : Nat) (bf : Nat → Nat × Nat) : sideP [p0] base [(1, 0)] bf [t.v, .at_ 0 0 (bf 0).1 (bf 0).2] [t.v, .ptr p0 0] [.blk [.bool b] 4] [.blk [.bool b] 4] (.tup []) (.tup []) [.blk [.bool (b && numF t)] 4] ([.blk [.bool (b && numF t)] 4] ++ []) = (t.h = t.h ∧ t.f = t.f ∧ t.l = t.l ∧ t.g = t.g ∧ t.r.start = t.r.start ∧ t.r.pages = t.r.pages ∧ t.r.prot = t.r.prot ∧ t.r.flags = t.r.flags ∧ t.r.file = t.r.file ∧ t.r.index = t.r.index ∧ t.kids.length = t.kids.length ∧ t.K = t.K ∧ PurL t.K ∧ true = true ∧ p0 = p0 ∧ 0 = 0 ∧ (bf (0 : Nat)).fst = (bf (0 : Nat)).fst ∧ (bf (0 : Nat)).snd = (bf (0 : Nat)).snd ∧ 4 = 4 ∧ b = b ∧ 4 = 4 ∧ (b && numF t) = (b && numF t) ∧ true = true ∧ true = true) := by kernel_rfl
theorem c3_cs (t : Tr) (b : Bool) (h2 : Two t) (p0 base : Nat)  (hb0 : p0 < base) : CallSem Try.prog 130 [t.v, .ptr p0 0] [(p0, .blk [.bool b] 4)] base (.tup []) [(p0, .blk [.bool (b && numF t)] 4)] [] := by
  have hnd : nodupB [p0] = true := by simp [nodupB]
  have hlt : ∀ p ∈ [p0], p < base := by intro p hp; simp at hp; omega
  refine CallSem.of_vcS (fps := [.blk [.bool b] 4]) (upds := [.blk [.bool (b && numF t)] 4]) mixedA tabA c3_ok [p0] rfl rfl hnd hlt [(1, 0)] (fun bf => [t.v, .at_ 0 0 (bf 0).1 (bf 0).2]) (fun bf => [.blk [.bool b] 4]) (.tup []) [.blk [.bool (b && numF t)] 4] (c3_side t b p0 base) (fun bf => ?_) (c3_vc t b) (fun bf => ?_)
  · repeat' (first | exact Tr.purK _ | with_reducible rfl | refine And.intro ?_ ?_)
    all_goals first | rfl | assumption | exact Nat.le_of_ble_eq_true (Eq.refl true) | (refine PurAll.mem ?_; repeat' (first | skip)) | (simp [RL_length, RL_takeL, RL_append, RL]; done)
  · try simp only [numF]
    repeat' (first | exact parts_two t h2 _ | exact node_ps (k0 t) t.r (k1 t) _ | refine And.intro ?_ ?_ | (intro h_; first | (cases h_; done) | rw [h_] | (simp only [Bool.not_eq_true', Bool.not_eq_false'] at h_; rw [h_]) | skip))
    all_goals (first | exact trivial | exact Nat.le_refl _ | (simp only [bsm]; done))
def app (l : List Rg) (r : Rg) : List Rg := l ++ [r]
theorem c4_ok : FnOK Try.prog 96 Try.f96 (bodyOf Try.f96) := ⟨Try.func96, rfl, rfl⟩
open Go.IntKind GV Ent in
theorem c4_vc (t : Tr) (l : List Rg) (bf : Nat → Nat × Nat) : vc Try.prog TA none [] [] (bodyOf Try.f96) ⟨startT Try.f96 [t.v, .at_ 0 0 (bf 0).1 (bf 0).2], [.blk [.ol 1 l.length 6] 56, .ob (RL l) 23]⟩ (FinO TA Try.f96 [(1, 0)] bf (.tup []) [.blk [.ol 2 (app l t.r).length 6] 56, .emp, .ob (RL (app l t.r)) 23]) = (6 ≤ 6 ∧ 23 = 23 ∧ (RL l).length = l.length * 6 ∧ l.length + 1 ≤ 1073741824 ∧ true = true ∧ true = true ∧ ((0 : Nat) < (6 : Nat) ∧ 48 ≤ 65536) ∧ 1 = 1 ∧ true = true ∧ 1 ≤ 1 ∧ (0 = 0 ∧ (bf (0 : Nat)).fst = (bf (0 : Nat)).fst ∧ (bf (0 : Nat)).snd = (bf (0 : Nat)).snd) ∧ (l.length + 1 = (app l t.r).length ∧ 6 = 6) ∧ List.take (l.length * 6) (RL l) ++ [int i64 t.r.start, int i64 t.r.pages, int i64 t.r.prot, int i64 t.r.flags, int i64 t.r.file, int i64 t.r.index] = RL (app l t.r) ∧ PurL (RL (app l t.r)) ∧ True) := by kernel_rfl
theorem c4_side (t : Tr) (l : List Rg) (p0 p1 base : Nat) (bf : Nat → Nat × Nat) : sideP [p0, p1] base [(1, 0)] bf [t.v, .at_ 0 0 (bf 0).1 (bf 0).2] [t.v, .ptr p0 0] [.blk [.ol 1 l.length 6] 56, .ob (RL l) 23] [.blk [.ol p1 l.length 6] 56, .ob (RL l) 23] (.tup []) (.tup []) [.blk [.ol 2 (app l t.r).length 6] 56, .emp, .ob (RL (app l t.r)) 23] ([.blk [.ol base (app l t.r).length 6] 56, .emp] ++ [.ob (RL (app l t.r)) 23]) = (t.h = t.h ∧ t.f = t.f ∧ t.l = t.l ∧ t.g = t.g ∧ t.r.start = t.r.start ∧ t.r.pages = t.r.pages ∧ t.r.prot = t.r.prot ∧ t.r.flags = t.r.flags ∧ t.r.file = t.r.file ∧ t.r.index = t.r.index ∧ t.kids.length = t.kids.length ∧ t.K = t.K ∧ PurL t.K ∧ true = true ∧ p0 = p0 ∧ 0 = 0 ∧ (bf (0 : Nat)).fst = (bf (0 : Nat)).fst ∧ (bf (0 : Nat)).snd = (bf (0 : Nat)).snd ∧ 56 = 56 ∧ true = true ∧ p1 = p1 ∧ l.length = l.length ∧ 6 = 6 ∧ 23 = 23 ∧ RL l = RL l ∧ PurL (RL l) ∧ 56 = 56 ∧ true = true ∧ base = base ∧ (app l t.r).length = (app l t.r).length ∧ 6 = 6 ∧ 23 = 23 ∧ RL (app l t.r) = RL (app l t.r) ∧ PurL (RL (app l t.r)) ∧ true = true ∧ true = true) := by kernel_rfl
theorem c4_cs (t : Tr) (l : List Rg) (hl : l.length + 1 ≤ 1073741824)  (p0 p1 base : Nat) (h01 : p0 ≠ p1) (hb0 : p0 < base) (hb1 : p1 < base) : CallSem Try.prog 96 [t.v, .ptr p0 0] [(p0, .blk [.ol p1 l.length 6] 56), (p1, .ob (RL l) 23)] base (.tup []) [(p0, .blk [.ol base (app l t.r).length 6] 56), (p1, .emp)] [.ob (RL (app l t.r)) 23] := by
  have hnd : nodupB [p0, p1] = true := by simp [nodupB, beqF h01]
  have hlt : ∀ p ∈ [p0, p1], p < base := by intro p hp; simp at hp; omega
  refine CallSem.of_vcS (fps := [.blk [.ol p1 l.length 6] 56, .ob (RL l) 23]) (upds := [.blk [.ol base (app l t.r).length 6] 56, .emp]) mixedA tabA c4_ok [p0, p1] rfl rfl hnd hlt [(1, 0)] (fun bf => [t.v, .at_ 0 0 (bf 0).1 (bf 0).2]) (fun bf => [.blk [.ol 1 l.length 6] 56, .ob (RL l) 23]) (.tup []) [.blk [.ol 2 (app l t.r).length 6] 56, .emp, .ob (RL (app l t.r)) 23] (c4_side t l p0 p1 base) (fun bf => ?_) (c4_vc t l) (fun bf => ?_)
  · repeat' (first | exact Tr.purK _ | exact RL_pur _ | with_reducible rfl | refine And.intro ?_ ?_)
    all_goals first | rfl | assumption | exact Nat.le_of_ble_eq_true (Eq.refl true) | (refine PurAll.mem ?_; repeat' (first | skip)) | (simp [RL_length, RL_takeL, RL_append, RL]; done)
  · try simp only [app]
    repeat' (first | exact RL_pur _ | refine And.intro ?_ ?_)
    all_goals (first | exact trivial | exact Nat.le_refl _ | exact Nat.le_of_ble_eq_true (Eq.refl true) | assumption | (simp [RL_length, RL_takeL, RL_append, RL, app, bsm]; done))
end Go.Proofs.Ytalcipbagidbpaa
end

section
set_option linter.unusedVariables false
namespace Go.Proofs.Ytalcipbagidbpaa
open Go.Proofs
def cl (ps : List Nat) (r : GV) (upd new : List Ent) : Tell := .stp (.call ps r upd new)
/-- The nodes of a tree in order, as far as its form permits it. -/
def nodesF : Tr → List Tr
  | .mk h f l g x [a, b] => bif h == 0 then [] else nodesF a ++ (.mk h f l g x [a, b] :: nodesF b)
  | _ => []
theorem nodesF_two (h f l g : Int) (x : Rg) (a b : Tr) : nodesF (.mk h f l g x [a, b]) = bif h == 0 then [] else nodesF a ++ (.mk h f l g x [a, b] :: nodesF b) := by rw [nodesF]
theorem nodesF_else (t : Tr) (hz : (t.h == 0) = false → ((t.kids.length : Int) != 2) = true) : nodesF t = [] := by
  cases t with
  | mk h f l g x k =>
    unfold nodesF
    split
    · rename_i h1 f1 l1 g1 x1 a b e
      simp only [Tr.mk.injEq] at e
      obtain ⟨rfl, rfl, rfl, rfl, rfl, rfl⟩ := e
      cases hh : h == 0 with
      | true => rfl
      | false => exact absurd (hz hh) (by simp [Tr.kids])
    · rfl
/-- By cases: a node that each looks into, or another tree. -/
theorem Tr.cas {p : Tr → Prop} (hz : ∀ t : Tr, ((t.h == 0) = false → ((t.kids.length : Int) != 2) = true) → p t)
    (hn : ∀ h f l g x a b, (h == 0) = false → p a → p b → p (.mk h f l g x [a, b])) (t : Tr) : p t := by
  induction t using Tr.ind with
  | h t ih =>
    cases t with
    | mk h f l g x k =>
      by_cases hk : ∃ a b, k = [a, b]
      · obtain ⟨a, b, rfl⟩ := hk
        cases hh : h == 0 with
        | true => exact hz _ fun e => by simp only [Tr.h] at e; rw [hh] at e; cases e
        | false => exact hn h f l g x a b hh (ih a (by simp [Tr.kids])) (ih b (by simp [Tr.kids]))
      · refine hz _ fun _ => ?_
        rcases k with _ | ⟨a, _ | ⟨b, _ | ⟨c, k⟩⟩⟩
        · rfl
        · rfl
        · exact absurd ⟨a, b, rfl⟩ hk
        · simp only [Tr.kids, List.length_cons, bne_iff_ne]; omega
theorem e1z_ok : FnOK Try.prog 95 Try.f95 (bodyOf Try.f95) := ⟨Try.func95, rfl, rfl⟩
theorem e1z_vc (t : Tr) (s : Bool) (bf : Nat → Nat × Nat) : vc Try.prog TA none [] [(16, .dead)] (bodyOf Try.f95) ⟨startT Try.f95 [t.v, .fn 109 [.at_ 0 0 (bf 0).1 (bf 0).2]], [.blk [.bool s] 4]⟩ (FinO TA Try.f95 [(1001, 0)] bf (.tup []) [.blk [.bool s] 4]) = (((t.h == 0) = true → (0 = 0 ∧ (bf (0 : Nat)).fst = (bf (0 : Nat)).fst ∧ (bf (0 : Nat)).snd = (bf (0 : Nat)).snd) ∧ s = s ∧ True) ∧ ((t.h == 0) = false → ((↑t.kids.length != (2 : Int)) = true → (0 = 0 ∧ (bf (0 : Nat)).fst = (bf (0 : Nat)).fst ∧ (bf (0 : Nat)).snd = (bf (0 : Nat)).snd) ∧ s = s ∧ True) ∧ ((↑t.kids.length != (2 : Int)) = false → ((0 : Int) ≤ (0 : Int) ∧ (0 : Int) < ↑t.kids.length) ∧ t.K.length = t.kids.length * 11 ∧ Stuck (16 : Nat)))) := by kernel_rfl
theorem e1z_side (t : Tr) (s : Bool) (p0 base : Nat) (bf : Nat → Nat × Nat) : sideP [p0] base [(1001, 0)] bf [t.v, .fn 109 [.at_ 0 0 (bf 0).1 (bf 0).2]] [t.v, .fn 109 [.ptr p0 0]] [.blk [.bool s] 4] [.blk [.bool s] 4] (.tup []) (.tup []) [.blk [.bool s] 4] ([.blk [.bool s] 4] ++ []) = (t.h = t.h ∧ t.f = t.f ∧ t.l = t.l ∧ t.g = t.g ∧ t.r.start = t.r.start ∧ t.r.pages = t.r.pages ∧ t.r.prot = t.r.prot ∧ t.r.flags = t.r.flags ∧ t.r.file = t.r.file ∧ t.r.index = t.r.index ∧ t.kids.length = t.kids.length ∧ t.K = t.K ∧ PurL t.K ∧ true = true ∧ p0 = p0 ∧ 0 = 0 ∧ (bf (0 : Nat)).fst = (bf (0 : Nat)).fst ∧ (bf (0 : Nat)).snd = (bf (0 : Nat)).snd ∧ 4 = 4 ∧ s = s ∧ 4 = 4 ∧ s = s ∧ true = true ∧ true = true) := by kernel_rfl
theorem e1z_cs (t : Tr) (s : Bool) (hz : (t.h == 0) = false → ((t.kids.length : Int) != 2) = true) (p0 base : Nat)  (hb0 : p0 < base) : CallSem Try.prog 95 [t.v, .fn 109 [.ptr p0 0]] [(p0, .blk [.bool s] 4)] base (.tup []) [(p0, .blk [.bool s] 4)] [] := by
  have hnd : nodupB [p0] = true := by simp [nodupB]
  have hlt : ∀ p ∈ [p0], p < base := by intro p hp; simp at hp; omega
  refine CallSem.of_vcS (fps := [.blk [.bool s] 4]) (upds := [.blk [.bool s] 4]) mixedA tabA e1z_ok [p0] rfl rfl hnd hlt [(1001, 0)] (fun bf => [t.v, .fn 109 [.at_ 0 0 (bf 0).1 (bf 0).2]]) (fun bf => [.blk [.bool s] 4]) (.tup []) [.blk [.bool s] 4] (e1z_side t s p0 base) (fun bf => ?_) (e1z_vc t s) (fun bf => ?_)
  · repeat' (first | exact Tr.purK _ | with_reducible rfl | refine And.intro ?_ ?_)
    all_goals first | rfl | assumption | exact Nat.le_of_ble_eq_true (Eq.refl true) | (refine PurAll.mem ?_; repeat' (first | skip)) | (simp [RL_length, RL_takeL, RL_append, RL]; done)
  · repeat' (first | refine And.intro ?_ ?_ | (intro h_; first | (cases h_; done) | rw [h_] | (simp only [Bool.not_eq_true', Bool.not_eq_false'] at h_; rw [h_]) | skip))
    all_goals (first | exact trivial | with_reducible rfl | (exfalso; have hq := hz (by assumption); simp_all only [Bool.true_eq_false, Bool.false_eq_true]; done))
open Go.IntKind GV Ent in
theorem e1n_vc (h f l g : Int) (x : Rg) (a b : Tr) (s s1 s2 s3 : Bool) (bf : Nat → Nat × Nat) : vc Try.prog TA none [] [(18, cl [0] (.tup []) [.blk [.bool s1] 4] []), (21, cl [0] (.tup []) [.blk [.bool s2] 4] []), (27, cl [0] (.tup []) [.blk [.bool s3] 4] [])] (bodyOf Try.f95) ⟨startT Try.f95 [(Tr.mk h f l g x [a, b]).v, .fn 109 [.at_ 0 0 (bf 0).1 (bf 0).2]], [.blk [.bool s] 4]⟩ (FinO TA Try.f95 [(1001, 0)] bf (.tup []) [.blk [.bool s3] 4]) = (((h == (0 : Int)) = true → (0 = 0 ∧ (bf (0 : Nat)).fst = (bf (0 : Nat)).fst ∧ (bf (0 : Nat)).snd = (bf (0 : Nat)).snd) ∧ s = s3 ∧ True) ∧ ((h == (0 : Int)) = false → (false = true → (0 = 0 ∧ (bf (0 : Nat)).fst = (bf (0 : Nat)).fst ∧ (bf (0 : Nat)).snd = (bf (0 : Nat)).snd) ∧ s = s3 ∧ True) ∧ (false = false → ((0 : Int) ≤ (0 : Int) ∧ (0 : Int) < ↑(2 : Nat)) ∧ 22 = 22 ∧ CallSem Try.prog 95 [a.v, fn (109 : Nat) [ptr 0 (0 : Nat)]] [((0 : Nat), blk [bool s] (4 : Nat))] 2 (tup []) [((0 : Nat), blk [bool s1] (4 : Nat))] [] ∧ CallSem Try.prog 109 [agg [int i64 h, int i64 f, int i64 l, int i64 g, int i64 x.start, int i64 x.pages, int i64 x.prot, int i64 x.flags, int i64 x.file, int i64 x.index, im 2 [int i64 a.h, int i64 a.f, int i64 a.l, int i64 a.g, int i64 a.r.start, int i64 a.r.pages, int i64 a.r.prot, int i64 a.r.flags, int i64 a.r.file, int i64 a.r.index, im a.kids.length a.K, int i64 b.h, int i64 b.f, int i64 b.l, int i64 b.g, int i64 b.r.start, int i64 b.r.pages, int i64 b.r.prot, int i64 b.r.flags, int i64 b.r.file, int i64 b.r.index, im b.kids.length b.K]], ptr 0 (0 : Nat)] [((0 : Nat), blk [bool s1] (4 : Nat))] 2 (tup []) [((0 : Nat), blk [bool s2] (4 : Nat))] [] ∧ ((0 : Int) ≤ (1 : Int) ∧ (1 : Int) < ↑(2 : Nat)) ∧ 22 = 22 ∧ CallSem Try.prog 95 [b.v, fn (109 : Nat) [ptr 0 (0 : Nat)]] [((0 : Nat), blk [bool s2] (4 : Nat))] 2 (tup []) [((0 : Nat), blk [bool s3] (4 : Nat))] [] ∧ (0 = 0 ∧ (bf (0 : Nat)).fst = (bf (0 : Nat)).fst ∧ (bf (0 : Nat)).snd = (bf (0 : Nat)).snd) ∧ s3 = s3 ∧ True))) := by kernel_rfl
open Go.IntKind GV Ent in
theorem e1n_side (h f l g : Int) (x : Rg) (a b : Tr) (s s1 s2 s3 : Bool) (p0 base : Nat) (bf : Nat → Nat × Nat) : sideP [p0] base [(1001, 0)] bf [(Tr.mk h f l g x [a, b]).v, .fn 109 [.at_ 0 0 (bf 0).1 (bf 0).2]] [(Tr.mk h f l g x [a, b]).v, .fn 109 [.ptr p0 0]] [.blk [.bool s] 4] [.blk [.bool s] 4] (.tup []) (.tup []) [.blk [.bool s3] 4] ([.blk [.bool s3] 4] ++ []) = (h = h ∧ f = f ∧ l = l ∧ g = g ∧ x.start = x.start ∧ x.pages = x.pages ∧ x.prot = x.prot ∧ x.flags = x.flags ∧ x.file = x.file ∧ x.index = x.index ∧ 2 = 2 ∧ [int i64 a.h, int i64 a.f, int i64 a.l, int i64 a.g, int i64 a.r.start, int i64 a.r.pages, int i64 a.r.prot, int i64 a.r.flags, int i64 a.r.file, int i64 a.r.index, im a.kids.length a.K, int i64 b.h, int i64 b.f, int i64 b.l, int i64 b.g, int i64 b.r.start, int i64 b.r.pages, int i64 b.r.prot, int i64 b.r.flags, int i64 b.r.file, int i64 b.r.index, im b.kids.length b.K] = [int i64 a.h, int i64 a.f, int i64 a.l, int i64 a.g, int i64 a.r.start, int i64 a.r.pages, int i64 a.r.prot, int i64 a.r.flags, int i64 a.r.file, int i64 a.r.index, im a.kids.length a.K, int i64 b.h, int i64 b.f, int i64 b.l, int i64 b.g, int i64 b.r.start, int i64 b.r.pages, int i64 b.r.prot, int i64 b.r.flags, int i64 b.r.file, int i64 b.r.index, im b.kids.length b.K] ∧ PurL [int i64 a.h, int i64 a.f, int i64 a.l, int i64 a.g, int i64 a.r.start, int i64 a.r.pages, int i64 a.r.prot, int i64 a.r.flags, int i64 a.r.file, int i64 a.r.index, im a.kids.length a.K, int i64 b.h, int i64 b.f, int i64 b.l, int i64 b.g, int i64 b.r.start, int i64 b.r.pages, int i64 b.r.prot, int i64 b.r.flags, int i64 b.r.file, int i64 b.r.index, im b.kids.length b.K] ∧ true = true ∧ p0 = p0 ∧ 0 = 0 ∧ (bf (0 : Nat)).fst = (bf (0 : Nat)).fst ∧ (bf (0 : Nat)).snd = (bf (0 : Nat)).snd ∧ 4 = 4 ∧ s = s ∧ 4 = 4 ∧ s3 = s3 ∧ true = true ∧ true = true) := by kernel_rfl
theorem e1n_cs (h f l g : Int) (x : Rg) (a b : Tr) (s s1 s2 s3 : Bool) (h0 : (h == 0) = false) (ha : ∀ p0 base, p0 < base → CallSem Try.prog 95 [a.v, .fn 109 [.ptr p0 0]] [(p0, .blk [.bool s] 4)] base (.tup []) [(p0, .blk [.bool s1] 4)] [])
   (hc : ∀ p0 base, p0 < base → CallSem Try.prog 109 [(Tr.mk h f l g x [a, b]).v, .ptr p0 0] [(p0, .blk [.bool s1] 4)] base (.tup []) [(p0, .blk [.bool s2] 4)] [])
   (hb : ∀ p0 base, p0 < base → CallSem Try.prog 95 [b.v, .fn 109 [.ptr p0 0]] [(p0, .blk [.bool s2] 4)] base (.tup []) [(p0, .blk [.bool s3] 4)] []) (p0 base : Nat)  (hb0 : p0 < base) : CallSem Try.prog 95 [(Tr.mk h f l g x [a, b]).v, .fn 109 [.ptr p0 0]] [(p0, .blk [.bool s] 4)] base (.tup []) [(p0, .blk [.bool s3] 4)] [] := by
  have hnd : nodupB [p0] = true := by simp [nodupB]
  have hlt : ∀ p ∈ [p0], p < base := by intro p hp; simp at hp; omega
  refine CallSem.of_vcS (fps := [.blk [.bool s] 4]) (upds := [.blk [.bool s3] 4]) mixedA tabA e1z_ok [p0] rfl rfl hnd hlt [(1001, 0)] (fun bf => [(Tr.mk h f l g x [a, b]).v, .fn 109 [.at_ 0 0 (bf 0).1 (bf 0).2]]) (fun bf => [.blk [.bool s] 4]) (.tup []) [.blk [.bool s3] 4] (e1n_side h f l g x a b s s1 s2 s3 p0 base) (fun bf => ?_) (e1n_vc h f l g x a b s s1 s2 s3) (fun bf => ?_)
  · repeat' (first | with_reducible rfl | refine And.intro ?_ ?_)
    all_goals first | rfl | assumption | exact Nat.le_of_ble_eq_true (Eq.refl true) | (refine PurAll.mem ?_; repeat' (first | exact trivial | exact Pur.int | exact Pur.im (Tr.purK _) | refine And.intro ?_ ?_)) | (simp [RL_length, RL_takeL, RL_append, RL]; done)
  · try rw [h0]
    repeat' (first | exact ha _ _ (by decide) | exact hc _ _ (by decide) | exact hb _ _ (by decide) | refine And.intro ?_ ?_ | (intro h_; first | (cases h_; done) | rw [h_] | (simp only [Bool.not_eq_true', Bool.not_eq_false'] at h_; rw [h_]) | skip))
    all_goals (first | exact trivial | with_reducible rfl | (simp [RL_length, RL_takeL, RL_append, RL, bsm]; done))
theorem e3z_vc (t : Tr) (s : Bool) (bf : Nat → Nat × Nat) : vc Try.prog TA none [] [(16, .dead)] (bodyOf Try.f95) ⟨startT Try.f95 [t.v, .fn 130 [.at_ 0 0 (bf 0).1 (bf 0).2]], [.blk [.bool s] 4]⟩ (FinO TA Try.f95 [(1001, 0)] bf (.tup []) [.blk [.bool s] 4]) = (((t.h == 0) = true → (0 = 0 ∧ (bf (0 : Nat)).fst = (bf (0 : Nat)).fst ∧ (bf (0 : Nat)).snd = (bf (0 : Nat)).snd) ∧ s = s ∧ True) ∧ ((t.h == 0) = false → ((↑t.kids.length != (2 : Int)) = true → (0 = 0 ∧ (bf (0 : Nat)).fst = (bf (0 : Nat)).fst ∧ (bf (0 : Nat)).snd = (bf (0 : Nat)).snd) ∧ s = s ∧ True) ∧ ((↑t.kids.length != (2 : Int)) = false → ((0 : Int) ≤ (0 : Int) ∧ (0 : Int) < ↑t.kids.length) ∧ t.K.length = t.kids.length * 11 ∧ Stuck (16 : Nat)))) := by kernel_rfl
theorem e3z_side (t : Tr) (s : Bool) (p0 base : Nat) (bf : Nat → Nat × Nat) : sideP [p0] base [(1001, 0)] bf [t.v, .fn 130 [.at_ 0 0 (bf 0).1 (bf 0).2]] [t.v, .fn 130 [.ptr p0 0]] [.blk [.bool s] 4] [.blk [.bool s] 4] (.tup []) (.tup []) [.blk [.bool s] 4] ([.blk [.bool s] 4] ++ []) = (t.h = t.h ∧ t.f = t.f ∧ t.l = t.l ∧ t.g = t.g ∧ t.r.start = t.r.start ∧ t.r.pages = t.r.pages ∧ t.r.prot = t.r.prot ∧ t.r.flags = t.r.flags ∧ t.r.file = t.r.file ∧ t.r.index = t.r.index ∧ t.kids.length = t.kids.length ∧ t.K = t.K ∧ PurL t.K ∧ true = true ∧ p0 = p0 ∧ 0 = 0 ∧ (bf (0 : Nat)).fst = (bf (0 : Nat)).fst ∧ (bf (0 : Nat)).snd = (bf (0 : Nat)).snd ∧ 4 = 4 ∧ s = s ∧ 4 = 4 ∧ s = s ∧ true = true ∧ true = true) := by kernel_rfl
theorem e3z_cs (t : Tr) (s : Bool) (hz : (t.h == 0) = false → ((t.kids.length : Int) != 2) = true) (p0 base : Nat)  (hb0 : p0 < base) : CallSem Try.prog 95 [t.v, .fn 130 [.ptr p0 0]] [(p0, .blk [.bool s] 4)] base (.tup []) [(p0, .blk [.bool s] 4)] [] := by
  have hnd : nodupB [p0] = true := by simp [nodupB]
  have hlt : ∀ p ∈ [p0], p < base := by intro p hp; simp at hp; omega
  refine CallSem.of_vcS (fps := [.blk [.bool s] 4]) (upds := [.blk [.bool s] 4]) mixedA tabA e1z_ok [p0] rfl rfl hnd hlt [(1001, 0)] (fun bf => [t.v, .fn 130 [.at_ 0 0 (bf 0).1 (bf 0).2]]) (fun bf => [.blk [.bool s] 4]) (.tup []) [.blk [.bool s] 4] (e3z_side t s p0 base) (fun bf => ?_) (e3z_vc t s) (fun bf => ?_)
  · repeat' (first | exact Tr.purK _ | with_reducible rfl | refine And.intro ?_ ?_)
    all_goals first | rfl | assumption | exact Nat.le_of_ble_eq_true (Eq.refl true) | (refine PurAll.mem ?_; repeat' (first | skip)) | (simp [RL_length, RL_takeL, RL_append, RL]; done)
  · repeat' (first | refine And.intro ?_ ?_ | (intro h_; first | (cases h_; done) | rw [h_] | (simp only [Bool.not_eq_true', Bool.not_eq_false'] at h_; rw [h_]) | skip))
    all_goals (first | exact trivial | with_reducible rfl | (exfalso; have hq := hz (by assumption); simp_all only [Bool.true_eq_false, Bool.false_eq_true]; done))
open Go.IntKind GV Ent in
theorem e3n_vc (h f l g : Int) (x : Rg) (a b : Tr) (s s1 s2 s3 : Bool) (bf : Nat → Nat × Nat) : vc Try.prog TA none [] [(18, cl [0] (.tup []) [.blk [.bool s1] 4] []), (21, cl [0] (.tup []) [.blk [.bool s2] 4] []), (27, cl [0] (.tup []) [.blk [.bool s3] 4] [])] (bodyOf Try.f95) ⟨startT Try.f95 [(Tr.mk h f l g x [a, b]).v, .fn 130 [.at_ 0 0 (bf 0).1 (bf 0).2]], [.blk [.bool s] 4]⟩ (FinO TA Try.f95 [(1001, 0)] bf (.tup []) [.blk [.bool s3] 4]) = (((h == (0 : Int)) = true → (0 = 0 ∧ (bf (0 : Nat)).fst = (bf (0 : Nat)).fst ∧ (bf (0 : Nat)).snd = (bf (0 : Nat)).snd) ∧ s = s3 ∧ True) ∧ ((h == (0 : Int)) = false → (false = true → (0 = 0 ∧ (bf (0 : Nat)).fst = (bf (0 : Nat)).fst ∧ (bf (0 : Nat)).snd = (bf (0 : Nat)).snd) ∧ s = s3 ∧ True) ∧ (false = false → ((0 : Int) ≤ (0 : Int) ∧ (0 : Int) < ↑(2 : Nat)) ∧ 22 = 22 ∧ CallSem Try.prog 95 [a.v, fn (130 : Nat) [ptr 0 (0 : Nat)]] [((0 : Nat), blk [bool s] (4 : Nat))] 2 (tup []) [((0 : Nat), blk [bool s1] (4 : Nat))] [] ∧ CallSem Try.prog 130 [agg [int i64 h, int i64 f, int i64 l, int i64 g, int i64 x.start, int i64 x.pages, int i64 x.prot, int i64 x.flags, int i64 x.file, int i64 x.index, im 2 [int i64 a.h, int i64 a.f, int i64 a.l, int i64 a.g, int i64 a.r.start, int i64 a.r.pages, int i64 a.r.prot, int i64 a.r.flags, int i64 a.r.file, int i64 a.r.index, im a.kids.length a.K, int i64 b.h, int i64 b.f, int i64 b.l, int i64 b.g, int i64 b.r.start, int i64 b.r.pages, int i64 b.r.prot, int i64 b.r.flags, int i64 b.r.file, int i64 b.r.index, im b.kids.length b.K]], ptr 0 (0 : Nat)] [((0 : Nat), blk [bool s1] (4 : Nat))] 2 (tup []) [((0 : Nat), blk [bool s2] (4 : Nat))] [] ∧ ((0 : Int) ≤ (1 : Int) ∧ (1 : Int) < ↑(2 : Nat)) ∧ 22 = 22 ∧ CallSem Try.prog 95 [b.v, fn (130 : Nat) [ptr 0 (0 : Nat)]] [((0 : Nat), blk [bool s2] (4 : Nat))] 2 (tup []) [((0 : Nat), blk [bool s3] (4 : Nat))] [] ∧ (0 = 0 ∧ (bf (0 : Nat)).fst = (bf (0 : Nat)).fst ∧ (bf (0 : Nat)).snd = (bf (0 : Nat)).snd) ∧ s3 = s3 ∧ True))) := by kernel_rfl
open Go.IntKind GV Ent in
theorem e3n_side (h f l g : Int) (x : Rg) (a b : Tr) (s s1 s2 s3 : Bool) (p0 base : Nat) (bf : Nat → Nat × Nat) : sideP [p0] base [(1001, 0)] bf [(Tr.mk h f l g x [a, b]).v, .fn 130 [.at_ 0 0 (bf 0).1 (bf 0).2]] [(Tr.mk h f l g x [a, b]).v, .fn 130 [.ptr p0 0]] [.blk [.bool s] 4] [.blk [.bool s] 4] (.tup []) (.tup []) [.blk [.bool s3] 4] ([.blk [.bool s3] 4] ++ []) = (h = h ∧ f = f ∧ l = l ∧ g = g ∧ x.start = x.start ∧ x.pages = x.pages ∧ x.prot = x.prot ∧ x.flags = x.flags ∧ x.file = x.file ∧ x.index = x.index ∧ 2 = 2 ∧ [int i64 a.h, int i64 a.f, int i64 a.l, int i64 a.g, int i64 a.r.start, int i64 a.r.pages, int i64 a.r.prot, int i64 a.r.flags, int i64 a.r.file, int i64 a.r.index, im a.kids.length a.K, int i64 b.h, int i64 b.f, int i64 b.l, int i64 b.g, int i64 b.r.start, int i64 b.r.pages, int i64 b.r.prot, int i64 b.r.flags, int i64 b.r.file, int i64 b.r.index, im b.kids.length b.K] = [int i64 a.h, int i64 a.f, int i64 a.l, int i64 a.g, int i64 a.r.start, int i64 a.r.pages, int i64 a.r.prot, int i64 a.r.flags, int i64 a.r.file, int i64 a.r.index, im a.kids.length a.K, int i64 b.h, int i64 b.f, int i64 b.l, int i64 b.g, int i64 b.r.start, int i64 b.r.pages, int i64 b.r.prot, int i64 b.r.flags, int i64 b.r.file, int i64 b.r.index, im b.kids.length b.K] ∧ PurL [int i64 a.h, int i64 a.f, int i64 a.l, int i64 a.g, int i64 a.r.start, int i64 a.r.pages, int i64 a.r.prot, int i64 a.r.flags, int i64 a.r.file, int i64 a.r.index, im a.kids.length a.K, int i64 b.h, int i64 b.f, int i64 b.l, int i64 b.g, int i64 b.r.start, int i64 b.r.pages, int i64 b.r.prot, int i64 b.r.flags, int i64 b.r.file, int i64 b.r.index, im b.kids.length b.K] ∧ true = true ∧ p0 = p0 ∧ 0 = 0 ∧ (bf (0 : Nat)).fst = (bf (0 : Nat)).fst ∧ (bf (0 : Nat)).snd = (bf (0 : Nat)).snd ∧ 4 = 4 ∧ s = s ∧ 4 = 4 ∧ s3 = s3 ∧ true = true ∧ true = true) := by kernel_rfl
theorem e3n_cs (h f l g : Int) (x : Rg) (a b : Tr) (s s1 s2 s3 : Bool) (h0 : (h == 0) = false) (ha : ∀ p0 base, p0 < base → CallSem Try.prog 95 [a.v, .fn 130 [.ptr p0 0]] [(p0, .blk [.bool s] 4)] base (.tup []) [(p0, .blk [.bool s1] 4)] [])
   (hc : ∀ p0 base, p0 < base → CallSem Try.prog 130 [(Tr.mk h f l g x [a, b]).v, .ptr p0 0] [(p0, .blk [.bool s1] 4)] base (.tup []) [(p0, .blk [.bool s2] 4)] [])
   (hb : ∀ p0 base, p0 < base → CallSem Try.prog 95 [b.v, .fn 130 [.ptr p0 0]] [(p0, .blk [.bool s2] 4)] base (.tup []) [(p0, .blk [.bool s3] 4)] []) (p0 base : Nat)  (hb0 : p0 < base) : CallSem Try.prog 95 [(Tr.mk h f l g x [a, b]).v, .fn 130 [.ptr p0 0]] [(p0, .blk [.bool s] 4)] base (.tup []) [(p0, .blk [.bool s3] 4)] [] := by
  have hnd : nodupB [p0] = true := by simp [nodupB]
  have hlt : ∀ p ∈ [p0], p < base := by intro p hp; simp at hp; omega
  refine CallSem.of_vcS (fps := [.blk [.bool s] 4]) (upds := [.blk [.bool s3] 4]) mixedA tabA e1z_ok [p0] rfl rfl hnd hlt [(1001, 0)] (fun bf => [(Tr.mk h f l g x [a, b]).v, .fn 130 [.at_ 0 0 (bf 0).1 (bf 0).2]]) (fun bf => [.blk [.bool s] 4]) (.tup []) [.blk [.bool s3] 4] (e3n_side h f l g x a b s s1 s2 s3 p0 base) (fun bf => ?_) (e3n_vc h f l g x a b s s1 s2 s3) (fun bf => ?_)
  · repeat' (first | with_reducible rfl | refine And.intro ?_ ?_)
    all_goals first | rfl | assumption | exact Nat.le_of_ble_eq_true (Eq.refl true) | (refine PurAll.mem ?_; repeat' (first | exact trivial | exact Pur.int | exact Pur.im (Tr.purK _) | refine And.intro ?_ ?_)) | (simp [RL_length, RL_takeL, RL_append, RL]; done)
  · try rw [h0]
    repeat' (first | exact ha _ _ (by decide) | exact hc _ _ (by decide) | exact hb _ _ (by decide) | refine And.intro ?_ ?_ | (intro h_; first | (cases h_; done) | rw [h_] | (simp only [Bool.not_eq_true', Bool.not_eq_false'] at h_; rw [h_]) | skip))
    all_goals (first | exact trivial | with_reducible rfl | (simp [RL_length, RL_takeL, RL_append, RL, bsm]; done))
theorem e2z_vc (t : Tr) (s : Bool) (z : Int) (bf : Nat → Nat × Nat) : vc Try.prog TA none [] [(16, .dead)] (bodyOf Try.f95) ⟨startT Try.f95 [t.v, .fn 111 [.at_ 0 0 (bf 0).1 (bf 0).2, .at_ 1 0 (bf 1).1 (bf 1).2]], [.blk [.bool s] 4, .blk [.int .i64 z] 3]⟩ (FinO TA Try.f95 [(1001, 0), (2001, 1)] bf (.tup []) [.blk [.bool s] 4, .blk [.int .i64 z] 3]) = (((t.h == 0) = true → (0 = 0 ∧ (bf (0 : Nat)).fst = (bf (0 : Nat)).fst ∧ (bf (0 : Nat)).snd = (bf (0 : Nat)).snd) ∧ (0 = 0 ∧ (bf (1 : Nat)).fst = (bf (1 : Nat)).fst ∧ (bf (1 : Nat)).snd = (bf (1 : Nat)).snd) ∧ s = s ∧ z = z ∧ True) ∧ ((t.h == 0) = false → ((↑t.kids.length != (2 : Int)) = true → (0 = 0 ∧ (bf (0 : Nat)).fst = (bf (0 : Nat)).fst ∧ (bf (0 : Nat)).snd = (bf (0 : Nat)).snd) ∧ (0 = 0 ∧ (bf (1 : Nat)).fst = (bf (1 : Nat)).fst ∧ (bf (1 : Nat)).snd = (bf (1 : Nat)).snd) ∧ s = s ∧ z = z ∧ True) ∧ ((↑t.kids.length != (2 : Int)) = false → ((0 : Int) ≤ (0 : Int) ∧ (0 : Int) < ↑t.kids.length) ∧ t.K.length = t.kids.length * 11 ∧ Stuck (16 : Nat)))) := by kernel_rfl
theorem e2z_side (t : Tr) (s : Bool) (z : Int) (p0 p1 base : Nat) (bf : Nat → Nat × Nat) : sideP [p0, p1] base [(1001, 0), (2001, 1)] bf [t.v, .fn 111 [.at_ 0 0 (bf 0).1 (bf 0).2, .at_ 1 0 (bf 1).1 (bf 1).2]] [t.v, .fn 111 [.ptr p0 0, .ptr p1 0]] [.blk [.bool s] 4, .blk [.int .i64 z] 3] [.blk [.bool s] 4, .blk [.int .i64 z] 3] (.tup []) (.tup []) [.blk [.bool s] 4, .blk [.int .i64 z] 3] ([.blk [.bool s] 4, .blk [.int .i64 z] 3] ++ []) = (t.h = t.h ∧ t.f = t.f ∧ t.l = t.l ∧ t.g = t.g ∧ t.r.start = t.r.start ∧ t.r.pages = t.r.pages ∧ t.r.prot = t.r.prot ∧ t.r.flags = t.r.flags ∧ t.r.file = t.r.file ∧ t.r.index = t.r.index ∧ t.kids.length = t.kids.length ∧ t.K = t.K ∧ PurL t.K ∧ true = true ∧ p0 = p0 ∧ 0 = 0 ∧ (bf (0 : Nat)).fst = (bf (0 : Nat)).fst ∧ (bf (0 : Nat)).snd = (bf (0 : Nat)).snd ∧ true = true ∧ p1 = p1 ∧ 0 = 0 ∧ (bf (1 : Nat)).fst = (bf (1 : Nat)).fst ∧ (bf (1 : Nat)).snd = (bf (1 : Nat)).snd ∧ 4 = 4 ∧ s = s ∧ 3 = 3 ∧ z = z ∧ 4 = 4 ∧ s = s ∧ 3 = 3 ∧ z = z ∧ true = true ∧ true = true) := by kernel_rfl
theorem e2z_cs (t : Tr) (s : Bool) (z : Int) (hz : (t.h == 0) = false → ((t.kids.length : Int) != 2) = true) (p0 p1 base : Nat) (h01 : p0 ≠ p1) (hb0 : p0 < base) (hb1 : p1 < base) : CallSem Try.prog 95 [t.v, .fn 111 [.ptr p0 0, .ptr p1 0]] [(p0, .blk [.bool s] 4), (p1, .blk [.int .i64 z] 3)] base (.tup []) [(p0, .blk [.bool s] 4), (p1, .blk [.int .i64 z] 3)] [] := by
  have hnd : nodupB [p0, p1] = true := by simp [nodupB, beqF h01]
  have hlt : ∀ p ∈ [p0, p1], p < base := by intro p hp; simp at hp; omega
  refine CallSem.of_vcS (fps := [.blk [.bool s] 4, .blk [.int .i64 z] 3]) (upds := [.blk [.bool s] 4, .blk [.int .i64 z] 3]) mixedA tabA e1z_ok [p0, p1] rfl rfl hnd hlt [(1001, 0), (2001, 1)] (fun bf => [t.v, .fn 111 [.at_ 0 0 (bf 0).1 (bf 0).2, .at_ 1 0 (bf 1).1 (bf 1).2]]) (fun bf => [.blk [.bool s] 4, .blk [.int .i64 z] 3]) (.tup []) [.blk [.bool s] 4, .blk [.int .i64 z] 3] (e2z_side t s z p0 p1 base) (fun bf => ?_) (e2z_vc t s z) (fun bf => ?_)
  · repeat' (first | exact Tr.purK _ | with_reducible rfl | refine And.intro ?_ ?_)
    all_goals first | rfl | assumption | exact Nat.le_of_ble_eq_true (Eq.refl true) | (refine PurAll.mem ?_; repeat' (first | skip)) | (simp [RL_length, RL_takeL, RL_append, RL]; done)
  · repeat' (first | refine And.intro ?_ ?_ | (intro h_; first | (cases h_; done) | rw [h_] | (simp only [Bool.not_eq_true', Bool.not_eq_false'] at h_; rw [h_]) | skip))
    all_goals (first | exact trivial | with_reducible rfl | (exfalso; have hq := hz (by assumption); simp_all only [Bool.true_eq_false, Bool.false_eq_true]; done))
open Go.IntKind GV Ent in
theorem e2n_vc (h f l g : Int) (x : Rg) (a b : Tr) (s s1 s2 s3 : Bool) (z z1 z2 z3 : Int) (bf : Nat → Nat × Nat) : vc Try.prog TA none [] [(18, cl [0, 1] (.tup []) [.blk [.bool s1] 4, .blk [.int .i64 z1] 3] []), (21, cl [0, 1] (.tup []) [.blk [.bool s2] 4, .blk [.int .i64 z2] 3] []), (27, cl [0, 1] (.tup []) [.blk [.bool s3] 4, .blk [.int .i64 z3] 3] [])] (bodyOf Try.f95) ⟨startT Try.f95 [(Tr.mk h f l g x [a, b]).v, .fn 111 [.at_ 0 0 (bf 0).1 (bf 0).2, .at_ 1 0 (bf 1).1 (bf 1).2]], [.blk [.bool s] 4, .blk [.int .i64 z] 3]⟩ (FinO TA Try.f95 [(1001, 0), (2001, 1)] bf (.tup []) [.blk [.bool s3] 4, .blk [.int .i64 z3] 3]) = (((h == (0 : Int)) = true → (0 = 0 ∧ (bf (0 : Nat)).fst = (bf (0 : Nat)).fst ∧ (bf (0 : Nat)).snd = (bf (0 : Nat)).snd) ∧ (0 = 0 ∧ (bf (1 : Nat)).fst = (bf (1 : Nat)).fst ∧ (bf (1 : Nat)).snd = (bf (1 : Nat)).snd) ∧ s = s3 ∧ z = z3 ∧ True) ∧ ((h == (0 : Int)) = false → (false = true → (0 = 0 ∧ (bf (0 : Nat)).fst = (bf (0 : Nat)).fst ∧ (bf (0 : Nat)).snd = (bf (0 : Nat)).snd) ∧ (0 = 0 ∧ (bf (1 : Nat)).fst = (bf (1 : Nat)).fst ∧ (bf (1 : Nat)).snd = (bf (1 : Nat)).snd) ∧ s = s3 ∧ z = z3 ∧ True) ∧ (false = false → ((0 : Int) ≤ (0 : Int) ∧ (0 : Int) < ↑(2 : Nat)) ∧ 22 = 22 ∧ CallSem Try.prog 95 [a.v, fn (111 : Nat) [ptr 0 (0 : Nat), ptr 1 (0 : Nat)]] [((0 : Nat), blk [bool s] (4 : Nat)), ((1 : Nat), blk [int i64 z] (3 : Nat))] 3 (tup []) [((0 : Nat), blk [bool s1] (4 : Nat)), ((1 : Nat), blk [int i64 z1] (3 : Nat))] [] ∧ CallSem Try.prog 111 [agg [int i64 h, int i64 f, int i64 l, int i64 g, int i64 x.start, int i64 x.pages, int i64 x.prot, int i64 x.flags, int i64 x.file, int i64 x.index, im 2 [int i64 a.h, int i64 a.f, int i64 a.l, int i64 a.g, int i64 a.r.start, int i64 a.r.pages, int i64 a.r.prot, int i64 a.r.flags, int i64 a.r.file, int i64 a.r.index, im a.kids.length a.K, int i64 b.h, int i64 b.f, int i64 b.l, int i64 b.g, int i64 b.r.start, int i64 b.r.pages, int i64 b.r.prot, int i64 b.r.flags, int i64 b.r.file, int i64 b.r.index, im b.kids.length b.K]], ptr 0 (0 : Nat), ptr 1 (0 : Nat)] [((0 : Nat), blk [bool s1] (4 : Nat)), ((1 : Nat), blk [int i64 z1] (3 : Nat))] 3 (tup []) [((0 : Nat), blk [bool s2] (4 : Nat)), ((1 : Nat), blk [int i64 z2] (3 : Nat))] [] ∧ ((0 : Int) ≤ (1 : Int) ∧ (1 : Int) < ↑(2 : Nat)) ∧ 22 = 22 ∧ CallSem Try.prog 95 [b.v, fn (111 : Nat) [ptr 0 (0 : Nat), ptr 1 (0 : Nat)]] [((0 : Nat), blk [bool s2] (4 : Nat)), ((1 : Nat), blk [int i64 z2] (3 : Nat))] 3 (tup []) [((0 : Nat), blk [bool s3] (4 : Nat)), ((1 : Nat), blk [int i64 z3] (3 : Nat))] [] ∧ (0 = 0 ∧ (bf (0 : Nat)).fst = (bf (0 : Nat)).fst ∧ (bf (0 : Nat)).snd = (bf (0 : Nat)).snd) ∧ (0 = 0 ∧ (bf (1 : Nat)).fst = (bf (1 : Nat)).fst ∧ (bf (1 : Nat)).snd = (bf (1 : Nat)).snd) ∧ s3 = s3 ∧ z3 = z3 ∧ True))) := by kernel_rfl
open Go.IntKind GV Ent in
theorem e2n_side (h f l g : Int) (x : Rg) (a b : Tr) (s s1 s2 s3 : Bool) (z z1 z2 z3 : Int) (p0 p1 base : Nat) (bf : Nat → Nat × Nat) : sideP [p0, p1] base [(1001, 0), (2001, 1)] bf [(Tr.mk h f l g x [a, b]).v, .fn 111 [.at_ 0 0 (bf 0).1 (bf 0).2, .at_ 1 0 (bf 1).1 (bf 1).2]] [(Tr.mk h f l g x [a, b]).v, .fn 111 [.ptr p0 0, .ptr p1 0]] [.blk [.bool s] 4, .blk [.int .i64 z] 3] [.blk [.bool s] 4, .blk [.int .i64 z] 3] (.tup []) (.tup []) [.blk [.bool s3] 4, .blk [.int .i64 z3] 3] ([.blk [.bool s3] 4, .blk [.int .i64 z3] 3] ++ []) = (h = h ∧ f = f ∧ l = l ∧ g = g ∧ x.start = x.start ∧ x.pages = x.pages ∧ x.prot = x.prot ∧ x.flags = x.flags ∧ x.file = x.file ∧ x.index = x.index ∧ 2 = 2 ∧ [int i64 a.h, int i64 a.f, int i64 a.l, int i64 a.g, int i64 a.r.start, int i64 a.r.pages, int i64 a.r.prot, int i64 a.r.flags, int i64 a.r.file, int i64 a.r.index, im a.kids.length a.K, int i64 b.h, int i64 b.f, int i64 b.l, int i64 b.g, int i64 b.r.start, int i64 b.r.pages, int i64 b.r.prot, int i64 b.r.flags, int i64 b.r.file, int i64 b.r.index, im b.kids.length b.K] = [int i64 a.h, int i64 a.f, int i64 a.l, int i64 a.g, int i64 a.r.start, int i64 a.r.pages, int i64 a.r.prot, int i64 a.r.flags, int i64 a.r.file, int i64 a.r.index, im a.kids.length a.K, int i64 b.h, int i64 b.f, int i64 b.l, int i64 b.g, int i64 b.r.start, int i64 b.r.pages, int i64 b.r.prot, int i64 b.r.flags, int i64 b.r.file, int i64 b.r.index, im b.kids.length b.K] ∧ PurL [int i64 a.h, int i64 a.f, int i64 a.l, int i64 a.g, int i64 a.r.start, int i64 a.r.pages, int i64 a.r.prot, int i64 a.r.flags, int i64 a.r.file, int i64 a.r.index, im a.kids.length a.K, int i64 b.h, int i64 b.f, int i64 b.l, int i64 b.g, int i64 b.r.start, int i64 b.r.pages, int i64 b.r.prot, int i64 b.r.flags, int i64 b.r.file, int i64 b.r.index, im b.kids.length b.K] ∧ true = true ∧ p0 = p0 ∧ 0 = 0 ∧ (bf (0 : Nat)).fst = (bf (0 : Nat)).fst ∧ (bf (0 : Nat)).snd = (bf (0 : Nat)).snd ∧ true = true ∧ p1 = p1 ∧ 0 = 0 ∧ (bf (1 : Nat)).fst = (bf (1 : Nat)).fst ∧ (bf (1 : Nat)).snd = (bf (1 : Nat)).snd ∧ 4 = 4 ∧ s = s ∧ 3 = 3 ∧ z = z ∧ 4 = 4 ∧ s3 = s3 ∧ 3 = 3 ∧ z3 = z3 ∧ true = true ∧ true = true) := by kernel_rfl
theorem e2n_cs (h f l g : Int) (x : Rg) (a b : Tr) (s s1 s2 s3 : Bool) (z z1 z2 z3 : Int) (h0 : (h == 0) = false) (ha : ∀ p0 p1 base, p0 ≠ p1 → p0 < base → p1 < base → CallSem Try.prog 95 [a.v, .fn 111 [.ptr p0 0, .ptr p1 0]] [(p0, .blk [.bool s] 4), (p1, .blk [.int .i64 z] 3)] base (.tup []) [(p0, .blk [.bool s1] 4), (p1, .blk [.int .i64 z1] 3)] [])
   (hc : ∀ p0 p1 base, p0 ≠ p1 → p0 < base → p1 < base → CallSem Try.prog 111 [(Tr.mk h f l g x [a, b]).v, .ptr p0 0, .ptr p1 0] [(p0, .blk [.bool s1] 4), (p1, .blk [.int .i64 z1] 3)] base (.tup []) [(p0, .blk [.bool s2] 4), (p1, .blk [.int .i64 z2] 3)] [])
   (hb : ∀ p0 p1 base, p0 ≠ p1 → p0 < base → p1 < base → CallSem Try.prog 95 [b.v, .fn 111 [.ptr p0 0, .ptr p1 0]] [(p0, .blk [.bool s2] 4), (p1, .blk [.int .i64 z2] 3)] base (.tup []) [(p0, .blk [.bool s3] 4), (p1, .blk [.int .i64 z3] 3)] []) (p0 p1 base : Nat) (h01 : p0 ≠ p1) (hb0 : p0 < base) (hb1 : p1 < base) : CallSem Try.prog 95 [(Tr.mk h f l g x [a, b]).v, .fn 111 [.ptr p0 0, .ptr p1 0]] [(p0, .blk [.bool s] 4), (p1, .blk [.int .i64 z] 3)] base (.tup []) [(p0, .blk [.bool s3] 4), (p1, .blk [.int .i64 z3] 3)] [] := by
  have hnd : nodupB [p0, p1] = true := by simp [nodupB, beqF h01]
  have hlt : ∀ p ∈ [p0, p1], p < base := by intro p hp; simp at hp; omega
  refine CallSem.of_vcS (fps := [.blk [.bool s] 4, .blk [.int .i64 z] 3]) (upds := [.blk [.bool s3] 4, .blk [.int .i64 z3] 3]) mixedA tabA e1z_ok [p0, p1] rfl rfl hnd hlt [(1001, 0), (2001, 1)] (fun bf => [(Tr.mk h f l g x [a, b]).v, .fn 111 [.at_ 0 0 (bf 0).1 (bf 0).2, .at_ 1 0 (bf 1).1 (bf 1).2]]) (fun bf => [.blk [.bool s] 4, .blk [.int .i64 z] 3]) (.tup []) [.blk [.bool s3] 4, .blk [.int .i64 z3] 3] (e2n_side h f l g x a b s s1 s2 s3 z z1 z2 z3 p0 p1 base) (fun bf => ?_) (e2n_vc h f l g x a b s s1 s2 s3 z z1 z2 z3) (fun bf => ?_)
  · repeat' (first | with_reducible rfl | refine And.intro ?_ ?_)
    all_goals first | rfl | assumption | exact Nat.le_of_ble_eq_true (Eq.refl true) | (refine PurAll.mem ?_; repeat' (first | exact trivial | exact Pur.int | exact Pur.im (Tr.purK _) | refine And.intro ?_ ?_)) | (simp [RL_length, RL_takeL, RL_append, RL]; done)
  · try rw [h0]
    repeat' (first | exact ha _ _ _ (by decide) (by decide) (by decide) | exact hc _ _ _ (by decide) (by decide) (by decide) | exact hb _ _ _ (by decide) (by decide) (by decide) | refine And.intro ?_ ?_ | (intro h_; first | (cases h_; done) | rw [h_] | (simp only [Bool.not_eq_true', Bool.not_eq_false'] at h_; rw [h_]) | skip))
    all_goals (first | exact trivial | with_reducible rfl | (simp [RL_length, RL_takeL, RL_append, RL, bsm]; done))
theorem e4z_vc (t : Tr) (s : List Rg) (bf : Nat → Nat × Nat) : vc Try.prog TA none [] [(16, .dead)] (bodyOf Try.f95) ⟨startT Try.f95 [t.v, .fn 96 [.at_ 0 0 (bf 0).1 (bf 0).2]], [.blk [.ol 1 s.length 6] 56, .ob (RL s) 23]⟩ (FinO TA Try.f95 [(1001, 0)] bf (.tup []) [.blk [.ol 2 s.length 6] 56, .emp, .ob (RL s) 23]) = (((t.h == 0) = true → (0 = 0 ∧ (bf (0 : Nat)).fst = (bf (0 : Nat)).fst ∧ (bf (0 : Nat)).snd = (bf (0 : Nat)).snd) ∧ (s.length = s.length ∧ 6 = 6) ∧ RL s = RL s ∧ PurL (RL s) ∧ True) ∧ ((t.h == 0) = false → ((↑t.kids.length != (2 : Int)) = true → (0 = 0 ∧ (bf (0 : Nat)).fst = (bf (0 : Nat)).fst ∧ (bf (0 : Nat)).snd = (bf (0 : Nat)).snd) ∧ (s.length = s.length ∧ 6 = 6) ∧ RL s = RL s ∧ PurL (RL s) ∧ True) ∧ ((↑t.kids.length != (2 : Int)) = false → ((0 : Int) ≤ (0 : Int) ∧ (0 : Int) < ↑t.kids.length) ∧ t.K.length = t.kids.length * 11 ∧ Stuck (16 : Nat)))) := by kernel_rfl
theorem e4z_side (t : Tr) (s : List Rg) (p0 p1 base : Nat) (bf : Nat → Nat × Nat) : sideP [p0, p1] base [(1001, 0)] bf [t.v, .fn 96 [.at_ 0 0 (bf 0).1 (bf 0).2]] [t.v, .fn 96 [.ptr p0 0]] [.blk [.ol 1 s.length 6] 56, .ob (RL s) 23] [.blk [.ol p1 s.length 6] 56, .ob (RL s) 23] (.tup []) (.tup []) [.blk [.ol 2 s.length 6] 56, .emp, .ob (RL s) 23] ([.blk [.ol base s.length 6] 56, .emp] ++ [.ob (RL s) 23]) = (t.h = t.h ∧ t.f = t.f ∧ t.l = t.l ∧ t.g = t.g ∧ t.r.start = t.r.start ∧ t.r.pages = t.r.pages ∧ t.r.prot = t.r.prot ∧ t.r.flags = t.r.flags ∧ t.r.file = t.r.file ∧ t.r.index = t.r.index ∧ t.kids.length = t.kids.length ∧ t.K = t.K ∧ PurL t.K ∧ true = true ∧ p0 = p0 ∧ 0 = 0 ∧ (bf (0 : Nat)).fst = (bf (0 : Nat)).fst ∧ (bf (0 : Nat)).snd = (bf (0 : Nat)).snd ∧ 56 = 56 ∧ true = true ∧ p1 = p1 ∧ s.length = s.length ∧ 6 = 6 ∧ 23 = 23 ∧ RL s = RL s ∧ PurL (RL s) ∧ 56 = 56 ∧ true = true ∧ base = base ∧ s.length = s.length ∧ 6 = 6 ∧ 23 = 23 ∧ RL s = RL s ∧ PurL (RL s) ∧ true = true ∧ true = true) := by kernel_rfl
theorem e4z_cs (t : Tr) (s : List Rg) (hz : (t.h == 0) = false → ((t.kids.length : Int) != 2) = true) (p0 p1 base : Nat) (h01 : p0 ≠ p1) (hb0 : p0 < base) (hb1 : p1 < base) : CallSem Try.prog 95 [t.v, .fn 96 [.ptr p0 0]] [(p0, .blk [.ol p1 s.length 6] 56), (p1, .ob (RL s) 23)] base (.tup []) [(p0, .blk [.ol base s.length 6] 56), (p1, .emp)] [.ob (RL s) 23] := by
  have hnd : nodupB [p0, p1] = true := by simp [nodupB, beqF h01]
  have hlt : ∀ p ∈ [p0, p1], p < base := by intro p hp; simp at hp; omega
  refine CallSem.of_vcS (fps := [.blk [.ol p1 s.length 6] 56, .ob (RL s) 23]) (upds := [.blk [.ol base s.length 6] 56, .emp]) mixedA tabA e1z_ok [p0, p1] rfl rfl hnd hlt [(1001, 0)] (fun bf => [t.v, .fn 96 [.at_ 0 0 (bf 0).1 (bf 0).2]]) (fun bf => [.blk [.ol 1 s.length 6] 56, .ob (RL s) 23]) (.tup []) [.blk [.ol 2 s.length 6] 56, .emp, .ob (RL s) 23] (e4z_side t s p0 p1 base) (fun bf => ?_) (e4z_vc t s) (fun bf => ?_)
  · repeat' (first | exact Tr.purK _ | exact RL_pur _ | with_reducible rfl | refine And.intro ?_ ?_)
    all_goals first | rfl | assumption | exact Nat.le_of_ble_eq_true (Eq.refl true) | (refine PurAll.mem ?_; repeat' (first | skip)) | (simp [RL_length, RL_takeL, RL_append, RL]; done)
  · repeat' (first | exact RL_pur _ | refine And.intro ?_ ?_ | (intro h_; first | (cases h_; done) | rw [h_] | (simp only [Bool.not_eq_true', Bool.not_eq_false'] at h_; rw [h_]) | skip))
    all_goals (first | exact trivial | with_reducible rfl | (exfalso; have hq := hz (by assumption); simp_all only [Bool.true_eq_false, Bool.false_eq_true]; done))
open Go.IntKind GV Ent in
theorem e4n_vc (h f l g : Int) (x : Rg) (a b : Tr) (s s1 s2 s3 : List Rg) (bf : Nat → Nat × Nat) : vc Try.prog TA none [] [(18, cl [0, 1] (.tup []) [.blk [.ol 3 s1.length 6] 56, .emp] [.ob (RL s1) 23]), (21, cl [0, 3] (.tup []) [.blk [.ol 4 s2.length 6] 56, .emp] [.ob (RL s2) 23]), (27, cl [0, 4] (.tup []) [.blk [.ol 5 s3.length 6] 56, .emp] [.ob (RL s3) 23])] (bodyOf Try.f95) ⟨startT Try.f95 [(Tr.mk h f l g x [a, b]).v, .fn 96 [.at_ 0 0 (bf 0).1 (bf 0).2]], [.blk [.ol 1 s.length 6] 56, .ob (RL s) 23]⟩ (FinO TA Try.f95 [(1001, 0)] bf (.tup []) [.blk [.ol 2 s3.length 6] 56, .emp, .ob (RL s3) 23]) = (((h == (0 : Int)) = true → (0 = 0 ∧ (bf (0 : Nat)).fst = (bf (0 : Nat)).fst ∧ (bf (0 : Nat)).snd = (bf (0 : Nat)).snd) ∧ (s.length = s3.length ∧ 6 = 6) ∧ RL s = RL s3 ∧ PurL (RL s3) ∧ True) ∧ ((h == (0 : Int)) = false → (false = true → (0 = 0 ∧ (bf (0 : Nat)).fst = (bf (0 : Nat)).fst ∧ (bf (0 : Nat)).snd = (bf (0 : Nat)).snd) ∧ (s.length = s3.length ∧ 6 = 6) ∧ RL s = RL s3 ∧ PurL (RL s3) ∧ True) ∧ (false = false → ((0 : Int) ≤ (0 : Int) ∧ (0 : Int) < ↑(2 : Nat)) ∧ 22 = 22 ∧ CallSem Try.prog 95 [a.v, fn (96 : Nat) [ptr 0 (0 : Nat)]] [((0 : Nat), blk [ol 1 s.length (6 : Nat)] (56 : Nat)), ((1 : Nat), ob (RL s) (23 : Nat))] 3 (tup []) [((0 : Nat), blk [ol 3 s1.length (6 : Nat)] (56 : Nat)), ((1 : Nat), emp)] [ob (RL s1) (23 : Nat)] ∧ CallSem Try.prog 96 [agg [int i64 h, int i64 f, int i64 l, int i64 g, int i64 x.start, int i64 x.pages, int i64 x.prot, int i64 x.flags, int i64 x.file, int i64 x.index, im 2 [int i64 a.h, int i64 a.f, int i64 a.l, int i64 a.g, int i64 a.r.start, int i64 a.r.pages, int i64 a.r.prot, int i64 a.r.flags, int i64 a.r.file, int i64 a.r.index, im a.kids.length a.K, int i64 b.h, int i64 b.f, int i64 b.l, int i64 b.g, int i64 b.r.start, int i64 b.r.pages, int i64 b.r.prot, int i64 b.r.flags, int i64 b.r.file, int i64 b.r.index, im b.kids.length b.K]], ptr 0 (0 : Nat)] [((0 : Nat), blk [ol 3 s1.length (6 : Nat)] (56 : Nat)), ((3 : Nat), ob (RL s1) (23 : Nat))] 4 (tup []) [((0 : Nat), blk [ol 4 s2.length (6 : Nat)] (56 : Nat)), ((3 : Nat), emp)] [ob (RL s2) (23 : Nat)] ∧ ((0 : Int) ≤ (1 : Int) ∧ (1 : Int) < ↑(2 : Nat)) ∧ 22 = 22 ∧ CallSem Try.prog 95 [b.v, fn (96 : Nat) [ptr 0 (0 : Nat)]] [((0 : Nat), blk [ol 4 s2.length (6 : Nat)] (56 : Nat)), ((4 : Nat), ob (RL s2) (23 : Nat))] 5 (tup []) [((0 : Nat), blk [ol 5 s3.length (6 : Nat)] (56 : Nat)), ((4 : Nat), emp)] [ob (RL s3) (23 : Nat)] ∧ (0 = 0 ∧ (bf (0 : Nat)).fst = (bf (0 : Nat)).fst ∧ (bf (0 : Nat)).snd = (bf (0 : Nat)).snd) ∧ (s3.length = s3.length ∧ 6 = 6) ∧ RL s3 = RL s3 ∧ PurL (RL s3) ∧ True))) := by kernel_rfl
open Go.IntKind GV Ent in
theorem e4n_side (h f l g : Int) (x : Rg) (a b : Tr) (s s1 s2 s3 : List Rg) (p0 p1 base : Nat) (bf : Nat → Nat × Nat) : sideP [p0, p1] base [(1001, 0)] bf [(Tr.mk h f l g x [a, b]).v, .fn 96 [.at_ 0 0 (bf 0).1 (bf 0).2]] [(Tr.mk h f l g x [a, b]).v, .fn 96 [.ptr p0 0]] [.blk [.ol 1 s.length 6] 56, .ob (RL s) 23] [.blk [.ol p1 s.length 6] 56, .ob (RL s) 23] (.tup []) (.tup []) [.blk [.ol 2 s3.length 6] 56, .emp, .ob (RL s3) 23] ([.blk [.ol base s3.length 6] 56, .emp] ++ [.ob (RL s3) 23]) = (h = h ∧ f = f ∧ l = l ∧ g = g ∧ x.start = x.start ∧ x.pages = x.pages ∧ x.prot = x.prot ∧ x.flags = x.flags ∧ x.file = x.file ∧ x.index = x.index ∧ 2 = 2 ∧ [int i64 a.h, int i64 a.f, int i64 a.l, int i64 a.g, int i64 a.r.start, int i64 a.r.pages, int i64 a.r.prot, int i64 a.r.flags, int i64 a.r.file, int i64 a.r.index, im a.kids.length a.K, int i64 b.h, int i64 b.f, int i64 b.l, int i64 b.g, int i64 b.r.start, int i64 b.r.pages, int i64 b.r.prot, int i64 b.r.flags, int i64 b.r.file, int i64 b.r.index, im b.kids.length b.K] = [int i64 a.h, int i64 a.f, int i64 a.l, int i64 a.g, int i64 a.r.start, int i64 a.r.pages, int i64 a.r.prot, int i64 a.r.flags, int i64 a.r.file, int i64 a.r.index, im a.kids.length a.K, int i64 b.h, int i64 b.f, int i64 b.l, int i64 b.g, int i64 b.r.start, int i64 b.r.pages, int i64 b.r.prot, int i64 b.r.flags, int i64 b.r.file, int i64 b.r.index, im b.kids.length b.K] ∧ PurL [int i64 a.h, int i64 a.f, int i64 a.l, int i64 a.g, int i64 a.r.start, int i64 a.r.pages, int i64 a.r.prot, int i64 a.r.flags, int i64 a.r.file, int i64 a.r.index, im a.kids.length a.K, int i64 b.h, int i64 b.f, int i64 b.l, int i64 b.g, int i64 b.r.start, int i64 b.r.pages, int i64 b.r.prot, int i64 b.r.flags, int i64 b.r.file, int i64 b.r.index, im b.kids.length b.K] ∧ true = true ∧ p0 = p0 ∧ 0 = 0 ∧ (bf (0 : Nat)).fst = (bf (0 : Nat)).fst ∧ (bf (0 : Nat)).snd = (bf (0 : Nat)).snd ∧ 56 = 56 ∧ true = true ∧ p1 = p1 ∧ s.length = s.length ∧ 6 = 6 ∧ 23 = 23 ∧ RL s = RL s ∧ PurL (RL s) ∧ 56 = 56 ∧ true = true ∧ base = base ∧ s3.length = s3.length ∧ 6 = 6 ∧ 23 = 23 ∧ RL s3 = RL s3 ∧ PurL (RL s3) ∧ true = true ∧ true = true) := by kernel_rfl
theorem e4n_cs (h f l g : Int) (x : Rg) (a b : Tr) (s s1 s2 s3 : List Rg) (h0 : (h == 0) = false) (ha : ∀ p0 p1 base, p0 ≠ p1 → p0 < base → p1 < base → CallSem Try.prog 95 [a.v, .fn 96 [.ptr p0 0]] [(p0, .blk [.ol p1 s.length 6] 56), (p1, .ob (RL s) 23)] base (.tup []) [(p0, .blk [.ol base s1.length 6] 56), (p1, .emp)] [.ob (RL s1) 23])
   (hc : ∀ p0 p1 base, p0 ≠ p1 → p0 < base → p1 < base → CallSem Try.prog 96 [(Tr.mk h f l g x [a, b]).v, .ptr p0 0] [(p0, .blk [.ol p1 s1.length 6] 56), (p1, .ob (RL s1) 23)] base (.tup []) [(p0, .blk [.ol base s2.length 6] 56), (p1, .emp)] [.ob (RL s2) 23])
   (hb : ∀ p0 p1 base, p0 ≠ p1 → p0 < base → p1 < base → CallSem Try.prog 95 [b.v, .fn 96 [.ptr p0 0]] [(p0, .blk [.ol p1 s2.length 6] 56), (p1, .ob (RL s2) 23)] base (.tup []) [(p0, .blk [.ol base s3.length 6] 56), (p1, .emp)] [.ob (RL s3) 23]) (p0 p1 base : Nat) (h01 : p0 ≠ p1) (hb0 : p0 < base) (hb1 : p1 < base) : CallSem Try.prog 95 [(Tr.mk h f l g x [a, b]).v, .fn 96 [.ptr p0 0]] [(p0, .blk [.ol p1 s.length 6] 56), (p1, .ob (RL s) 23)] base (.tup []) [(p0, .blk [.ol base s3.length 6] 56), (p1, .emp)] [.ob (RL s3) 23] := by
  have hnd : nodupB [p0, p1] = true := by simp [nodupB, beqF h01]
  have hlt : ∀ p ∈ [p0, p1], p < base := by intro p hp; simp at hp; omega
  refine CallSem.of_vcS (fps := [.blk [.ol p1 s.length 6] 56, .ob (RL s) 23]) (upds := [.blk [.ol base s3.length 6] 56, .emp]) mixedA tabA e1z_ok [p0, p1] rfl rfl hnd hlt [(1001, 0)] (fun bf => [(Tr.mk h f l g x [a, b]).v, .fn 96 [.at_ 0 0 (bf 0).1 (bf 0).2]]) (fun bf => [.blk [.ol 1 s.length 6] 56, .ob (RL s) 23]) (.tup []) [.blk [.ol 2 s3.length 6] 56, .emp, .ob (RL s3) 23] (e4n_side h f l g x a b s s1 s2 s3 p0 p1 base) (fun bf => ?_) (e4n_vc h f l g x a b s s1 s2 s3) (fun bf => ?_)
  · repeat' (first | exact RL_pur _ | with_reducible rfl | refine And.intro ?_ ?_)
    all_goals first | rfl | assumption | exact Nat.le_of_ble_eq_true (Eq.refl true) | (refine PurAll.mem ?_; repeat' (first | exact trivial | exact Pur.int | exact Pur.im (Tr.purK _) | refine And.intro ?_ ?_)) | (simp [RL_length, RL_takeL, RL_append, RL]; done)
  · try rw [h0]
    repeat' (first | exact ha _ _ _ (by decide) (by decide) (by decide) | exact hc _ _ _ (by decide) (by decide) (by decide) | exact hb _ _ _ (by decide) (by decide) (by decide) | exact RL_pur _ | refine And.intro ?_ ?_ | (intro h_; first | (cases h_; done) | rw [h_] | (simp only [Bool.not_eq_true', Bool.not_eq_false'] at h_; rw [h_]) | skip))
    all_goals (first | exact trivial | with_reducible rfl | (simp [RL_length, RL_takeL, RL_append, RL, bsm]; done))
theorem e1_cs (t : Tr) : ∀ (s : Bool) (p0 base : Nat), p0 < base → CallSem Try.prog 95 [t.v, .fn 109 [.ptr p0 0]] [(p0, .blk [.bool s] 4)] base (.tup []) [(p0, .blk [.bool ((nodesF t).foldl (fun b t => b && validF t.r) s)] 4)] [] := by
  induction t using Tr.cas with
  | hz t hz => intro s p0 base hb; rw [nodesF_else t hz]; exact e1z_cs t s hz p0 base hb
  | hn h f l g x a b h0 iha ihb =>
    intro s p0 base hb
    rw [nodesF_two, h0, cond_false, List.foldl_append, List.foldl_cons]
    exact e1n_cs h f l g x a b s _ _ _ h0 (iha s) (c1_cs _ _) (ihb _) p0 base hb
theorem e3_cs (t : Tr) : ∀ (s : Bool) (p0 base : Nat), p0 < base → CallSem Try.prog 95 [t.v, .fn 130 [.ptr p0 0]] [(p0, .blk [.bool s] 4)] base (.tup []) [(p0, .blk [.bool ((nodesF t).foldl (fun b t => b && numF t) s)] 4)] [] := by
  induction t using Tr.cas with
  | hz t hz => intro s p0 base hb; rw [nodesF_else t hz]; exact e3z_cs t s hz p0 base hb
  | hn h f l g x a b h0 iha ihb =>
    intro s p0 base hb
    rw [nodesF_two, h0, cond_false, List.foldl_append, List.foldl_cons]
    exact e3n_cs h f l g x a b s _ _ _ h0 (iha s) (c3_cs _ _ ⟨a, b, rfl⟩) (ihb _) p0 base hb
def ordS (s : Bool × Int) (t : Tr) : Bool × Int := (s.1 && decide (t.r.start ≥ s.2), t.r.end)
theorem e2_cs (t : Tr) : ∀ (s : Bool × Int) (p0 p1 base : Nat), p0 ≠ p1 → p0 < base → p1 < base → CallSem Try.prog 95 [t.v, .fn 111 [.ptr p0 0, .ptr p1 0]] [(p0, .blk [.bool s.1] 4), (p1, .blk [.int .i64 s.2] 3)] base (.tup [])
    [(p0, .blk [.bool ((nodesF t).foldl ordS s).1] 4), (p1, .blk [.int .i64 ((nodesF t).foldl ordS s).2] 3)] [] := by
  induction t using Tr.cas with
  | hz t hz => intro s p0 p1 base h01 hb0 hb1; rw [nodesF_else t hz]; exact e2z_cs t s.1 s.2 hz p0 p1 base h01 hb0 hb1
  | hn h f l g x a b h0 iha ihb =>
    intro s p0 p1 base h01 hb0 hb1
    rw [nodesF_two, h0, cond_false, List.foldl_append, List.foldl_cons]
    exact e2n_cs h f l g x a b s.1 _ _ _ s.2 _ _ _ h0 (iha s) (c2_cs _ _ _) (ihb (ordS ((nodesF a).foldl ordS s) (.mk h f l g x [a, b]))) p0 p1 base h01 hb0 hb1
theorem e4_cs (t : Tr) : ∀ (s : List Rg) (hs : s.length + (nodesF t).length ≤ 1073741824) (p0 p1 base : Nat), p0 ≠ p1 → p0 < base → p1 < base → CallSem Try.prog 95 [t.v, .fn 96 [.ptr p0 0]] [(p0, .blk [.ol p1 s.length 6] 56), (p1, .ob (RL s) 23)] base (.tup [])
    [(p0, .blk [.ol base (s ++ (nodesF t).map Tr.r).length 6] 56), (p1, .emp)] [.ob (RL (s ++ (nodesF t).map Tr.r)) 23] := by
  induction t using Tr.cas with
  | hz t hz => intro s _ p0 p1 base h01 hb0 hb1; rw [nodesF_else t hz, List.map_nil, List.append_nil]; exact e4z_cs t s hz p0 p1 base h01 hb0 hb1
  | hn h f l g x a b h0 iha ihb =>
    intro s hs p0 p1 base h01 hb0 hb1
    rw [nodesF_two, h0, cond_false] at hs ⊢
    rw [List.length_append, List.length_cons] at hs
    have e : s ++ (nodesF a ++ (Tr.mk h f l g x [a, b] :: nodesF b)).map Tr.r = app (s ++ (nodesF a).map Tr.r) x ++ (nodesF b).map Tr.r := by simp [app, Tr.r]
    rw [e]
    exact e4n_cs h f l g x a b s _ _ _ h0 (iha s (by omega)) (c4_cs _ _ (by simp; omega)) (ihb _ (by simp [app, Tr.r]; omega)) p0 p1 base h01 hb0 hb1
end Go.Proofs.Ytalcipbagidbpaa
end

section
set_option linter.unusedVariables false
namespace Go.Proofs.Ytalcipbagidbpaa
open Go.Proofs
def numberedF (t : Tr) : Bool := (nodesF t).foldl (fun b t => b && numF t) true
theorem numbered_ok : FnOK Try.prog 113 Try.f113 (bodyOf Try.f113) := ⟨Try.func113, rfl, rfl⟩
open Go.IntKind GV Ent in
theorem numbered_vc (t : Tr) : vc Try.prog TA none [] [(6, cl [1] (.tup []) [.blk [.bool (numberedF t)] 4] [])] (bodyOf Try.f113) ⟨startT Try.f113 [t.v], []⟩ (Fin TA Try.f113 (.bool (numberedF t))) = (1 = 1 ∧ true = true ∧ 1 ≤ 1 ∧ CallSem Try.prog 95 [t.v, fn (130 : Nat) [ptr 1 (0 : Nat)]] [((1 : Nat), blk [bool true] (4 : Nat))] 2 (tup []) [((1 : Nat), blk [bool (numberedF t)] (4 : Nat))] [] ∧ numberedF t = numberedF t ∧ True) := by kernel_rfl
theorem numbered_ps (t : Tr) : PS Try.prog 113 [t.v] (.bool (numberedF t)) := by
  refine .of_vcN mixedA tabA numbered_ok (by repeat' (first | exact trivial | exact Tr.pur _ | refine And.intro ?_ ?_)) (numbered_vc t) ?_
  repeat' (first | exact e3_cs t true 1 2 (by decide) | refine And.intro ?_ ?_)
  all_goals (first | exact trivial | with_reducible rfl | exact Nat.le_refl _)
def rangesF (t : Tr) : Bool := (nodesF t).foldl (fun b t => b && validF t.r) true
def orderF (t : Tr) : Bool × Int := (nodesF t).foldl ordS (true, 0)
def checkF (t : Tr) : Int := bif !formedF t then 3 else bif !rangesF t then 2 else bif !(orderF t).1 then 10 else bif !numberedF t then 11 else 0
theorem tcheck_ok : FnOK Try.prog 71 Try.f71 (bodyOf Try.f71) := ⟨Try.func71, rfl, rfl⟩
open Go.IntKind GV Ent in
theorem tcheck_vc (t : Tr) : vc Try.prog TA none [] [(7, tl (.bool (formedF t))), (11, cl [1] (.tup []) [.blk [.bool (rangesF t)] 4] []), (16, cl [2, 3] (.tup []) [.blk [.bool (orderF t).1] 4, .blk [.int .i64 (orderF t).2] 3] []), (22, tl (.bool (numberedF t)))] (bodyOf Try.f71) ⟨startT Try.f71 [t.v], []⟩ (Fin TA Try.f71 (.int .i64 (checkF t))) = (CallSem Try.prog 108 [t.v] [] 1 (bool (formedF t)) [] [] ∧ ((!formedF t) = true → (3 : Int) = checkF t ∧ True) ∧ ((!formedF t) = false → 1 = 1 ∧ true = true ∧ 1 ≤ 1 ∧ 1 = 1 ∧ true = true ∧ 1 ≤ 1 ∧ 1 = 1 ∧ true = true ∧ 1 ≤ 1 ∧ CallSem Try.prog 95 [t.v, fn (109 : Nat) [ptr 1 (0 : Nat)]] [((1 : Nat), blk [bool true] (4 : Nat))] 4 (tup []) [((1 : Nat), blk [bool (rangesF t)] (4 : Nat))] [] ∧ ((!rangesF t) = true → (2 : Int) = checkF t ∧ True) ∧ ((!rangesF t) = false → CallSem Try.prog 95 [t.v, fn (111 : Nat) [ptr 2 (0 : Nat), ptr 3 (0 : Nat)]] [((2 : Nat), blk [bool true] (4 : Nat)), ((3 : Nat), blk [int i64 0] (3 : Nat))] 4 (tup []) [((2 : Nat), blk [bool (orderF t).fst] (4 : Nat)), ((3 : Nat), blk [int i64 (orderF t).snd] (3 : Nat))] [] ∧ ((!(orderF t).fst) = true → (10 : Int) = checkF t ∧ True) ∧ ((!(orderF t).fst) = false → CallSem Try.prog 113 [t.v] [] 4 (bool (numberedF t)) [] [] ∧ ((!numberedF t) = true → (11 : Int) = checkF t ∧ True) ∧ ((!numberedF t) = false → (0 : Int) = checkF t ∧ True))))) := by kernel_rfl
theorem tcheck_ps (t : Tr) : PS Try.prog 71 [t.v] (.int .i64 (checkF t)) := by
  refine .of_vcN mixedA tabA tcheck_ok (by repeat' (first | exact trivial | exact Tr.pur _ | refine And.intro ?_ ?_)) (tcheck_vc t) ?_
  try simp only [checkF]
  repeat' (first | exact formedA_ps t _ | exact e1_cs t true 1 4 (by decide) | exact e2_cs t (true, 0) 2 3 4 (by decide) (by decide) (by decide) | exact numbered_ps t _ | refine And.intro ?_ ?_ | (intro h_; first | (cases h_; done) | rw [h_] | (simp only [Bool.not_eq_true', Bool.not_eq_false'] at h_; rw [h_]) | skip))
  all_goals (first | exact trivial | exact Nat.le_refl _ | (simp only [bsm]; done))
def listF (t : Tr) : List Rg := bif checkF t != 0 then [] else (nodesF t).map Tr.r
theorem tlist_ok : FnOK Try.prog 52 Try.f52 (bodyOf Try.f52) := ⟨Try.func52, rfl, rfl⟩
open Go.IntKind GV Ent in
theorem tlist_vc (t : Tr) (bf : Nat → Nat × Nat) : vc Try.prog TA none [] [(5, tl (.int .i64 (checkF t))), (500004, .view fun s => ⟨s.t, [.blk t.v.cells 26, .blk [.ol 2 0 6] 56, .ob [] 23]⟩), (9, cl [1, 2] (.tup []) [.blk [.ol 3 ((nodesF t).map Tr.r).length 6] 56, .emp] [.ob (RL ((nodesF t).map Tr.r)) 23])] (bodyOf Try.f52) ⟨startT Try.f52 [t.v], []⟩ (FinO TA Try.f52 [] bf (.ol 0 (listF t).length 6) [.ob (RL (listF t)) 23]) = (CallSem Try.prog 71 [t.v] [] 1 (int i64 (checkF t)) [] [] ∧ ((checkF t != (0 : Int)) = true → (listF t).length = (0 : Nat) ∧ RL (listF t) = [] ∧ True) ∧ ((checkF t != (0 : Int)) = false → t.h = t.h ∧ t.f = t.f ∧ t.l = t.l ∧ t.g = t.g ∧ t.r.start = t.r.start ∧ t.r.pages = t.r.pages ∧ t.r.prot = t.r.prot ∧ t.r.flags = t.r.flags ∧ t.r.file = t.r.file ∧ t.r.index = t.r.index ∧ t.kids.length = t.kids.length ∧ t.K = t.K ∧ PurL t.K ∧ 0 = 0 ∧ 0 = 0 ∧ t.h = t.h ∧ t.f = t.f ∧ t.l = t.l ∧ t.g = t.g ∧ t.r.start = t.r.start ∧ t.r.pages = t.r.pages ∧ t.r.prot = t.r.prot ∧ t.r.flags = t.r.flags ∧ t.r.file = t.r.file ∧ t.r.index = t.r.index ∧ t.kids.length = t.kids.length ∧ t.K = t.K ∧ PurL t.K ∧ checkF t = checkF t ∧ false = false ∧ t.h = t.h ∧ t.f = t.f ∧ t.l = t.l ∧ t.g = t.g ∧ t.r.start = t.r.start ∧ t.r.pages = t.r.pages ∧ t.r.prot = t.r.prot ∧ t.r.flags = t.r.flags ∧ t.r.file = t.r.file ∧ t.r.index = t.r.index ∧ t.kids.length = t.kids.length ∧ t.K = t.K ∧ PurL t.K ∧ 0 = 0 ∧ ([] : List GV) = [] ∧ CallSem Try.prog 95 [t.v, fn (96 : Nat) [ptr 1 (0 : Nat)]] [((1 : Nat), blk [ol 2 (0 : Nat) (6 : Nat)] (56 : Nat)), ((2 : Nat), ob [] (23 : Nat))] 3 (tup []) [((1 : Nat), blk [ol 3 (List.map Tr.r (nodesF t)).length (6 : Nat)] (56 : Nat)), ((2 : Nat), emp)] [ob (RL (List.map Tr.r (nodesF t))) (23 : Nat)] ∧ ((List.map Tr.r (nodesF t)).length = (listF t).length ∧ 6 = 6) ∧ RL (List.map Tr.r (nodesF t)) = RL (listF t) ∧ PurL (RL (listF t)) ∧ True)) := by kernel_rfl
theorem tlist_side (t : Tr) (base : Nat) (bf : Nat → Nat × Nat) : sideP [] base [] bf [t.v] [t.v] [] [] (.ol 0 (listF t).length 6) (.ol base (listF t).length 6) [.ob (RL (listF t)) 23] ([] ++ [.ob (RL (listF t)) 23]) = (t.h = t.h ∧ t.f = t.f ∧ t.l = t.l ∧ t.g = t.g ∧ t.r.start = t.r.start ∧ t.r.pages = t.r.pages ∧ t.r.prot = t.r.prot ∧ t.r.flags = t.r.flags ∧ t.r.file = t.r.file ∧ t.r.index = t.r.index ∧ t.kids.length = t.kids.length ∧ t.K = t.K ∧ PurL t.K ∧ true = true ∧ base = base ∧ (listF t).length = (listF t).length ∧ 6 = 6 ∧ 23 = 23 ∧ RL (listF t) = RL (listF t) ∧ PurL (RL (listF t)) ∧ true = true ∧ true = true) := by kernel_rfl
theorem tlist_cs (t : Tr) (hl : (nodesF t).length ≤ 1073741824) (base : Nat)   : CallSem Try.prog 52 [t.v] [] base (.ol base (listF t).length 6) [] [.ob (RL (listF t)) 23] := by
  have e4 := e4_cs t [] (by simpa using hl); simp only [List.nil_append] at e4
  have hnd : nodupB [] = true := by simp [nodupB]
  have hlt : ∀ p ∈ ([] : List Nat), p < base := by intro p hp; simp at hp
  refine CallSem.of_vcS (fps := []) (upds := []) mixedA tabA tlist_ok [] rfl rfl hnd hlt [] (fun bf => [t.v]) (fun bf => []) (.ol 0 (listF t).length 6) [.ob (RL (listF t)) 23] (tlist_side t  base) (fun bf => ?_) (tlist_vc t) (fun bf => ?_)
  · repeat' (first | exact Tr.purK _ | exact RL_pur _ | with_reducible rfl | refine And.intro ?_ ?_)
    all_goals first | rfl | assumption | exact Nat.le_of_ble_eq_true (Eq.refl true) | (refine PurAll.mem ?_; repeat' (first | skip)) | (simp [RL_length, RL_takeL, RL_append, RL]; done)
  · try simp only [listF]
    repeat' (first | exact tcheck_ps t _ | exact e4 1 2 3 (by decide) (by decide) (by decide) | exact Tr.purK _ | exact RL_pur _ | refine And.intro ?_ ?_ | (intro h_; first | (cases h_; done) | rw [h_] | (simp only [Bool.not_eq_true', Bool.not_eq_false'] at h_; rw [h_]) | skip))
    all_goals (first | exact trivial | (simp only [bsm]; done) | (simp only [bsm]; exact rfl))
theorem tlist_own (l : List Rg) : allP (vw (fun p => [Ent.ob (RL l) 23][p]?) [] 8 (.ol 0 l.length 6) (Lv l)) = (l.length = l.length ∧ ((RL l).length = l.length * 6 ∧ (0 : Nat) < (6 : Nat)) ∧ RL l = RL l ∧ ∀ (c : GV), List.Mem c (RL l) → ∀ (W : World) (E : Env) (v : Value), R W E c v → R W { I := E.I, ok := fun x => False, bk := E.bk, tot := E.tot } c v) := by kernel_rfl
theorem tlist_ps (t : Tr) (hl : (nodesF t).length ≤ 1073741824) : PS Try.prog 52 [t.v] (Lv (listF t)) :=
  .of_own ⟨t.pur, trivial⟩ (tlist_cs t hl 0) (by rw [tlist_own]; exact ⟨rfl, ⟨RL_length _, by decide⟩, rfl, RL_pur _⟩)
end Go.Proofs.Ytalcipbagidbpaa
end

section
set_option linter.unusedVariables false
namespace Go.Proofs.Ytalcipbagidbpaa
open Go.Proofs
theorem formedF_inv {t : Tr} (hf : formedF t = true) (h0 : t.h ≠ 0) : ∃ a b, t.kids = [a, b] ∧ formedF a = true ∧ formedF b = true := by
  cases t with
  | mk h f l g x k =>
    by_cases hk : ∃ a b, k = [a, b]
    · obtain ⟨a, b, rfl⟩ := hk
      have hh : (h == 0) = false := by simpa [Tr.h] using h0
      rw [formedF_two, hh, cond_false, Bool.and_eq_true] at hf
      exact ⟨a, b, rfl, hf.1, hf.2⟩
    · have hh : ((Tr.mk h f l g x k).h == 0) = false := by simpa [Tr.h] using h0
      rw [formedF_else (.mk h f l g x k) (fun a b e => hk ⟨a, b, e⟩), hh, cond_false] at hf
      cases hf
/-- The number of the nodes. -/
def Tr.sz : Tr → Nat
  | .mk _ _ _ _ _ [a, b] => 1 + a.sz + b.sz
  | _ => 0
theorem Tr.sz_two (h f l g : Int) (x : Rg) (a b : Tr) : (Tr.mk h f l g x [a, b]).sz = 1 + a.sz + b.sz := by rw [Tr.sz]
def afterF (page : Int) : Tr → Rg → Bool → Rg × Bool
  | .mk h f l g x [a, b], r, fd => bif decide (h > 0) then (bif decide (x.end > page) then afterF page a x true else afterF page b r fd) else (r, fd)
  | _, r, fd => (r, fd)
theorem afterF_stop (page : Int) (t : Tr) (r : Rg) (fd : Bool) (h : decide (t.h > 0) = false) : afterF page t r fd = (r, fd) := by
  cases t with
  | mk h' f l g x k =>
    unfold afterF
    split
    · rename_i e
      simp only [Tr.mk.injEq] at e
      obtain ⟨rfl, rfl, rfl, rfl, rfl, rfl⟩ := e
      have h : decide (h' > 0) = false := h
      rw [h]; rfl
    · rfl
theorem afterF_go (page : Int) (t : Tr) (a b : Tr) (r : Rg) (fd : Bool) (hk : t.kids = [a, b]) (h : decide (t.h > 0) = true) : afterF page t r fd = bif decide (t.r.end > page) then afterF page a t.r true else afterF page b r fd := by
  cases t with
  | mk h' f l g x k =>
    cases (hk : k = [a, b])
    have h : decide (h' > 0) = true := h
    rw [afterF, h, cond_true]; rfl
def aftS (page : Int) (t : Tr) (r : Rg) (fd : Bool) : St := ⟨tmL 28 [(1, .int .i64 page), (2, .ptr 0 0), (4, .ptr 1 0), (6, .ptr 2 0), (7, .bool fd)], [.blk t.cells 26, .blk zR.cells 23, .blk r.cells 23]⟩
def aftO (r : Rg) (fd : Bool) : St := ⟨tmL 28 [(4, .ptr 1 0), (6, .ptr 2 0), (7, .bool fd)], [.emp, .blk zR.cells 23, .blk r.cells 23]⟩
open Go.IntKind GV Ent in
theorem aft_rd (page : Int) (t nt : Tr) (r nr o : Rg) (fd nfd od : Bool) (X : Prop) : vc Try.prog TA none [] [(13, tl (.int .i64 t.r.end)), (21, tl (k0 t).v), (25, tl (k1 t).v)] (loopOf 3 Try.f107) (aftS page t r fd) (LoopK (aftS page nt nr nfd) X [(True, .exit 0, aftO o od)]) = ((decide (t.h > 0) = true → CallSem Try.prog 112 [t.r.v] [] 3 (int i64 t.r.end) [] [] ∧ (decide (t.r.end > page) = true → 6 = 6 ∧ true = true ∧ 6 ≤ 6 ∧ ((0 : Int) ≤ (0 : Int) ∧ (0 : Int) < ↑t.kids.length) ∧ t.K.length = t.kids.length * 11 ∧ 11 = 11 ∧ List.take 11 t.K = [int i64 (k0 t).h, int i64 (k0 t).f, int i64 (k0 t).l, int i64 (k0 t).g, int i64 (k0 t).r.start, int i64 (k0 t).r.pages, int i64 (k0 t).r.prot, int i64 (k0 t).r.flags, int i64 (k0 t).r.file, int i64 (k0 t).r.index, im (k0 t).kids.length (k0 t).K] ∧ 11 = 11 ∧ true = true ∧ 11 ≤ 11 ∧ page = page ∧ 0 = 0 ∧ 0 = 0 ∧ 0 = 0 ∧ true = nfd ∧ (k0 t).h = nt.h ∧ (k0 t).f = nt.f ∧ (k0 t).l = nt.l ∧ (k0 t).g = nt.g ∧ (k0 t).r.start = nt.r.start ∧ (k0 t).r.pages = nt.r.pages ∧ (k0 t).r.prot = nt.r.prot ∧ (k0 t).r.flags = nt.r.flags ∧ (k0 t).r.file = nt.r.file ∧ (k0 t).r.index = nt.r.index ∧ (k0 t).kids.length = nt.kids.length ∧ (k0 t).K = nt.K ∧ PurL (k0 t).K ∧ [int i64 0, int i64 0, int i64 0, int i64 0, int i64 0, int i64 0] = [int i64 0, int i64 0, int i64 0, int i64 0, int i64 0, int i64 0] ∧ PurL [int i64 0, int i64 0, int i64 0, int i64 0, int i64 0, int i64 0] ∧ [int i64 t.r.start, int i64 t.r.pages, int i64 t.r.prot, int i64 t.r.flags, int i64 t.r.file, int i64 t.r.index] = [int i64 nr.start, int i64 nr.pages, int i64 nr.prot, int i64 nr.flags, int i64 nr.file, int i64 nr.index] ∧ PurL nr.cells ∧ X) ∧ (decide (t.r.end > page) = false → ((0 : Int) ≤ (1 : Int) ∧ (1 : Int) < ↑t.kids.length) ∧ t.K.length = t.kids.length * 11 ∧ 11 = 11 ∧ List.take 11 (List.drop 0 (List.drop 11 t.K)) = [int i64 (k1 t).h, int i64 (k1 t).f, int i64 (k1 t).l, int i64 (k1 t).g, int i64 (k1 t).r.start, int i64 (k1 t).r.pages, int i64 (k1 t).r.prot, int i64 (k1 t).r.flags, int i64 (k1 t).r.file, int i64 (k1 t).r.index, im (k1 t).kids.length (k1 t).K] ∧ 11 = 11 ∧ true = true ∧ 11 ≤ 11 ∧ page = page ∧ 0 = 0 ∧ 0 = 0 ∧ 0 = 0 ∧ fd = nfd ∧ (k1 t).h = nt.h ∧ (k1 t).f = nt.f ∧ (k1 t).l = nt.l ∧ (k1 t).g = nt.g ∧ (k1 t).r.start = nt.r.start ∧ (k1 t).r.pages = nt.r.pages ∧ (k1 t).r.prot = nt.r.prot ∧ (k1 t).r.flags = nt.r.flags ∧ (k1 t).r.file = nt.r.file ∧ (k1 t).r.index = nt.r.index ∧ (k1 t).kids.length = nt.kids.length ∧ (k1 t).K = nt.K ∧ PurL (k1 t).K ∧ [int i64 0, int i64 0, int i64 0, int i64 0, int i64 0, int i64 0] = [int i64 0, int i64 0, int i64 0, int i64 0, int i64 0, int i64 0] ∧ PurL [int i64 0, int i64 0, int i64 0, int i64 0, int i64 0, int i64 0] ∧ [int i64 r.start, int i64 r.pages, int i64 r.prot, int i64 r.flags, int i64 r.file, int i64 r.index] = [int i64 nr.start, int i64 nr.pages, int i64 nr.prot, int i64 nr.flags, int i64 nr.file, int i64 nr.index] ∧ PurL nr.cells ∧ X)) ∧ (decide (t.h > 0) = false → 0 = 0 ∧ 0 = 0 ∧ fd = od ∧ [int i64 0, int i64 0, int i64 0, int i64 0, int i64 0, int i64 0] = [int i64 0, int i64 0, int i64 0, int i64 0, int i64 0, int i64 0] ∧ PurL [int i64 0, int i64 0, int i64 0, int i64 0, int i64 0, int i64 0] ∧ [int i64 r.start, int i64 r.pages, int i64 r.prot, int i64 r.flags, int i64 r.file, int i64 r.index] = [int i64 o.start, int i64 o.pages, int i64 o.prot, int i64 o.flags, int i64 o.file, int i64 o.index] ∧ PurL o.cells ∧ True)) := by kernel_rfl
theorem Tr.sz_kids {t a b : Tr} (hk : t.kids = [a, b]) : t.sz = 1 + a.sz + b.sz := by
  cases t with
  | mk h f l g x k => cases (hk : k = [a, b]); rw [Tr.sz_two]
theorem k0_of {t a b : Tr} (hk : t.kids = [a, b]) : k0 t = a := by unfold k0; rw [hk]
theorem k1_of {t a b : Tr} (hk : t.kids = [a, b]) : k1 t = b := by unfold k1; rw [hk]
theorem K_of {t a b : Tr} (hk : t.kids = [a, b]) : t.K = a.cells ++ b.cells := by rw [K_eq, hk, KL_cons, KL_cons]; simp [KL]
structure AfB where
  t : Tr
  r : Rg
  fd : Bool
theorem aft_loop (page : Int) (t : Tr) (hf : formedF t = true) (r : Rg) (fd : Bool) :
    GW Try.prog none [] (.loop (loopOf 3 Try.f107)) (aftS page t r fd) (OneOf [(True, .exit 0, aftO (afterF page t r fd).1 (afterF page t r fd).2)]) := by
  refine GW.loopF mixedA tabA (β := AfB) (fun b => aftS page b.t b.r b.fd) (fun b => formedF b.t = true) (fun b => b.t.sz)
    (fun b => bif decide (b.t.r.end > page) then ⟨k0 b.t, b.t.r, true⟩ else ⟨k1 b.t, b.r, b.fd⟩) (fun b => [(True, .exit 0, aftO (afterF page b.t b.r b.fd).1 (afterF page b.t b.r b.fd).2)])
    (fun b => [(13, tl (.int .i64 b.t.r.end)), (21, tl (k0 b.t).v), (25, tl (k1 b.t).v)]) ?_ ⟨t, r, fd⟩ hf
  rintro ⟨t, r, fd⟩ hf
  rw [aft_rd]
  have e1 := end_ps t.r 3
  refine ⟨fun h0 => ?_, fun h0 => ?_⟩
  · obtain ⟨a, b, hk, ha, hb⟩ := formedF_inv hf (by have := of_decide_eq_true h0; omega)
    have hK := K_of hk
    have hl : t.kids.length = 2 := by rw [hk]; rfl
    simp only [k0_of hk, k1_of hk, hK, hl] at *
    refine ⟨e1, fun h1 => ?_, fun h1 => ?_⟩
    · rw [h1]
      simp only [cond_true]
      have hs := Tr.sz_kids hk
      have ho := afterF_go page t a b r fd hk h0
      rw [h1, cond_true] at ho
      repeat' (first | exact Tr.purK _ | exact purS (Eq.refl true) | refine And.intro ?_ ?_)
      all_goals first | rfl | exact ha | (simp [Tr.cells]; done) | (show a.sz < t.sz; omega) | (rw [ho]; exact fun e s h => h)
    · rw [h1]
      simp only [cond_false]
      have hs := Tr.sz_kids hk
      have ho := afterF_go page t a b r fd hk h0
      rw [h1, cond_false] at ho
      repeat' (first | exact Tr.purK _ | exact purS (Eq.refl true) | refine And.intro ?_ ?_)
      all_goals first | rfl | exact hb | (simp [Tr.cells]; done) | (show b.sz < t.sz; omega) | (rw [ho]; exact fun e s h => h)
  · have ho := afterF_stop page t r fd h0
    simp only [ho]
    repeat' (first | exact purS (Eq.refl true) | refine And.intro ?_ ?_)
    all_goals first | exact trivial | rfl | skip
theorem after_ok : FnOK Try.prog 107 Try.f107 (bodyOf Try.f107) := ⟨Try.func107, rfl, rfl⟩
open Go.IntKind GV Ent in
theorem after_vc (t : Tr) (page : Int) : vc Try.prog TA none [] [(100003, .loop (aftS page t zR false) [(True, .exit 0, aftO (afterF page t zR false).1 (afterF page t zR false).2)])] (bodyOf Try.f107) ⟨startT Try.f107 [t.v, .int .i64 page], []⟩ (Fin TA Try.f107 (.tup [(afterF page t zR false).1.v, .bool (afterF page t zR false).2])) = (page = page ∧ 0 = 0 ∧ 0 = 0 ∧ 0 = 0 ∧ false = false ∧ t.h = t.h ∧ t.f = t.f ∧ t.l = t.l ∧ t.g = t.g ∧ t.r.start = t.r.start ∧ t.r.pages = t.r.pages ∧ t.r.prot = t.r.prot ∧ t.r.flags = t.r.flags ∧ t.r.file = t.r.file ∧ t.r.index = t.r.index ∧ t.kids.length = t.kids.length ∧ t.K = t.K ∧ PurL t.K ∧ [int i64 0, int i64 0, int i64 0, int i64 0, int i64 0, int i64 0] = [int i64 0, int i64 0, int i64 0, int i64 0, int i64 0, int i64 0] ∧ PurL [int i64 0, int i64 0, int i64 0, int i64 0, int i64 0, int i64 0] ∧ [int i64 0, int i64 0, int i64 0, int i64 0, int i64 0, int i64 0] = [int i64 0, int i64 0, int i64 0, int i64 0, int i64 0, int i64 0] ∧ PurL [int i64 0, int i64 0, int i64 0, int i64 0, int i64 0, int i64 0] ∧ GW Try.prog none [] (loopOf (3 : Nat) Try.f107).loop { t := [any, int i64 page, ptr 0 (0 : Nat), any, ptr 1 (0 : Nat), any, ptr 2 (0 : Nat), bool false, any, any, any, any, any, any, any, any, any, any, any, any, any, any, any, any, any, any, any, any], h := [blk t.cells (26 : Nat), blk [int i64 0, int i64 0, int i64 0, int i64 0, int i64 0, int i64 0] (23 : Nat), blk [int i64 0, int i64 0, int i64 0, int i64 0, int i64 0, int i64 0] (23 : Nat)] } (OneOf [(True, Exit.exit (0 : Nat), aftO (afterF page t zR false).fst (afterF page t zR false).snd)]) ∧ (True → 6 = 6 ∧ true = true ∧ 6 ≤ 6 ∧ (afterF page t zR false).fst.start = (afterF page t zR false).fst.start ∧ (afterF page t zR false).fst.pages = (afterF page t zR false).fst.pages ∧ (afterF page t zR false).fst.prot = (afterF page t zR false).fst.prot ∧ (afterF page t zR false).fst.flags = (afterF page t zR false).fst.flags ∧ (afterF page t zR false).fst.file = (afterF page t zR false).fst.file ∧ (afterF page t zR false).fst.index = (afterF page t zR false).fst.index ∧ (afterF page t zR false).snd = (afterF page t zR false).snd ∧ True) ∧ True) := by kernel_rfl
theorem after_ps (t : Tr) (page : Int) (hf : formedF t = true) : PS Try.prog 107 [t.v, .int .i64 page] (.tup [(afterF page t zR false).1.v, .bool (afterF page t zR false).2]) := by
  refine .of_vcN mixedA tabA after_ok (by repeat' (first | exact trivial | exact Tr.pur _ | exact Pur.int | refine And.intro ?_ ?_)) (after_vc t page) ?_
  repeat' (first | exact (aft_loop page t hf zR false) | exact Tr.purK _ | exact purS (Eq.refl true) | refine And.intro ?_ ?_ | (intro h_; first | (cases h_; done) | rw [h_] | (simp only [Bool.not_eq_true', Bool.not_eq_false'] at h_; rw [h_]) | skip))
  all_goals (first | exact trivial | with_reducible rfl | exact Nat.le_refl _)
def nextF (t : Tr) (page : Int) : Rg × Bool := bif checkF t != 0 then (zR, false) else afterF page t zR false
theorem checkF_formed {t : Tr} (h : (checkF t != 0) = false) : formedF t = true := by
  cases hf : formedF t with
  | true => rfl
  | false => rw [checkF, hf] at h; cases h
theorem next_ok : FnOK Try.prog 67 Try.f67 (bodyOf Try.f67) := ⟨Try.func67, rfl, rfl⟩
open Go.IntKind GV Ent in
theorem next_vc (t : Tr) (page : Int) : vc Try.prog TA none [] [(7, tl (.int .i64 (checkF t))), (12, tl (.tup [(afterF page t zR false).1.v, .bool (afterF page t zR false).2]))] (bodyOf Try.f67) ⟨startT Try.f67 [t.v, .int .i64 page], []⟩ (Fin TA Try.f67 (.tup [(nextF t page).1.v, .bool (nextF t page).2])) = (CallSem Try.prog 71 [t.v] [] 2 (int i64 (checkF t)) [] [] ∧ ((checkF t != (0 : Int)) = true → 6 = 6 ∧ true = true ∧ 6 ≤ 6 ∧ 0 = (nextF t page).fst.start ∧ 0 = (nextF t page).fst.pages ∧ 0 = (nextF t page).fst.prot ∧ 0 = (nextF t page).fst.flags ∧ 0 = (nextF t page).fst.file ∧ 0 = (nextF t page).fst.index ∧ false = (nextF t page).snd ∧ True) ∧ ((checkF t != (0 : Int)) = false → CallSem Try.prog 107 [t.v, int i64 page] [] 2 (tup [(afterF page t zR false).fst.v, bool (afterF page t zR false).snd]) [] [] ∧ 6 = 6 ∧ true = true ∧ 6 ≤ 6 ∧ (afterF page t zR false).fst.start = (nextF t page).fst.start ∧ (afterF page t zR false).fst.pages = (nextF t page).fst.pages ∧ (afterF page t zR false).fst.prot = (nextF t page).fst.prot ∧ (afterF page t zR false).fst.flags = (nextF t page).fst.flags ∧ (afterF page t zR false).fst.file = (nextF t page).fst.file ∧ (afterF page t zR false).fst.index = (nextF t page).fst.index ∧ (afterF page t zR false).snd = (nextF t page).snd ∧ True)) := by kernel_rfl
theorem next_ps (t : Tr) (page : Int) : PS Try.prog 67 [t.v, .int .i64 page] (.tup [(nextF t page).1.v, .bool (nextF t page).2]) := by
  refine .of_vcN mixedA tabA next_ok (by repeat' (first | exact trivial | exact Tr.pur _ | exact Pur.int | refine And.intro ?_ ?_)) (next_vc t page) ?_
  try simp only [nextF, zR]
  repeat' (first | exact tcheck_ps t _ | exact after_ps t page (checkF_formed (by assumption)) _ | refine And.intro ?_ ?_ | (intro h_; first | (cases h_; done) | rw [h_] | (simp only [Bool.not_eq_true', Bool.not_eq_false'] at h_; rw [h_]) | skip))
  all_goals (first | exact trivial | exact Nat.le_refl _ | (simp only [bsm]; done))
def findF (t : Tr) (page : Int) : Rg × Bool := bif !(nextF t page).2 then (zR, false) else bif decide ((nextF t page).1.start > page) then (zR, false) else ((nextF t page).1, true)
theorem find_ok : FnOK Try.prog 68 Try.f68 (bodyOf Try.f68) := ⟨Try.func68, rfl, rfl⟩
open Go.IntKind GV Ent in
theorem find_vc (t : Tr) (page : Int) : vc Try.prog TA none [] [(11, tl (.tup [(nextF t page).1.v, .bool (nextF t page).2]))] (bodyOf Try.f68) ⟨startT Try.f68 [t.v, .int .i64 page], []⟩ (Fin TA Try.f68 (.tup [(findF t page).1.v, .bool (findF t page).2])) = (CallSem Try.prog 67 [t.v, int i64 page] [] 2 (tup [(nextF t page).fst.v, bool (nextF t page).snd]) [] [] ∧ 6 = 6 ∧ true = true ∧ 6 ≤ 6 ∧ ((!(nextF t page).snd) = true → 6 = 6 ∧ true = true ∧ 6 ≤ 6 ∧ 0 = (findF t page).fst.start ∧ 0 = (findF t page).fst.pages ∧ 0 = (findF t page).fst.prot ∧ 0 = (findF t page).fst.flags ∧ 0 = (findF t page).fst.file ∧ 0 = (findF t page).fst.index ∧ false = (findF t page).snd ∧ True) ∧ ((!(nextF t page).snd) = false → (decide ((nextF t page).fst.start > page) = true → 6 = 6 ∧ true = true ∧ 6 ≤ 6 ∧ 0 = (findF t page).fst.start ∧ 0 = (findF t page).fst.pages ∧ 0 = (findF t page).fst.prot ∧ 0 = (findF t page).fst.flags ∧ 0 = (findF t page).fst.file ∧ 0 = (findF t page).fst.index ∧ false = (findF t page).snd ∧ True) ∧ (decide ((nextF t page).fst.start > page) = false → 6 = 6 ∧ true = true ∧ 6 ≤ 6 ∧ (nextF t page).fst.start = (findF t page).fst.start ∧ (nextF t page).fst.pages = (findF t page).fst.pages ∧ (nextF t page).fst.prot = (findF t page).fst.prot ∧ (nextF t page).fst.flags = (findF t page).fst.flags ∧ (nextF t page).fst.file = (findF t page).fst.file ∧ (nextF t page).fst.index = (findF t page).fst.index ∧ true = (findF t page).snd ∧ True))) := by kernel_rfl
theorem find_ps (t : Tr) (page : Int) : PS Try.prog 68 [t.v, .int .i64 page] (.tup [(findF t page).1.v, .bool (findF t page).2]) := by
  refine .of_vcN mixedA tabA find_ok (by repeat' (first | exact trivial | exact Tr.pur _ | exact Pur.int | refine And.intro ?_ ?_)) (find_vc t page) ?_
  try simp only [findF, zR]
  repeat' (first | exact next_ps t page _ | refine And.intro ?_ ?_ | (intro h_; first | (cases h_; done) | rw [h_] | (simp only [Bool.not_eq_true', Bool.not_eq_false'] at h_; rw [h_]) | skip))
  all_goals (first | exact trivial | exact Nat.le_refl _ | (simp only [bsm]; done))
end Go.Proofs.Ytalcipbagidbpaa
end

section
set_option linter.unusedVariables false
namespace Go.Proofs.Ytalcipbagidbpaa
open Go.Proofs
def gapS (fr to lo n : Int) : Int := bif decide (IntKind.i64.wrap (to - if lo > fr then lo else fr) ≥ n) then (if lo > fr then lo else fr) else -1
def gapC (a : Tr) (x : Rg) (fr lo n : Int) : Bool := decide (w64 (x.start - lo) ≥ n) && ((a.h == 0) || (decide (a.g ≥ n) || (decide (w64 (a.f - fr) ≥ n) || decide (w64 (x.start - a.l) ≥ n))))
def gapF (n lo : Int) : Tr → Int → Int → Int
  | .mk h f l g x [a, b], fr, to => bif h == 0 then gapS fr to lo n else bif decide (w64 (to - lo) < n) then gapS fr to lo n else
    bif gapC a x fr lo n then (bif decide (gapF n lo a fr x.start ≥ 0) then gapF n lo a fr x.start else gapF n lo b x.end to) else gapF n lo b x.end to
  | _, fr, to => gapS fr to lo n
theorem gapF_two (n lo h f l g : Int) (x : Rg) (a b : Tr) (fr to : Int) (h0 : (h == 0) = false) (hd : decide (w64 (to - lo) < n) = false) : gapF n lo (.mk h f l g x [a, b]) fr to =
    bif gapC a x fr lo n then (bif decide (gapF n lo a fr x.start ≥ 0) then gapF n lo a fr x.start else gapF n lo b x.end to) else gapF n lo b x.end to := by
  rw [gapF, h0, hd]; rfl
theorem gapF_else (n lo : Int) (t : Tr) (fr to : Int) (hz : (t.h == 0) = false → decide (w64 (to - lo) < n) = true) : gapF n lo t fr to = gapS fr to lo n := by
  cases t with
  | mk h f l g x k =>
    unfold gapF
    split
    · rename_i e
      simp only [Tr.mk.injEq] at e
      obtain ⟨rfl, rfl, rfl, rfl, rfl, rfl⟩ := e
      cases hh : h == 0 with
      | true => rfl
      | false => rw [hz hh]; rfl
    · rfl
theorem gapZ_ok : FnOK Try.prog 90 Try.f90 (bodyOf Try.f90) := ⟨Try.func90, rfl, rfl⟩
open Go.IntKind GV Ent in
theorem gapZ_vc (t : Tr) (fr to lo n : Int) : vc Try.prog TA none [] [(37, .dead)] (bodyOf Try.f90) ⟨startT Try.f90 [t.v, .int .i64 fr, .int .i64 to, .int .i64 lo, .int .i64 n], []⟩ (Fin TA Try.f90 (.int .i64 (gapS fr to lo n))) = (((t.h == 0) = true → (decide (i64.wrap (to - if lo > fr then lo else fr) ≥ n) = true → (if lo > fr then lo else fr) = gapS fr to lo n ∧ True) ∧ (decide (i64.wrap (to - if lo > fr then lo else fr) ≥ n) = false → (-1 : Int) = gapS fr to lo n ∧ True)) ∧ ((t.h == 0) = false → (decide (i64.wrap (to - lo) < n) = true → (decide (i64.wrap (to - if lo > fr then lo else fr) ≥ n) = true → (if lo > fr then lo else fr) = gapS fr to lo n ∧ True) ∧ (decide (i64.wrap (to - if lo > fr then lo else fr) ≥ n) = false → (-1 : Int) = gapS fr to lo n ∧ True)) ∧ (decide (i64.wrap (to - lo) < n) = false → Stuck (37 : Nat)))) := by kernel_rfl
theorem gapZ_ps (t : Tr) (fr to lo n : Int) (hz : (t.h == 0) = false → decide (w64 (to - lo) < n) = true) : PS Try.prog 90 [t.v, .int .i64 fr, .int .i64 to, .int .i64 lo, .int .i64 n] (.int .i64 (gapS fr to lo n)) := by
  refine .of_vcN mixedA tabA gapZ_ok (by repeat' (first | exact trivial | exact Tr.pur _ | exact Pur.int | refine And.intro ?_ ?_)) (gapZ_vc t fr to lo n) ?_
  try simp only [gapS]
  repeat' (first | refine And.intro ?_ ?_ | (intro h_; first | (cases h_; done) | rw [h_] | (simp only [Bool.not_eq_true', Bool.not_eq_false'] at h_; rw [h_]) | skip))
  all_goals (first | exact trivial | (simp only [bsm]; done) | (exfalso; have hq := hz (by assumption); simp_all only [w64, Bool.true_eq_false, Bool.false_eq_true]; done))
open Go.IntKind GV Ent in
theorem gapN_vc (h f l g : Int) (x : Rg) (a b : Tr) (fr to lo n : Int) : vc Try.prog TA none [] [(37, tl (.tup [a.v, x.v, b.v])), (81, tl (.int .i64 (gapF n lo a fr x.start))), (87, tl (.int .i64 x.end)), (91, tl (.int .i64 (gapF n lo b x.end to)))] (bodyOf Try.f90) ⟨startT Try.f90 [(Tr.mk h f l g x [a, b]).v, .int .i64 fr, .int .i64 to, .int .i64 lo, .int .i64 n], []⟩ (Fin TA Try.f90 (.int .i64 (gapF n lo (.mk h f l g x [a, b]) fr to))) = (((h == (0 : Int)) = true → (decide (i64.wrap (to - if lo > fr then lo else fr) ≥ n) = true → (if lo > fr then lo else fr) = gapF n lo (Tr.mk h f l g x [a, b]) fr to ∧ True) ∧ (decide (i64.wrap (to - if lo > fr then lo else fr) ≥ n) = false → (-1 : Int) = gapF n lo (Tr.mk h f l g x [a, b]) fr to ∧ True)) ∧ ((h == (0 : Int)) = false → (decide (i64.wrap (to - lo) < n) = true → (decide (i64.wrap (to - if lo > fr then lo else fr) ≥ n) = true → (if lo > fr then lo else fr) = gapF n lo (Tr.mk h f l g x [a, b]) fr to ∧ True) ∧ (decide (i64.wrap (to - if lo > fr then lo else fr) ≥ n) = false → (-1 : Int) = gapF n lo (Tr.mk h f l g x [a, b]) fr to ∧ True)) ∧ (decide (i64.wrap (to - lo) < n) = false → CallSem Try.prog 124 [agg [int i64 h, int i64 f, int i64 l, int i64 g, int i64 x.start, int i64 x.pages, int i64 x.prot, int i64 x.flags, int i64 x.file, int i64 x.index, im 2 [int i64 a.h, int i64 a.f, int i64 a.l, int i64 a.g, int i64 a.r.start, int i64 a.r.pages, int i64 a.r.prot, int i64 a.r.flags, int i64 a.r.file, int i64 a.r.index, im a.kids.length a.K, int i64 b.h, int i64 b.f, int i64 b.l, int i64 b.g, int i64 b.r.start, int i64 b.r.pages, int i64 b.r.prot, int i64 b.r.flags, int i64 b.r.file, int i64 b.r.index, im b.kids.length b.K]]] [] 1 (tup [a.v, x.v, b.v]) [] [] ∧ 11 = 11 ∧ true = true ∧ 11 ≤ 11 ∧ 6 = 6 ∧ true = true ∧ 6 ≤ 6 ∧ 11 = 11 ∧ true = true ∧ 11 ≤ 11 ∧ (decide (i64.wrap (x.start - lo) ≥ n) = true → ((a.h == 0) = true → CallSem Try.prog 90 [a.v, int i64 fr, int i64 x.start, int i64 lo, int i64 n] [] 4 (int i64 (gapF n lo a fr x.start)) [] [] ∧ (decide (gapF n lo a fr x.start ≥ 0) = true → gapF n lo a fr x.start = gapF n lo (Tr.mk h f l g x [a, b]) fr to ∧ True) ∧ (decide (gapF n lo a fr x.start ≥ 0) = false → CallSem Try.prog 112 [x.v] [] 4 (int i64 x.end) [] [] ∧ CallSem Try.prog 90 [b.v, int i64 x.end, int i64 to, int i64 lo, int i64 n] [] 4 (int i64 (gapF n lo b x.end to)) [] [] ∧ gapF n lo b x.end to = gapF n lo (Tr.mk h f l g x [a, b]) fr to ∧ True)) ∧ ((a.h == 0) = false → (decide (a.g ≥ n) = true → CallSem Try.prog 90 [a.v, int i64 fr, int i64 x.start, int i64 lo, int i64 n] [] 4 (int i64 (gapF n lo a fr x.start)) [] [] ∧ (decide (gapF n lo a fr x.start ≥ 0) = true → gapF n lo a fr x.start = gapF n lo (Tr.mk h f l g x [a, b]) fr to ∧ True) ∧ (decide (gapF n lo a fr x.start ≥ 0) = false → CallSem Try.prog 112 [x.v] [] 4 (int i64 x.end) [] [] ∧ CallSem Try.prog 90 [b.v, int i64 x.end, int i64 to, int i64 lo, int i64 n] [] 4 (int i64 (gapF n lo b x.end to)) [] [] ∧ gapF n lo b x.end to = gapF n lo (Tr.mk h f l g x [a, b]) fr to ∧ True)) ∧ (decide (a.g ≥ n) = false → (decide (i64.wrap (a.f - fr) ≥ n) = true → CallSem Try.prog 90 [a.v, int i64 fr, int i64 x.start, int i64 lo, int i64 n] [] 4 (int i64 (gapF n lo a fr x.start)) [] [] ∧ (decide (gapF n lo a fr x.start ≥ 0) = true → gapF n lo a fr x.start = gapF n lo (Tr.mk h f l g x [a, b]) fr to ∧ True) ∧ (decide (gapF n lo a fr x.start ≥ 0) = false → CallSem Try.prog 112 [x.v] [] 4 (int i64 x.end) [] [] ∧ CallSem Try.prog 90 [b.v, int i64 x.end, int i64 to, int i64 lo, int i64 n] [] 4 (int i64 (gapF n lo b x.end to)) [] [] ∧ gapF n lo b x.end to = gapF n lo (Tr.mk h f l g x [a, b]) fr to ∧ True)) ∧ (decide (i64.wrap (a.f - fr) ≥ n) = false → (decide (i64.wrap (x.start - a.l) ≥ n) = true → CallSem Try.prog 90 [a.v, int i64 fr, int i64 x.start, int i64 lo, int i64 n] [] 4 (int i64 (gapF n lo a fr x.start)) [] [] ∧ (decide (gapF n lo a fr x.start ≥ 0) = true → gapF n lo a fr x.start = gapF n lo (Tr.mk h f l g x [a, b]) fr to ∧ True) ∧ (decide (gapF n lo a fr x.start ≥ 0) = false → CallSem Try.prog 112 [x.v] [] 4 (int i64 x.end) [] [] ∧ CallSem Try.prog 90 [b.v, int i64 x.end, int i64 to, int i64 lo, int i64 n] [] 4 (int i64 (gapF n lo b x.end to)) [] [] ∧ gapF n lo b x.end to = gapF n lo (Tr.mk h f l g x [a, b]) fr to ∧ True)) ∧ (decide (i64.wrap (x.start - a.l) ≥ n) = false → CallSem Try.prog 112 [x.v] [] 4 (int i64 x.end) [] [] ∧ CallSem Try.prog 90 [b.v, int i64 x.end, int i64 to, int i64 lo, int i64 n] [] 4 (int i64 (gapF n lo b x.end to)) [] [] ∧ gapF n lo b x.end to = gapF n lo (Tr.mk h f l g x [a, b]) fr to ∧ True))))) ∧ (decide (i64.wrap (x.start - lo) ≥ n) = false → CallSem Try.prog 112 [x.v] [] 4 (int i64 x.end) [] [] ∧ CallSem Try.prog 90 [b.v, int i64 x.end, int i64 to, int i64 lo, int i64 n] [] 4 (int i64 (gapF n lo b x.end to)) [] [] ∧ gapF n lo b x.end to = gapF n lo (Tr.mk h f l g x [a, b]) fr to ∧ True)))) := by kernel_rfl
theorem gapN_ps (h f l g : Int) (x : Rg) (a b : Tr) (fr to lo n : Int) (h0 : (h == 0) = false) (hd : decide (w64 (to - lo) < n) = false) (ha : PS Try.prog 90 [a.v, .int .i64 fr, .int .i64 x.start, .int .i64 lo, .int .i64 n] (.int .i64 (gapF n lo a fr x.start))) (hb : PS Try.prog 90 [b.v, .int .i64 x.end, .int .i64 to, .int .i64 lo, .int .i64 n] (.int .i64 (gapF n lo b x.end to))) : PS Try.prog 90 [(Tr.mk h f l g x [a, b]).v, .int .i64 fr, .int .i64 to, .int .i64 lo, .int .i64 n] (.int .i64 (gapF n lo (.mk h f l g x [a, b]) fr to)) := by
  refine .of_vcN mixedA tabA gapZ_ok (by repeat' (first | exact trivial | exact Tr.pur _ | exact Pur.int | refine And.intro ?_ ?_)) (gapN_vc h f l g x a b fr to lo n) ?_
  try rw [gapF_two n lo h f l g x a b fr to h0 hd, h0, hd]
  try simp only [gapC]
  repeat' (first | exact parts_ps h f l g x a b _ | exact ha _ | exact hb _ | exact end_ps x _ | refine And.intro ?_ ?_ | (intro h_; first | (cases h_; done) | rw [h_] | (simp only [Bool.not_eq_true', Bool.not_eq_false'] at h_; rw [h_]) | skip))
  all_goals (first | exact trivial | exact Nat.le_refl _ | (simp only [bsm]; done))
theorem gap_ps (t : Tr) (hf : formedF t = true) : ∀ (fr to lo n : Int), PS Try.prog 90 [t.v, .int .i64 fr, .int .i64 to, .int .i64 lo, .int .i64 n] (.int .i64 (gapF n lo t fr to)) := by
  induction t using Tr.ind with
  | h t ih =>
    intro fr to lo n
    by_cases hz : (t.h == 0) = false → decide (w64 (to - lo) < n) = true
    · rw [gapF_else n lo t fr to hz]
      exact gapZ_ps t fr to lo n hz
    · have h0 : (t.h == 0) = false := by
        cases hh : t.h == 0 with
        | true => exact absurd (fun e => by rw [hh] at e; cases e) hz
        | false => rfl
      have hd : decide (w64 (to - lo) < n) = false := by
        cases hh : decide (w64 (to - lo) < n) with
        | true => exact absurd (fun _ => hh) hz
        | false => rfl
      obtain ⟨a, b, hk, ha, hb⟩ := formedF_inv hf (by simpa using h0)
      cases t with
      | mk h f l g x k =>
        cases (hk : k = [a, b])
        exact gapN_ps h f l g x a b fr to lo n h0 hd (ih a (by simp [Tr.kids]) ha _ _ _ _) (ih b (by simp [Tr.kids]) hb _ _ _ _)
def gapA (t : Tr) (lo hi p : Int) : Bool := (checkF t != 0) || (decide (lo < 0) || (decide (lo > hi) || (decide (hi > 512) || (decide (p < 1) || decide (p > 512)))))
def gapT (t : Tr) (lo hi p : Int) : Int := bif gapA t lo hi p then -1 else bif decide (gapF p lo t 0 512 < 0) || decide (gapF p lo t 0 512 > w64 (hi - p)) then -1 else gapF p lo t 0 512
theorem gapT_ok : FnOK Try.prog 45 Try.f45 (bodyOf Try.f45) := ⟨Try.func45, rfl, rfl⟩
open Go.IntKind GV Ent in
theorem gapT_vc (t : Tr) (lo hi p : Int) : vc Try.prog TA none [] [(11, tl (.int .i64 (checkF t))), (37, tl (.int .i64 (gapF p lo t 0 512)))] (bodyOf Try.f45) ⟨startT Try.f45 [t.v, .int .i64 lo, .int .i64 hi, .int .i64 p], []⟩ (Fin TA Try.f45 (.int .i64 (gapT t lo hi p))) = (CallSem Try.prog 71 [t.v] [] 1 (int i64 (checkF t)) [] [] ∧ ((checkF t != (0 : Int)) = true → (-1 : Int) = gapT t lo hi p ∧ True) ∧ ((checkF t != (0 : Int)) = false → (decide (lo < (0 : Int)) = true → (-1 : Int) = gapT t lo hi p ∧ True) ∧ (decide (lo < (0 : Int)) = false → (decide (lo > hi) = true → (-1 : Int) = gapT t lo hi p ∧ True) ∧ (decide (lo > hi) = false → (decide (hi > (512 : Int)) = true → (-1 : Int) = gapT t lo hi p ∧ True) ∧ (decide (hi > (512 : Int)) = false → (decide (p < (1 : Int)) = true → (-1 : Int) = gapT t lo hi p ∧ True) ∧ (decide (p < (1 : Int)) = false → (decide (p > (512 : Int)) = true → (-1 : Int) = gapT t lo hi p ∧ True) ∧ (decide (p > (512 : Int)) = false → CallSem Try.prog 90 [t.v, int i64 0, int i64 512, int i64 lo, int i64 p] [] 1 (int i64 (gapF p lo t (0 : Int) (512 : Int))) [] [] ∧ (decide (gapF p lo t (0 : Int) (512 : Int) < (0 : Int)) = true → (-1 : Int) = gapT t lo hi p ∧ True) ∧ (decide (gapF p lo t (0 : Int) (512 : Int) < (0 : Int)) = false → (decide (gapF p lo t (0 : Int) (512 : Int) > i64.wrap (hi - p)) = true → (-1 : Int) = gapT t lo hi p ∧ True) ∧ (decide (gapF p lo t (0 : Int) (512 : Int) > i64.wrap (hi - p)) = false → gapF p lo t (0 : Int) (512 : Int) = gapT t lo hi p ∧ True))))))))) := by kernel_rfl
theorem gapT_ps (t : Tr) (lo hi p : Int) : PS Try.prog 45 [t.v, .int .i64 lo, .int .i64 hi, .int .i64 p] (.int .i64 (gapT t lo hi p)) := by
  refine .of_vcN mixedA tabA gapT_ok (by repeat' (first | exact trivial | exact Tr.pur _ | exact Pur.int | refine And.intro ?_ ?_)) (gapT_vc t lo hi p) ?_
  try simp only [gapT, gapA]
  repeat' (first | exact tcheck_ps t _ | exact gap_ps t (checkF_formed (by assumption)) 0 512 lo p _ | refine And.intro ?_ ?_ | (intro h_; first | (cases h_; done) | rw [h_] | (simp only [Bool.not_eq_true', Bool.not_eq_false'] at h_; rw [h_]) | skip))
  all_goals (first | exact trivial | (simp only [bsm]; done))
end Go.Proofs.Ytalcipbagidbpaa
end

section
set_option linter.unusedVariables false
namespace Go.Proofs.Ytalcipbagidbpaa
open Go.Proofs
def bldF : List Rg → Int → Tr → Tr × Int
  | [], _, t => (t, 0)
  | r :: rs, last, t => bif decide (r.start < last) then (zT, 10) else bldF rs r.end (insF t r)
def BldOK : List Rg → Int → Tr → Prop
  | [], _, _ => True
  | r :: rs, last, t => decide (r.start < last) = false → InsOK r t ∧ BldOK rs r.end (insF t r)
def buildF (l : List Rg) : Tr × Int := bif !l.all validF then (zT, 2) else bldF l 0 zT
def bl1_S (l : List Rg) (i : Nat) : St := ⟨tmL 39 [(0, Lv l), (2, .ptr 0 0), (3, zi), (4, zi), (10, Lv l), (11, .int .i64 l.length), (12, .int .i64 i)], [.blk zT.cells 26]⟩
def bl1_O (l : List Rg) (i : Nat) : List (Prop × Exit × St) := [((l.drop i).all validF = false, .ret, ⟨tmL 39 [(2, .ptr 0 0), (3, .int .i64 2)], [.blk zT.cells 26]⟩), ((l.drop i).all validF = true, .exit 0, ⟨tmL 39 [(0, Lv l), (2, .ptr 0 0), (3, zi), (4, zi)], [.blk zT.cells 26]⟩)]
open Go.IntKind GV Ent in
theorem bl1_rd (l : List Rg) (i : Nat) (X : Prop) : vc Try.prog TA none [] [(15, tl (atR l i).v), (17, tl (.bool (validF (atR l i))))] (loopOf 3 Try.f98) (bl1_S l i) (LoopK (bl1_S l (i + 1)) X (bl1_O l i)) = ((decide ((↑i : Int) < (↑l.length : Int)) = true → ((0 : Int) ≤ (↑i : Int) ∧ (↑i : Int) < (↑l.length : Int)) ∧ (RL l).length = l.length * 6 ∧ 6 = 6 ∧ List.take 6 (List.drop 0 (List.drop ((↑i : Int).toNat * 6) (RL l))) = [int i64 (atR l i).start, int i64 (atR l i).pages, int i64 (atR l i).prot, int i64 (atR l i).flags, int i64 (atR l i).file, int i64 (atR l i).index] ∧ 6 = 6 ∧ true = true ∧ 6 ≤ 6 ∧ CallSem Try.prog 110 [(atR l i).v] [] 2 (bool (validF (atR l i))) [] [] ∧ ((!validF (atR l i)) = true → 11 = 11 ∧ true = true ∧ 11 ≤ 11 ∧ 0 = 0 ∧ (2 : Int) = (2 : Int) ∧ (0 : Int) = (0 : Int) ∧ (0 : Int) = (0 : Int) ∧ (0 : Int) = (0 : Int) ∧ (0 : Int) = (0 : Int) ∧ (0 : Int) = (0 : Int) ∧ (0 : Int) = (0 : Int) ∧ (0 : Int) = (0 : Int) ∧ (0 : Int) = (0 : Int) ∧ (0 : Int) = (0 : Int) ∧ (0 : Int) = (0 : Int) ∧ (0 = 0 ∧ ([] : List GV) = []) ∧ (List.drop i l).all validF = false) ∧ ((!validF (atR l i)) = false → l.length = l.length ∧ RL l = RL l ∧ PurL (RL l) ∧ 0 = 0 ∧ (0 : Int) = (0 : Int) ∧ (0 : Int) = (0 : Int) ∧ l.length = l.length ∧ RL l = RL l ∧ PurL (RL l) ∧ (↑l.length : Int) = (↑l.length : Int) ∧ i64.wrap ((↑i : Int) + (1 : Int)) = (↑(i + (1 : Nat)) : Int) ∧ (0 : Int) = (0 : Int) ∧ (0 : Int) = (0 : Int) ∧ (0 : Int) = (0 : Int) ∧ (0 : Int) = (0 : Int) ∧ (0 : Int) = (0 : Int) ∧ (0 : Int) = (0 : Int) ∧ (0 : Int) = (0 : Int) ∧ (0 : Int) = (0 : Int) ∧ (0 : Int) = (0 : Int) ∧ (0 : Int) = (0 : Int) ∧ 0 = 0 ∧ ([] : List GV) = [] ∧ PurL [] ∧ X)) ∧ (decide ((↑i : Int) < (↑l.length : Int)) = false → l.length = l.length ∧ RL l = RL l ∧ PurL (RL l) ∧ 0 = 0 ∧ (0 : Int) = (0 : Int) ∧ (0 : Int) = (0 : Int) ∧ (0 : Int) = (0 : Int) ∧ (0 : Int) = (0 : Int) ∧ (0 : Int) = (0 : Int) ∧ (0 : Int) = (0 : Int) ∧ (0 : Int) = (0 : Int) ∧ (0 : Int) = (0 : Int) ∧ (0 : Int) = (0 : Int) ∧ (0 : Int) = (0 : Int) ∧ (0 : Int) = (0 : Int) ∧ (0 : Int) = (0 : Int) ∧ 0 = 0 ∧ ([] : List GV) = [] ∧ PurL [] ∧ (List.drop i l).all validF = true)) := by kernel_rfl
theorem bl1_loop (l : List Rg) (hl : l.length ≤ 1073741824) (i : Nat) (hpsi : i ≤ l.length) : GW Try.prog none [] (.loop (loopOf 3 Try.f98)) (bl1_S l i) (OneOf (bl1_O l i)) := by
  refine GW.loopF mixedA tabA (β := Nat) (fun b => (fun i => bl1_S l i) b) (fun b => (fun i => i ≤ l.length) b) (fun b => (fun i => l.length - i) b) (fun b => (fun i => i + 1) b) (fun b => (fun i => bl1_O l i) b) (fun b => (fun i => [(15, tl (atR l i).v), (17, tl (.bool (validF (atR l i))))]) b) ?_ i hpsi
  clear hpsi
  rintro i hpsi
  replace hpsi : i ≤ l.length := hpsi
  refine Eq.mpr (bl1_rd l i _) ?_
  repeat' (first | exact valid_ps (atR l i) _ | exact RL_pur _ | exact purS (Eq.refl true) | refine And.intro ?_ ?_ | (intro h_; first | (cases h_; done) | rw [h_] | (simp only [Bool.not_eq_true', Bool.not_eq_false'] at h_; rw [h_]) | skip))
  all_goals (try simp only [decide_eq_true_eq, decide_eq_false_iff_not] at *)
  all_goals (first | exact Nat.le_of_ble_eq_true (Eq.refl true) | exact RL_length _ | assumption | (simp only [Int.toNat_natCast, List.drop_zero]; exact RL_at (by omega)) | exact wrap_succ (by omega) | omega | (rw [drop_atR (by omega)]; simp_all; done) | (rw [List.drop_eq_nil_of_le (by omega)]; rfl) | (rw [show bl1_O l i = bl1_O l (i + 1) from by unfold bl1_O; rw [drop_atR (by omega : i < l.length)]; simp_all]; assumption))
def bl2_S (l : List Rg) (i : Nat) (z : Int) (t : Tr) : St := ⟨tmL 39 [(0, Lv l), (2, .ptr 0 0), (3, zi), (4, .int .i64 z), (7, .ptr 1 0), (21, Lv l), (22, .int .i64 l.length), (23, .int .i64 i)], [.blk zT.cells 26, .blk t.cells 26]⟩
def bl2_O (l : List Rg) (i : Nat) (z : Int) (t : Tr) : List (Prop × Exit × St) := [((bldF (l.drop i) z t).2 = 10, .ret, ⟨tmL 39 [(2, .ptr 0 0), (3, .int .i64 (bldF (l.drop i) z t).2)], [.blk (bldF (l.drop i) z t).1.cells 26]⟩), ((bldF (l.drop i) z t).2 = 0, .exit 2, ⟨tmL 39 [(2, .ptr 0 0), (3, zi), (7, .ptr 1 0)], [.blk zT.cells 26, .blk (bldF (l.drop i) z t).1.cells 26]⟩)]
open Go.IntKind GV Ent in
theorem bl2_rd (l : List Rg) (i : Nat) (z : Int) (t : Tr) (X : Prop) : vc Try.prog TA none [] [(26, tl (atR l i).v), (33, tl (.int .i64 (atR l i).end)), (36, tl (insF t (atR l i)).v)] (loopOf 10 Try.f98) (bl2_S l i z t) (LoopK (bl2_S l (i + 1) ((atR l i).end) (insF t (atR l i))) X (bl2_O l i z t)) = ((decide ((↑i : Int) < (↑l.length : Int)) = true → ((0 : Int) ≤ (↑i : Int) ∧ (↑i : Int) < (↑l.length : Int)) ∧ (RL l).length = l.length * 6 ∧ 6 = 6 ∧ List.take 6 (List.drop 0 (List.drop ((↑i : Int).toNat * 6) (RL l))) = [int i64 (atR l i).start, int i64 (atR l i).pages, int i64 (atR l i).prot, int i64 (atR l i).flags, int i64 (atR l i).file, int i64 (atR l i).index] ∧ 6 = 6 ∧ true = true ∧ 6 ≤ 6 ∧ (decide ((atR l i).start < z) = true → 11 = 11 ∧ true = true ∧ 11 ≤ 11 ∧ 0 = 0 ∧ 10 = (bldF (List.drop i l) z t).snd ∧ 0 = (bldF (List.drop i l) z t).fst.h ∧ 0 = (bldF (List.drop i l) z t).fst.f ∧ 0 = (bldF (List.drop i l) z t).fst.l ∧ 0 = (bldF (List.drop i l) z t).fst.g ∧ 0 = (bldF (List.drop i l) z t).fst.r.start ∧ 0 = (bldF (List.drop i l) z t).fst.r.pages ∧ 0 = (bldF (List.drop i l) z t).fst.r.prot ∧ 0 = (bldF (List.drop i l) z t).fst.r.flags ∧ 0 = (bldF (List.drop i l) z t).fst.r.file ∧ 0 = (bldF (List.drop i l) z t).fst.r.index ∧ ((bldF (List.drop i l) z t).fst.kids.length = (0 : Nat) ∧ (bldF (List.drop i l) z t).fst.K = []) ∧ (bldF (List.drop i l) z t).snd = (10 : Int)) ∧ (decide ((atR l i).start < z) = false → CallSem Try.prog 112 [(atR l i).v] [] 3 (int i64 (atR l i).end) [] [] ∧ CallSem Try.prog 126 [t.v, (atR l i).v] [] 3 ((insF t (atR l i)).v) [] [] ∧ 11 = 11 ∧ true = true ∧ 11 ≤ 11 ∧ l.length = l.length ∧ RL l = RL l ∧ PurL (RL l) ∧ 0 = 0 ∧ (0 : Int) = (0 : Int) ∧ (atR l i).end = (atR l i).end ∧ 0 = 0 ∧ l.length = l.length ∧ RL l = RL l ∧ PurL (RL l) ∧ (↑l.length : Int) = (↑l.length : Int) ∧ i64.wrap ((↑i : Int) + (1 : Int)) = (↑(i + (1 : Nat)) : Int) ∧ (0 : Int) = (0 : Int) ∧ (0 : Int) = (0 : Int) ∧ (0 : Int) = (0 : Int) ∧ (0 : Int) = (0 : Int) ∧ (0 : Int) = (0 : Int) ∧ (0 : Int) = (0 : Int) ∧ (0 : Int) = (0 : Int) ∧ (0 : Int) = (0 : Int) ∧ (0 : Int) = (0 : Int) ∧ (0 : Int) = (0 : Int) ∧ 0 = 0 ∧ ([] : List GV) = [] ∧ PurL [] ∧ (insF t (atR l i)).h = (insF t (atR l i)).h ∧ (insF t (atR l i)).f = (insF t (atR l i)).f ∧ (insF t (atR l i)).l = (insF t (atR l i)).l ∧ (insF t (atR l i)).g = (insF t (atR l i)).g ∧ (insF t (atR l i)).r.start = (insF t (atR l i)).r.start ∧ (insF t (atR l i)).r.pages = (insF t (atR l i)).r.pages ∧ (insF t (atR l i)).r.prot = (insF t (atR l i)).r.prot ∧ (insF t (atR l i)).r.flags = (insF t (atR l i)).r.flags ∧ (insF t (atR l i)).r.file = (insF t (atR l i)).r.file ∧ (insF t (atR l i)).r.index = (insF t (atR l i)).r.index ∧ (insF t (atR l i)).kids.length = (insF t (atR l i)).kids.length ∧ (insF t (atR l i)).K = (insF t (atR l i)).K ∧ PurL (insF t (atR l i)).K ∧ X)) ∧ (decide ((↑i : Int) < (↑l.length : Int)) = false → 0 = 0 ∧ (0 : Int) = (0 : Int) ∧ 0 = 0 ∧ (0 : Int) = (0 : Int) ∧ (0 : Int) = (0 : Int) ∧ (0 : Int) = (0 : Int) ∧ (0 : Int) = (0 : Int) ∧ (0 : Int) = (0 : Int) ∧ (0 : Int) = (0 : Int) ∧ (0 : Int) = (0 : Int) ∧ (0 : Int) = (0 : Int) ∧ (0 : Int) = (0 : Int) ∧ (0 : Int) = (0 : Int) ∧ 0 = 0 ∧ ([] : List GV) = [] ∧ PurL [] ∧ t.h = (bldF (List.drop i l) z t).fst.h ∧ t.f = (bldF (List.drop i l) z t).fst.f ∧ t.l = (bldF (List.drop i l) z t).fst.l ∧ t.g = (bldF (List.drop i l) z t).fst.g ∧ t.r.start = (bldF (List.drop i l) z t).fst.r.start ∧ t.r.pages = (bldF (List.drop i l) z t).fst.r.pages ∧ t.r.prot = (bldF (List.drop i l) z t).fst.r.prot ∧ t.r.flags = (bldF (List.drop i l) z t).fst.r.flags ∧ t.r.file = (bldF (List.drop i l) z t).fst.r.file ∧ t.r.index = (bldF (List.drop i l) z t).fst.r.index ∧ t.kids.length = (bldF (List.drop i l) z t).fst.kids.length ∧ t.K = (bldF (List.drop i l) z t).fst.K ∧ PurL t.K ∧ (bldF (List.drop i l) z t).snd = (0 : Int))) := by kernel_rfl
theorem bl2_loop (l : List Rg) (hl : l.length ≤ 1073741824) (i : Nat) (z : Int) (t : Tr) (hpsi : i ≤ l.length ∧ BldOK (l.drop i) z t) : GW Try.prog none [] (.loop (loopOf 10 Try.f98)) (bl2_S l i z t) (OneOf (bl2_O l i z t)) := by
  refine GW.loopF mixedA tabA (β := Nat × Int × Tr) (fun b => (fun i z t => bl2_S l i z t) b.1 b.2.1 b.2.2) (fun b => (fun i z t => i ≤ l.length ∧ BldOK (l.drop i) z t) b.1 b.2.1 b.2.2) (fun b => (fun i z t => l.length - i) b.1 b.2.1 b.2.2) (fun b => (fun i z t => (i + 1, (atR l i).end, insF t (atR l i))) b.1 b.2.1 b.2.2) (fun b => (fun i z t => bl2_O l i z t) b.1 b.2.1 b.2.2) (fun b => (fun i z t => [(26, tl (atR l i).v), (33, tl (.int .i64 (atR l i).end)), (36, tl (insF t (atR l i)).v)]) b.1 b.2.1 b.2.2) ?_ (i, z, t) hpsi
  clear hpsi
  rintro ⟨i, z, t⟩ hpsi
  replace hpsi : i ≤ l.length ∧ BldOK (l.drop i) z t := hpsi
  refine Eq.mpr (bl2_rd l i z t _) ?_
  rcases Nat.lt_or_ge i l.length with hi | hi
  all_goals (try rw [drop_atR hi] at hpsi)
  all_goals (try simp only [drop_atR hi, bldF])
  all_goals (try simp only [List.drop_eq_nil_of_le hi, bldF])
  repeat' (first | exact end_ps (atR l i) _ | exact insA_ps (hpsi.2 (by assumption)).1 _ | exact Tr.purK _ | exact RL_pur _ | exact purS (Eq.refl true) | refine And.intro ?_ ?_ | (intro h_; first | (cases h_; done) | rw [h_] | (simp only [Bool.not_eq_true', Bool.not_eq_false'] at h_; rw [h_]) | skip))
  all_goals (try simp only [decide_eq_true_eq, decide_eq_false_iff_not] at *)
  all_goals (first | exact Nat.le_of_ble_eq_true (Eq.refl true) | exact RL_length _ | assumption | (simp only [Int.toNat_natCast, List.drop_zero]; exact RL_at (by omega)) | exact wrap_succ (by omega) | omega | (simp only [bsm]; done) | exact (hpsi.2 (by simp only [decide_eq_false_iff_not]; assumption)).2 | (rw [show bl2_O l i z t = bl2_O l (i + 1) (atR l i).end (insF t (atR l i)) from by unfold bl2_O; rw [drop_atR hi]; simp only [bldF]; simp only [*, decide_false, cond_false]]; assumption) | (simp only [bsm]; exact rfl))
theorem tbuild_ok : FnOK Try.prog 98 Try.f98 (bodyOf Try.f98) := ⟨Try.func98, rfl, rfl⟩
theorem tbuild_vc (l : List Rg) : vc Try.prog TA none [] [(100003, .loop (bl1_S l 0) (bl1_O l 0)), (100010, .loop (bl2_S l 0 0 zT) (bl2_O l 0 0 zT))] (bodyOf Try.f98) ⟨startT Try.f98 [Lv l], []⟩ (Fin TA Try.f98 (.tup [(buildF l).1.v, .int .i64 (buildF l).2])) = (l.length = l.length ∧ RL l = RL l ∧ PurL (RL l) ∧ 0 = 0 ∧ (0 : Int) = (0 : Int) ∧ (0 : Int) = (0 : Int) ∧ l.length = l.length ∧ RL l = RL l ∧ PurL (RL l) ∧ (↑l.length : Int) = (↑l.length : Int) ∧ (0 : Int) = (0 : Int) ∧ (0 : Int) = (0 : Int) ∧ (0 : Int) = (0 : Int) ∧ (0 : Int) = (0 : Int) ∧ (0 : Int) = (0 : Int) ∧ (0 : Int) = (0 : Int) ∧ (0 : Int) = (0 : Int) ∧ (0 : Int) = (0 : Int) ∧ (0 : Int) = (0 : Int) ∧ (0 : Int) = (0 : Int) ∧ (0 : Int) = (0 : Int) ∧ (0 = 0 ∧ ([] : List GV) = []) ∧ GW Try.prog none [] (loopOf (3 : Nat) Try.f98).loop (bl1_S l (0 : Nat)) (OneOf (bl1_O l (0 : Nat))) ∧ ((List.drop 0 l).all validF = false → 0 = (buildF l).fst.h ∧ 0 = (buildF l).fst.f ∧ 0 = (buildF l).fst.l ∧ 0 = (buildF l).fst.g ∧ 0 = (buildF l).fst.r.start ∧ 0 = (buildF l).fst.r.pages ∧ 0 = (buildF l).fst.r.prot ∧ 0 = (buildF l).fst.r.flags ∧ 0 = (buildF l).fst.r.file ∧ 0 = (buildF l).fst.r.index ∧ (0 : Nat) = (buildF l).fst.kids.length ∧ [] = (buildF l).fst.K ∧ PurL [] ∧ 2 = (buildF l).snd ∧ True) ∧ ((List.drop 0 l).all validF = true → l.length = l.length ∧ RL l = RL l ∧ PurL (RL l) ∧ 0 = 0 ∧ (0 : Int) = (0 : Int) ∧ (0 : Int) = (0 : Int) ∧ 0 = 0 ∧ l.length = l.length ∧ RL l = RL l ∧ PurL (RL l) ∧ (↑l.length : Int) = (↑l.length : Int) ∧ (0 : Int) = (0 : Int) ∧ (0 : Int) = (0 : Int) ∧ (0 : Int) = (0 : Int) ∧ (0 : Int) = (0 : Int) ∧ (0 : Int) = (0 : Int) ∧ (0 : Int) = (0 : Int) ∧ (0 : Int) = (0 : Int) ∧ (0 : Int) = (0 : Int) ∧ (0 : Int) = (0 : Int) ∧ (0 : Int) = (0 : Int) ∧ (0 : Int) = (0 : Int) ∧ 0 = 0 ∧ ([] : List GV) = [] ∧ PurL [] ∧ (0 : Int) = (0 : Int) ∧ (0 : Int) = (0 : Int) ∧ (0 : Int) = (0 : Int) ∧ (0 : Int) = (0 : Int) ∧ (0 : Int) = (0 : Int) ∧ (0 : Int) = (0 : Int) ∧ (0 : Int) = (0 : Int) ∧ (0 : Int) = (0 : Int) ∧ (0 : Int) = (0 : Int) ∧ (0 : Int) = (0 : Int) ∧ (0 = 0 ∧ ([] : List GV) = []) ∧ GW Try.prog none [] (loopOf (10 : Nat) Try.f98).loop (bl2_S l (0 : Nat) (0 : Int) zT) (OneOf (bl2_O l (0 : Nat) (0 : Int) zT)) ∧ ((bldF (List.drop 0 l) (0 : Int) zT).snd = (10 : Int) → (bldF (List.drop 0 l) (0 : Int) zT).fst.h = (buildF l).fst.h ∧ (bldF (List.drop 0 l) (0 : Int) zT).fst.f = (buildF l).fst.f ∧ (bldF (List.drop 0 l) (0 : Int) zT).fst.l = (buildF l).fst.l ∧ (bldF (List.drop 0 l) (0 : Int) zT).fst.g = (buildF l).fst.g ∧ (bldF (List.drop 0 l) (0 : Int) zT).fst.r.start = (buildF l).fst.r.start ∧ (bldF (List.drop 0 l) (0 : Int) zT).fst.r.pages = (buildF l).fst.r.pages ∧ (bldF (List.drop 0 l) (0 : Int) zT).fst.r.prot = (buildF l).fst.r.prot ∧ (bldF (List.drop 0 l) (0 : Int) zT).fst.r.flags = (buildF l).fst.r.flags ∧ (bldF (List.drop 0 l) (0 : Int) zT).fst.r.file = (buildF l).fst.r.file ∧ (bldF (List.drop 0 l) (0 : Int) zT).fst.r.index = (buildF l).fst.r.index ∧ (bldF (List.drop 0 l) (0 : Int) zT).fst.kids.length = (buildF l).fst.kids.length ∧ (bldF (List.drop 0 l) (0 : Int) zT).fst.K = (buildF l).fst.K ∧ PurL (bldF (List.drop 0 l) (0 : Int) zT).fst.K ∧ (bldF (List.drop 0 l) (0 : Int) zT).snd = (buildF l).snd ∧ True) ∧ ((bldF (List.drop 0 l) (0 : Int) zT).snd = (0 : Int) → 11 = 11 ∧ true = true ∧ 11 ≤ 11 ∧ (bldF (List.drop 0 l) (0 : Int) zT).fst.h = (buildF l).fst.h ∧ (bldF (List.drop 0 l) (0 : Int) zT).fst.f = (buildF l).fst.f ∧ (bldF (List.drop 0 l) (0 : Int) zT).fst.l = (buildF l).fst.l ∧ (bldF (List.drop 0 l) (0 : Int) zT).fst.g = (buildF l).fst.g ∧ (bldF (List.drop 0 l) (0 : Int) zT).fst.r.start = (buildF l).fst.r.start ∧ (bldF (List.drop 0 l) (0 : Int) zT).fst.r.pages = (buildF l).fst.r.pages ∧ (bldF (List.drop 0 l) (0 : Int) zT).fst.r.prot = (buildF l).fst.r.prot ∧ (bldF (List.drop 0 l) (0 : Int) zT).fst.r.flags = (buildF l).fst.r.flags ∧ (bldF (List.drop 0 l) (0 : Int) zT).fst.r.file = (buildF l).fst.r.file ∧ (bldF (List.drop 0 l) (0 : Int) zT).fst.r.index = (buildF l).fst.r.index ∧ (bldF (List.drop 0 l) (0 : Int) zT).fst.kids.length = (buildF l).fst.kids.length ∧ (bldF (List.drop 0 l) (0 : Int) zT).fst.K = (buildF l).fst.K ∧ PurL (bldF (List.drop 0 l) (0 : Int) zT).fst.K ∧ 0 = (buildF l).snd ∧ True) ∧ True) ∧ True) := by kernel_rfl
theorem tbuild_ps (l : List Rg) (hl : l.length ≤ 1073741824) (hok : l.all validF = true → BldOK l 0 zT) : PS Try.prog 98 [Lv l] (.tup [(buildF l).1.v, .int .i64 (buildF l).2]) := by
  refine .of_vcN mixedA tabA tbuild_ok (by repeat' (first | exact trivial | exact Pur.im (RL_pur _) | refine And.intro ?_ ?_)) (tbuild_vc l) ?_
  try simp only [buildF, List.drop_zero]
  repeat' (first | exact (bl1_loop l hl 0 (Nat.zero_le _)) | exact (bl2_loop l hl 0 0 zT ⟨Nat.zero_le _, hok (by assumption)⟩) | exact Tr.purK _ | exact RL_pur _ | exact purS (Eq.refl true) | refine And.intro ?_ ?_ | (intro h_; first | (cases h_; done) | rw [h_] | (simp only [Bool.not_eq_true', Bool.not_eq_false'] at h_; rw [h_]) | skip))
  all_goals (first | exact trivial | exact Nat.le_refl _ | (simp only [bsm]; done) | (simp only [bsm]; exact rfl) | (simp only [bsm, *]; done))
end Go.Proofs.Ytalcipbagidbpaa
end

section
set_option linter.unusedVariables false
namespace Go.Proofs.Ytalcipbagidbpaa
open Go.Proofs
theorem wrap_pred {i : Nat} (h : i < 4294967296) : IntKind.i64.wrap (((i + 1 : Nat) : Int) - 1) = (i : Int) := by rw [wrap_id (by omega) (by omega)]; omega
/-- The first error of a list of regions. -/
def ac1 : List Rg → Int
  | [] => 0
  | r :: rs => bif chkR r != 0 then chkR r else ac1 rs
/-- Has it mergeable neighbours? -/
def ac2 : List Rg → Bool
  | a :: b :: rs => bif mrg a b then true else ac2 (b :: rs)
  | _ => false
theorem ac2_step {l : List Rg} {j : Nat} (h : j + 1 < l.length) : ac2 (l.drop j) = bif mrg (atR l j) (atR l (j + 1)) then true else ac2 (l.drop (j + 1)) := by
  rw [drop_atR (by omega : j < l.length), drop_atR h, ac2]
theorem ac2_end {l : List Rg} {j : Nat} (h : l.length ≤ j + 1) : ac2 (l.drop j) = false := by
  rcases Nat.lt_or_ge j l.length with h1 | h1
  · rw [drop_atR h1, List.drop_eq_nil_of_le h]; rfl
  · rw [List.drop_eq_nil_of_le h1]; rfl
def ak1_S (l : List Rg) (i : Nat) : St := ⟨tmL 47 [(4, Lv l), (16, Lv l), (17, .int .i64 l.length), (18, .int .i64 i)], []⟩
def ak1_O (l : List Rg) (i : Nat) : List (Prop × Exit × St) := [((ac1 (l.drop i) != 0) = true, .ret, ⟨tmL 47 [(2, .int .i64 (ac1 (l.drop i)))], []⟩), ((ac1 (l.drop i) != 0) = false, .exit 0, ⟨tmL 47 [(4, Lv l)], []⟩)]
open Go.IntKind GV Ent in
theorem ak1_rd (l : List Rg) (i : Nat) (X : Prop) : vc Try.prog TA none [] [(21, tl (atR l i).v), (23, tl (.int .i64 (chkR (atR l i))))] (loopOf 6 Try.f28) (ak1_S l i) (LoopK (ak1_S l (i + 1)) X (ak1_O l i)) = ((decide ((↑i : Int) < (↑l.length : Int)) = true → ((0 : Int) ≤ (↑i : Int) ∧ (↑i : Int) < (↑l.length : Int)) ∧ (RL l).length = l.length * 6 ∧ 6 = 6 ∧ List.take 6 (List.drop 0 (List.drop ((↑i : Int).toNat * 6) (RL l))) = [int i64 (atR l i).start, int i64 (atR l i).pages, int i64 (atR l i).prot, int i64 (atR l i).flags, int i64 (atR l i).file, int i64 (atR l i).index] ∧ 6 = 6 ∧ true = true ∧ 6 ≤ 6 ∧ CallSem Try.prog 51 [(atR l i).v] [] 1 (int i64 (chkR (atR l i))) [] [] ∧ ((chkR (atR l i) != (0 : Int)) = true → chkR (atR l i) = ac1 (List.drop i l) ∧ (ac1 (List.drop i l) != (0 : Int)) = true) ∧ ((chkR (atR l i) != (0 : Int)) = false → l.length = l.length ∧ RL l = RL l ∧ PurL (RL l) ∧ l.length = l.length ∧ RL l = RL l ∧ PurL (RL l) ∧ (↑l.length : Int) = (↑l.length : Int) ∧ i64.wrap ((↑i : Int) + (1 : Int)) = (↑(i + (1 : Nat)) : Int) ∧ X)) ∧ (decide ((↑i : Int) < (↑l.length : Int)) = false → l.length = l.length ∧ RL l = RL l ∧ PurL (RL l) ∧ (ac1 (List.drop i l) != (0 : Int)) = false)) := by kernel_rfl
theorem ak1_loop (l : List Rg) (hl : l.length ≤ 1073741824) (i : Nat) (hpsi : i ≤ l.length) : GW Try.prog none [] (.loop (loopOf 6 Try.f28)) (ak1_S l i) (OneOf (ak1_O l i)) := by
  refine GW.loopF mixedA tabA (β := Nat) (fun b => (fun i => ak1_S l i) b) (fun b => (fun i => i ≤ l.length) b) (fun b => (fun i => l.length - i) b) (fun b => (fun i => i + 1) b) (fun b => (fun i => ak1_O l i) b) (fun b => (fun i => [(21, tl (atR l i).v), (23, tl (.int .i64 (chkR (atR l i))))]) b) ?_ i hpsi
  clear hpsi
  rintro i hpsi
  replace hpsi : i ≤ l.length := hpsi
  refine Eq.mpr (ak1_rd l i _) ?_
  rcases Nat.lt_or_ge i l.length with hi | hi
  all_goals (try simp only [drop_atR hi, ac1])
  all_goals (try simp only [List.drop_eq_nil_of_le hi, ac1])
  repeat' (first | exact chkR_ps (atR l i) _ | exact RL_pur _ | refine And.intro ?_ ?_ | (intro h_; first | (cases h_; done) | rw [h_] | (simp only [Bool.not_eq_true', Bool.not_eq_false'] at h_; rw [h_]) | skip))
  all_goals (try simp only [decide_eq_true_eq, decide_eq_false_iff_not] at *)
  all_goals (first | exact Nat.le_of_ble_eq_true (Eq.refl true) | exact RL_length _ | assumption | (simp only [Int.toNat_natCast, List.drop_zero]; exact RL_at (by omega)) | exact wrap_succ (by omega) | omega | (simp only [bsm]; done) | (rw [show ak1_O l i = ak1_O l (i + 1) from by unfold ak1_O; rw [drop_atR hi]; simp only [ac1, *, cond_false]]; assumption))
def ak2_S (l : List Rg) (j : Nat) : St := ⟨tmL 47 [(4, Lv l), (8, .int .i64 ((j + 1 : Nat) : Int))], []⟩
def ak2_O (l : List Rg) (j : Nat) : List (Prop × Exit × St) := [(ac2 (l.drop j) = true, .ret, ⟨tmL 47 [(2, .int .i64 11)], []⟩), (ac2 (l.drop j) = false, .exit 2, ⟨tmL 47 [(4, Lv l)], []⟩)]
open Go.IntKind GV Ent in
theorem ak2_rd (l : List Rg) (j : Nat) (X : Prop) : vc Try.prog TA none [] [(38, tl (atR l j).v), (42, tl (atR l (j + 1)).v), (43, tl (.bool (mrg (atR l j) (atR l (j + 1)))))] (loopOf 13 Try.f28) (ak2_S l j) (LoopK (ak2_S l (j + 1)) X (ak2_O l j)) = ((decide ((↑(j + (1 : Nat)) : Int) < (↑l.length : Int)) = true → ((0 : Int) ≤ i64.wrap ((↑(j + (1 : Nat)) : Int) - (1 : Int)) ∧ i64.wrap ((↑(j + (1 : Nat)) : Int) - (1 : Int)) < (↑l.length : Int)) ∧ (RL l).length = l.length * 6 ∧ 6 = 6 ∧ List.take 6 (List.drop 0 (List.drop ((i64.wrap ((↑(j + (1 : Nat)) : Int) - (1 : Int))).toNat * 6) (RL l))) = [int i64 (atR l j).start, int i64 (atR l j).pages, int i64 (atR l j).prot, int i64 (atR l j).flags, int i64 (atR l j).file, int i64 (atR l j).index] ∧ ((0 : Int) ≤ (↑(j + (1 : Nat)) : Int) ∧ (↑(j + (1 : Nat)) : Int) < (↑l.length : Int)) ∧ (RL l).length = l.length * 6 ∧ 6 = 6 ∧ List.take 6 (List.drop 0 (List.drop ((↑(j + (1 : Nat)) : Int).toNat * 6) (RL l))) = [int i64 (atR l (j + (1 : Nat))).start, int i64 (atR l (j + (1 : Nat))).pages, int i64 (atR l (j + (1 : Nat))).prot, int i64 (atR l (j + (1 : Nat))).flags, int i64 (atR l (j + (1 : Nat))).file, int i64 (atR l (j + (1 : Nat))).index] ∧ CallSem Try.prog 72 [(atR l j).v, (atR l (j + (1 : Nat))).v] [] 0 (bool (mrg (atR l j) (atR l (j + (1 : Nat))))) [] [] ∧ (mrg (atR l j) (atR l (j + (1 : Nat))) = true → (11 : Int) = (11 : Int) ∧ ac2 (List.drop j l) = true) ∧ (mrg (atR l j) (atR l (j + (1 : Nat))) = false → l.length = l.length ∧ RL l = RL l ∧ PurL (RL l) ∧ i64.wrap ((↑(j + (1 : Nat)) : Int) + (1 : Int)) = (↑(j + (1 : Nat) + 1) : Int) ∧ X)) ∧ (decide ((↑(j + (1 : Nat)) : Int) < (↑l.length : Int)) = false → l.length = l.length ∧ RL l = RL l ∧ PurL (RL l) ∧ ac2 (List.drop j l) = false)) := by kernel_rfl
theorem ak2_loop (l : List Rg) (hl : l.length ≤ 1073741824) (j : Nat) (hpsi : j ≤ l.length) : GW Try.prog none [] (.loop (loopOf 13 Try.f28)) (ak2_S l j) (OneOf (ak2_O l j)) := by
  refine GW.loopF mixedA tabA (β := Nat) (fun b => (fun j => ak2_S l j) b) (fun b => (fun j => j ≤ l.length) b) (fun b => (fun j => l.length - j) b) (fun b => (fun j => j + 1) b) (fun b => (fun j => ak2_O l j) b) (fun b => (fun j => [(38, tl (atR l j).v), (42, tl (atR l (j + 1)).v), (43, tl (.bool (mrg (atR l j) (atR l (j + 1)))))]) b) ?_ j hpsi
  clear hpsi
  rintro j hpsi
  replace hpsi : j ≤ l.length := hpsi
  refine Eq.mpr (ak2_rd l j _) ?_
  have hw := wrap_pred (i := j) (by omega)
  rcases Nat.lt_or_ge (j + 1) l.length with hi | hi
  all_goals (try simp only [ac2_step hi])
  all_goals (try simp only [ac2_end hi])
  all_goals (simp only [hw])
  repeat' (first | exact mrg_ps (atR l j) (atR l (j + 1)) _ | exact RL_pur _ | refine And.intro ?_ ?_ | (intro h_; first | (cases h_; done) | rw [h_] | (simp only [Bool.not_eq_true', Bool.not_eq_false'] at h_; rw [h_]) | skip))
  all_goals (try simp only [decide_eq_true_eq, decide_eq_false_iff_not] at *)
  all_goals (first | exact RL_length _ | assumption | (simp only [Int.toNat_natCast, List.drop_zero]; exact RL_at (by omega)) | exact wrap_succ (by omega) | omega | (simp only [bsm]; done) | (rw [show ak2_O l j = ak2_O l (j + 1) from by unfold ak2_O; rw [ac2_step hi]; simp only [*, cond_false]]; assumption))
def acF (t : Tr) : Int := bif checkF t != 0 then checkF t else bif ac1 (listF t) != 0 then ac1 (listF t) else bif ac2 (listF t) then 11 else bif decide (((listF t).length : Int) > 12) then 9 else 0
theorem listF_len {t : Tr} (hn : (nodesF t).length ≤ 1073741824) : (listF t).length ≤ 1073741824 := by
  unfold listF
  cases checkF t != 0 <;> simp [hn]
theorem ac_ok : FnOK Try.prog 28 Try.f28 (bodyOf Try.f28) := ⟨Try.func28, rfl, rfl⟩
open Go.IntKind GV Ent in
theorem ac_vc (t : Tr) : vc Try.prog TA none [] [(10, tl (.int .i64 (checkF t))), (15, tl (Lv (listF t))), (100006, .loop (ak1_S (listF t) 0) (ak1_O (listF t) 0)), (100013, .loop (ak2_S (listF t) 0) (ak2_O (listF t) 0))] (bodyOf Try.f28) ⟨startT Try.f28 [t.v], []⟩ (Fin TA Try.f28 (.int .i64 (acF t))) = (CallSem Try.prog 71 [t.v] [] 1 (int i64 (checkF t)) [] [] ∧ ((checkF t != (0 : Int)) = true → checkF t = acF t ∧ True) ∧ ((checkF t != (0 : Int)) = false → CallSem Try.prog 52 [t.v] [] 1 (im (listF t).length (RL (listF t))) [] [] ∧ (listF t).length = (listF t).length ∧ RL (listF t) = RL (listF t) ∧ PurL (RL (listF t)) ∧ (listF t).length = (listF t).length ∧ RL (listF t) = RL (listF t) ∧ PurL (RL (listF t)) ∧ (↑(listF t).length : Int) = (↑(listF t).length : Int) ∧ (0 : Int) = (0 : Int) ∧ GW Try.prog none [] (loopOf (6 : Nat) Try.f28).loop (ak1_S (listF t) (0 : Nat)) (OneOf (ak1_O (listF t) (0 : Nat))) ∧ ((ac1 (List.drop 0 (listF t)) != (0 : Int)) = true → ac1 (List.drop 0 (listF t)) = acF t ∧ True) ∧ ((ac1 (List.drop 0 (listF t)) != (0 : Int)) = false → (listF t).length = (listF t).length ∧ RL (listF t) = RL (listF t) ∧ PurL (RL (listF t)) ∧ (1 : Int) = (1 : Int) ∧ GW Try.prog none [] (loopOf (13 : Nat) Try.f28).loop (ak2_S (listF t) (0 : Nat)) (OneOf (ak2_O (listF t) (0 : Nat))) ∧ (ac2 (List.drop 0 (listF t)) = true → (11 : Int) = acF t ∧ True) ∧ (ac2 (List.drop 0 (listF t)) = false → (decide ((↑(listF t).length : Int) > (12 : Int)) = true → (9 : Int) = acF t ∧ True) ∧ (decide ((↑(listF t).length : Int) > (12 : Int)) = false → (0 : Int) = acF t ∧ True)) ∧ True) ∧ True)) := by kernel_rfl
theorem ac_ps (t : Tr) (hn : (nodesF t).length ≤ 1073741824) : PS Try.prog 28 [t.v] (.int .i64 (acF t)) := by
  refine .of_vcN mixedA tabA ac_ok (by repeat' (first | exact trivial | exact Tr.pur _ | refine And.intro ?_ ?_)) (ac_vc t) ?_
  try simp only [acF, List.drop_zero]
  repeat' (first | exact tcheck_ps t _ | exact tlist_ps t hn _ | exact (ak1_loop (listF t) (listF_len hn) 0 (Nat.zero_le _)) | exact (ak2_loop (listF t) (listF_len hn) 0 (Nat.zero_le _)) | exact RL_pur _ | refine And.intro ?_ ?_ | (intro h_; first | (cases h_; done) | rw [h_] | (simp only [Bool.not_eq_true', Bool.not_eq_false'] at h_; rw [h_]) | skip))
  all_goals (first | exact trivial | (simp only [bsm]; done))
def afindF (t : Tr) (page : Int) : Rg × Bool := bif acF t != 0 then (zR, false) else findF t page
theorem afind_ok : FnOK Try.prog 26 Try.f26 (bodyOf Try.f26) := ⟨Try.func26, rfl, rfl⟩
open Go.IntKind GV Ent in
theorem afind_vc (t : Tr) (page : Int) : vc Try.prog TA none [] [(7, tl (.int .i64 (acF t))), (12, tl (.tup [(findF t page).1.v, .bool (findF t page).2]))] (bodyOf Try.f26) ⟨startT Try.f26 [t.v, .int .i64 page], []⟩ (Fin TA Try.f26 (.tup [(afindF t page).1.v, .bool (afindF t page).2])) = (CallSem Try.prog 28 [t.v] [] 2 (int i64 (acF t)) [] [] ∧ ((acF t != (0 : Int)) = true → 6 = 6 ∧ true = true ∧ 6 ≤ 6 ∧ 0 = (afindF t page).fst.start ∧ 0 = (afindF t page).fst.pages ∧ 0 = (afindF t page).fst.prot ∧ 0 = (afindF t page).fst.flags ∧ 0 = (afindF t page).fst.file ∧ 0 = (afindF t page).fst.index ∧ false = (afindF t page).snd ∧ True) ∧ ((acF t != (0 : Int)) = false → CallSem Try.prog 68 [t.v, int i64 page] [] 2 (tup [(findF t page).fst.v, bool (findF t page).snd]) [] [] ∧ 6 = 6 ∧ true = true ∧ 6 ≤ 6 ∧ (findF t page).fst.start = (afindF t page).fst.start ∧ (findF t page).fst.pages = (afindF t page).fst.pages ∧ (findF t page).fst.prot = (afindF t page).fst.prot ∧ (findF t page).fst.flags = (afindF t page).fst.flags ∧ (findF t page).fst.file = (afindF t page).fst.file ∧ (findF t page).fst.index = (afindF t page).fst.index ∧ (findF t page).snd = (afindF t page).snd ∧ True)) := by kernel_rfl
theorem afind_ps (t : Tr) (page : Int) (hn : (nodesF t).length ≤ 1073741824) : PS Try.prog 26 [t.v, .int .i64 page] (.tup [(afindF t page).1.v, .bool (afindF t page).2]) := by
  refine .of_vcN mixedA tabA afind_ok (by repeat' (first | exact trivial | exact Tr.pur _ | exact Pur.int | refine And.intro ?_ ?_)) (afind_vc t page) ?_
  try simp only [afindF, zR]
  repeat' (first | exact ac_ps t hn _ | exact find_ps t page _ | refine And.intro ?_ ?_ | (intro h_; first | (cases h_; done) | rw [h_] | (simp only [Bool.not_eq_true', Bool.not_eq_false'] at h_; rw [h_]) | skip))
  all_goals (first | exact trivial | exact Nat.le_refl _ | (simp only [bsm]; done))
def acountF (t : Tr) : Int := bif acF t != 0 then 0 else (listF t).length
theorem acount_ok : FnOK Try.prog 30 Try.f30 (bodyOf Try.f30) := ⟨Try.func30, rfl, rfl⟩
open Go.IntKind GV Ent in
theorem acount_vc (t : Tr) : vc Try.prog TA none [] [(4, tl (.int .i64 (acF t))), (7, tl (Lv (listF t)))] (bodyOf Try.f30) ⟨startT Try.f30 [t.v], []⟩ (Fin TA Try.f30 (.int .i64 (acountF t))) = (CallSem Try.prog 28 [t.v] [] 1 (int i64 (acF t)) [] [] ∧ ((acF t != (0 : Int)) = true → (0 : Int) = acountF t ∧ True) ∧ ((acF t != (0 : Int)) = false → CallSem Try.prog 52 [t.v] [] 1 (im (listF t).length (RL (listF t))) [] [] ∧ (↑(listF t).length : Int) = acountF t ∧ True)) := by kernel_rfl
theorem acount_ps (t : Tr) (hn : (nodesF t).length ≤ 1073741824) : PS Try.prog 30 [t.v] (.int .i64 (acountF t)) := by
  refine .of_vcN mixedA tabA acount_ok (by repeat' (first | exact trivial | exact Tr.pur _ | refine And.intro ?_ ?_)) (acount_vc t) ?_
  try simp only [acountF]
  repeat' (first | exact ac_ps t hn _ | exact tlist_ps t hn _ | refine And.intro ?_ ?_ | (intro h_; first | (cases h_; done) | rw [h_] | (simp only [Bool.not_eq_true', Bool.not_eq_false'] at h_; rw [h_]) | skip))
  all_goals (first | exact trivial | (simp only [bsm]; done))
def abuildF (l : List Rg) : Tr × Int := bif decide ((l.length : Int) > 12) then (zT, 9) else buildF l
theorem abuild_ok : FnOK Try.prog 54 Try.f54 (bodyOf Try.f54) := ⟨Try.func54, rfl, rfl⟩
open Go.IntKind GV Ent in
theorem abuild_vc (l : List Rg) : vc Try.prog TA none [] [(9, tl (.tup [(buildF l).1.v, .int .i64 (buildF l).2]))] (bodyOf Try.f54) ⟨startT Try.f54 [Lv l], []⟩ (Fin TA Try.f54 (.tup [(abuildF l).1.v, .int .i64 (abuildF l).2])) = ((decide ((↑l.length : Int) > (12 : Int)) = true → 11 = 11 ∧ true = true ∧ 11 ≤ 11 ∧ 0 = (abuildF l).fst.h ∧ 0 = (abuildF l).fst.f ∧ 0 = (abuildF l).fst.l ∧ 0 = (abuildF l).fst.g ∧ 0 = (abuildF l).fst.r.start ∧ 0 = (abuildF l).fst.r.pages ∧ 0 = (abuildF l).fst.r.prot ∧ 0 = (abuildF l).fst.r.flags ∧ 0 = (abuildF l).fst.r.file ∧ 0 = (abuildF l).fst.r.index ∧ ((abuildF l).fst.kids.length = (0 : Nat) ∧ (abuildF l).fst.K = []) ∧ 9 = (abuildF l).snd ∧ True) ∧ (decide ((↑l.length : Int) > (12 : Int)) = false → CallSem Try.prog 98 [im l.length (RL l)] [] 1 (tup [(buildF l).fst.v, int i64 (buildF l).snd]) [] [] ∧ 11 = 11 ∧ true = true ∧ 11 ≤ 11 ∧ (buildF l).fst.h = (abuildF l).fst.h ∧ (buildF l).fst.f = (abuildF l).fst.f ∧ (buildF l).fst.l = (abuildF l).fst.l ∧ (buildF l).fst.g = (abuildF l).fst.g ∧ (buildF l).fst.r.start = (abuildF l).fst.r.start ∧ (buildF l).fst.r.pages = (abuildF l).fst.r.pages ∧ (buildF l).fst.r.prot = (abuildF l).fst.r.prot ∧ (buildF l).fst.r.flags = (abuildF l).fst.r.flags ∧ (buildF l).fst.r.file = (abuildF l).fst.r.file ∧ (buildF l).fst.r.index = (abuildF l).fst.r.index ∧ (buildF l).fst.kids.length = (abuildF l).fst.kids.length ∧ (buildF l).fst.K = (abuildF l).fst.K ∧ PurL (buildF l).fst.K ∧ (buildF l).snd = (abuildF l).snd ∧ True)) := by kernel_rfl
theorem abuild_ps (l : List Rg) (hl : l.length ≤ 1073741824) (hok : l.all validF = true → BldOK l 0 zT) : PS Try.prog 54 [Lv l] (.tup [(abuildF l).1.v, .int .i64 (abuildF l).2]) := by
  refine .of_vcN mixedA tabA abuild_ok (by repeat' (first | exact trivial | exact Pur.im (RL_pur _) | refine And.intro ?_ ?_)) (abuild_vc l) ?_
  try simp only [abuildF]
  repeat' (first | exact tbuild_ps l hl hok _ | exact Tr.purK _ | refine And.intro ?_ ?_ | (intro h_; first | (cases h_; done) | rw [h_] | (simp only [Bool.not_eq_true', Bool.not_eq_false'] at h_; rw [h_]) | skip))
  all_goals (first | exact trivial | exact Nat.le_refl _ | (simp only [bsm]; done) | (simp only [bsm]; exact rfl))
def placeF (t : Tr) (n : Int) : Int := bif acF t != 0 then -1 else gapT t 0 512 n
theorem place_ok : FnOK Try.prog 20 Try.f20 (bodyOf Try.f20) := ⟨Try.func20, rfl, rfl⟩
open Go.IntKind GV Ent in
theorem place_vc (t : Tr) (n : Int) : vc Try.prog TA none [] [(6, tl (.int .i64 (acF t))), (10, tl (.int .i64 (gapT t 0 512 n)))] (bodyOf Try.f20) ⟨startT Try.f20 [t.v, .int .i64 n], []⟩ (Fin TA Try.f20 (.int .i64 (placeF t n))) = (CallSem Try.prog 28 [t.v] [] 1 (int i64 (acF t)) [] [] ∧ ((acF t != (0 : Int)) = true → (-1 : Int) = placeF t n ∧ True) ∧ ((acF t != (0 : Int)) = false → CallSem Try.prog 45 [t.v, int i64 0, int i64 512, int i64 n] [] 1 (int i64 (gapT t (0 : Int) (512 : Int) n)) [] [] ∧ gapT t (0 : Int) (512 : Int) n = placeF t n ∧ True)) := by kernel_rfl
theorem place_ps (t : Tr) (n : Int) (hn : (nodesF t).length ≤ 1073741824) : PS Try.prog 20 [t.v, .int .i64 n] (.int .i64 (placeF t n)) := by
  refine .of_vcN mixedA tabA place_ok (by repeat' (first | exact trivial | exact Tr.pur _ | exact Pur.int | refine And.intro ?_ ?_)) (place_vc t n) ?_
  try simp only [placeF]
  repeat' (first | exact ac_ps t hn _ | exact gapT_ps t 0 512 n _ | refine And.intro ?_ ?_ | (intro h_; first | (cases h_; done) | rw [h_] | (simp only [Bool.not_eq_true', Bool.not_eq_false'] at h_; rw [h_]) | skip))
  all_goals (first | exact trivial | (simp only [bsm]; done))
def acheckF (t : Tr) (p c : Int) : Int := bif acF t != 0 then acF t else bif decide (c < 1) then 1 else bif decide (p < 0) || (decide (p > 512) || decide (c > w64 (512 - p))) then 2 else 0
theorem acheck_ok : FnOK Try.prog 62 Try.f62 (bodyOf Try.f62) := ⟨Try.func62, rfl, rfl⟩
open Go.IntKind GV Ent in
theorem acheck_vc (t : Tr) (p c : Int) : vc Try.prog TA none [] [(9, tl (.int .i64 (acF t)))] (bodyOf Try.f62) ⟨startT Try.f62 [t.v, .int .i64 p, .int .i64 c], []⟩ (Fin TA Try.f62 (.int .i64 (acheckF t p c))) = (CallSem Try.prog 28 [t.v] [] 1 (int i64 (acF t)) [] [] ∧ ((acF t != (0 : Int)) = true → acF t = acheckF t p c ∧ True) ∧ ((acF t != (0 : Int)) = false → (decide (c < (1 : Int)) = true → (1 : Int) = acheckF t p c ∧ True) ∧ (decide (c < (1 : Int)) = false → (decide (p < (0 : Int)) = true → (2 : Int) = acheckF t p c ∧ True) ∧ (decide (p < (0 : Int)) = false → (decide (p > (512 : Int)) = true → (2 : Int) = acheckF t p c ∧ True) ∧ (decide (p > (512 : Int)) = false → (decide (c > i64.wrap ((512 : Int) - p)) = true → (2 : Int) = acheckF t p c ∧ True) ∧ (decide (c > i64.wrap ((512 : Int) - p)) = false → (0 : Int) = acheckF t p c ∧ True)))))) := by kernel_rfl
theorem acheck_ps (t : Tr) (p c : Int) (hn : (nodesF t).length ≤ 1073741824) : PS Try.prog 62 [t.v, .int .i64 p, .int .i64 c] (.int .i64 (acheckF t p c)) := by
  refine .of_vcN mixedA tabA acheck_ok (by repeat' (first | exact trivial | exact Tr.pur _ | exact Pur.int | refine And.intro ?_ ?_)) (acheck_vc t p c) ?_
  try simp only [acheckF]
  repeat' (first | exact ac_ps t hn _ | refine And.intro ?_ ?_ | (intro h_; first | (cases h_; done) | rw [h_] | (simp only [Bool.not_eq_true', Bool.not_eq_false'] at h_; rw [h_]) | skip))
  all_goals (first | exact trivial | (simp only [bsm]; done))
end Go.Proofs.Ytalcipbagidbpaa
end

section
set_option linter.unusedVariables false
namespace Go.Proofs.Ytalcipbagidbpaa
open Go.Proofs
def nrmS (out : List Rg) (x : Rg) : List Rg :=
  bif decide ((out.length : Int) > 0) then (bif (mergeR (atR out (out.length - 1)) x).2 == 0 then out.set (out.length - 1) (mergeR (atR out (out.length - 1)) x).1 else out ++ [x]) else out ++ [x]
theorem normal_ok : FnOK Try.prog 55 Try.f55 (.seq (cA (bodyOf Try.f55)) (.seq (cA (cB (bodyOf Try.f55))) (.seq (.seq (cA (cA (cB (cB (bodyOf Try.f55))))) (.block 0 (.rangeFunc (.tmp 8) #[9] (cA (cA (cB (cA (cB (cB (bodyOf Try.f55))))))) (cB (cA (cB (cA (cB (cB (bodyOf Try.f55)))))))))) (cB (cB (cB (bodyOf Try.f55))))))) :=
  ⟨Try.func55, by kernel_rfl, rfl⟩
def nH (out : List Rg) : List Ent := [.blk [.ol 1 out.length 6] 56, .ob (RL out) 23]
open Go.IntKind GV Ent in
theorem nrm_rd (b z l : Nat) (out : List Rg) (x : Rg) : roundVC Try.prog TA l [(19, tl (atR out (out.length - 1)).v), (21, tl (.tup [(mergeR (atR out (out.length - 1)) x).1.v, .int .i64 (mergeR (atR out (out.length - 1)) x).2]))] (cA (cA (cB (cA (cB (cB (bodyOf Try.f55))))))) (cB (cA (cB (cA (cB (cB (bodyOf Try.f55))))))) ⟨(oneT 36 3 (.at_ 0 0 b z)).set 9 x.v, nH out⟩ 3 b z (nH (nrmS out x)) = (6 = 6 ∧ true = true ∧ 6 ≤ 6 ∧ (decide ((↑out.length : Int) > (0 : Int)) = true → ((0 : Int) ≤ i64.wrap ((↑out.length : Int) - (1 : Int)) ∧ i64.wrap ((↑out.length : Int) - (1 : Int)) < (↑out.length : Int)) ∧ RL out ≠ [] ∧ 6 = 6 ∧ List.take 6 (List.drop (0 + (i64.wrap ((↑out.length : Int) - (1 : Int))).toNat * 6) (RL out)) = [int i64 (atR out (out.length - 1)).start, int i64 (atR out (out.length - 1)).pages, int i64 (atR out (out.length - 1)).prot, int i64 (atR out (out.length - 1)).flags, int i64 (atR out (out.length - 1)).file, int i64 (atR out (out.length - 1)).index] ∧ CallSem Try.prog 99 [(atR out (out.length - 1)).v, x.v] [] 3 (tup [(mergeR (atR out (out.length - 1)) x).fst.v, int i64 (mergeR (atR out (out.length - 1)) x).snd]) [] [] ∧ 6 = 6 ∧ true = true ∧ 6 ≤ 6 ∧ (((mergeR (atR out (out.length - 1)) x).snd == (0 : Int)) = true → ((0 : Int) ≤ i64.wrap ((↑out.length : Int) - (1 : Int)) ∧ i64.wrap ((↑out.length : Int) - (1 : Int)) < (↑out.length : Int)) ∧ 6 = 6 ∧ true = true ∧ 0 + (i64.wrap ((↑out.length : Int) - (1 : Int))).toNat * 6 + (6 : Nat) ≤ (RL out).length ∧ RL out ≠ [] ∧ (0 = 0 ∧ b = b ∧ z = z) ∧ (out.length = (nrmS out x).length ∧ 6 = 6) ∧ splice (RL out) (0 + (i64.wrap ((↑out.length : Int) - (1 : Int))).toNat * 6) [int i64 (mergeR (atR out (out.length - 1)) x).fst.start, int i64 (mergeR (atR out (out.length - 1)) x).fst.pages, int i64 (mergeR (atR out (out.length - 1)) x).fst.prot, int i64 (mergeR (atR out (out.length - 1)) x).fst.flags, int i64 (mergeR (atR out (out.length - 1)) x).fst.file, int i64 (mergeR (atR out (out.length - 1)) x).fst.index] = RL (nrmS out x) ∧ PurL (RL (nrmS out x)) ∧ True) ∧ (((mergeR (atR out (out.length - 1)) x).snd == (0 : Int)) = false → 6 ≤ 6 ∧ 23 = 23 ∧ (RL out).length = out.length * 6 ∧ out.length + 1 ≤ 1073741824 ∧ true = true ∧ true = true ∧ ((0 : Nat) < (6 : Nat) ∧ 48 ≤ 65536) ∧ 1 = 1 ∧ true = true ∧ 1 ≤ 1 ∧ (0 = 0 ∧ b = b ∧ z = z) ∧ (out.length + 1 = (nrmS out x).length ∧ 6 = 6) ∧ List.take (out.length * 6) (RL out) ++ [int i64 x.start, int i64 x.pages, int i64 x.prot, int i64 x.flags, int i64 x.file, int i64 x.index] = RL (nrmS out x) ∧ PurL (RL (nrmS out x)) ∧ True)) ∧ (decide ((↑out.length : Int) > (0 : Int)) = false → 6 ≤ 6 ∧ 23 = 23 ∧ (RL out).length = out.length * 6 ∧ out.length + 1 ≤ 1073741824 ∧ true = true ∧ true = true ∧ ((0 : Nat) < (6 : Nat) ∧ 48 ≤ 65536) ∧ 1 = 1 ∧ true = true ∧ 1 ≤ 1 ∧ (0 = 0 ∧ b = b ∧ z = z) ∧ (out.length + 1 = (nrmS out x).length ∧ 6 = 6) ∧ List.take (out.length * 6) (RL out) ++ [int i64 x.start, int i64 x.pages, int i64 x.prot, int i64 x.flags, int i64 x.file, int i64 x.index] = RL (nrmS out x) ∧ PurL (RL (nrmS out x)) ∧ True)) := by kernel_rfl
theorem nrm_post (out : List Rg) (d : List Deferred) : vc Try.prog TA none d [] (cB (cB (cB (bodyOf Try.f55)))) ⟨oneT 36 3 (.ptr 0 0), nH out⟩ (Fin TA Try.f55 (Lv out)) = (out.length = out.length ∧ ((RL out).length = out.length * 6 ∧ (0 : Nat) < (6 : Nat)) ∧ RL out = RL out ∧ PurL (RL out) ∧ True) := by kernel_rfl
theorem nrmS_len (out : List Rg) (x : Rg) : (nrmS out x).length ≤ out.length + 1 := by
  unfold nrmS
  cases decide ((out.length : Int) > 0)
  · simp
  · cases (mergeR (atR out (out.length - 1)) x).2 == 0 <;> simp
theorem nrm_round (b z l : Nat) (out : List Rg) (x : Rg) (hN : out.length < 1073741824) : roundVC Try.prog TA l [(19, tl (atR out (out.length - 1)).v), (21, tl (.tup [(mergeR (atR out (out.length - 1)) x).1.v, .int .i64 (mergeR (atR out (out.length - 1)) x).2]))] (cA (cA (cB (cA (cB (cB (bodyOf Try.f55))))))) (cB (cA (cB (cA (cB (cB (bodyOf Try.f55))))))) ⟨(oneT 36 3 (.at_ 0 0 b z)).set 9 x.v, nH out⟩ 3 b z (nH (nrmS out x)) := by
  rw [nrm_rd]
  have e1 := mergeR_ps (atR out (out.length - 1)) x
  simp only [nrmS]
  rcases Nat.eq_zero_or_pos out.length with h0 | h0
  · have hd : decide ((out.length : Int) > 0) = false := by rw [h0]; rfl
    rw [hd]
    repeat' (first | exact RL_pur _ | refine And.intro ?_ ?_ | (intro h_; first | (cases h_; done) | rw [h_] | skip))
    all_goals first | exact trivial | with_reducible rfl | exact Nat.le_of_ble_eq_true (Eq.refl true) | exact RL_length _ | omega | (simp [RL_takeL, RL_append, RL]; done) | skip
  · have hd : decide ((out.length : Int) > 0) = true := by simpa using h0
    have hw : IntKind.i64.wrap ((out.length : Int) - 1) = ((out.length - 1 : Nat) : Int) := by rw [wrap_id (by omega) (by omega)]; omega
    have hne : RL out ≠ [] := by rw [Ne, RL_nil]; intro h; rw [h] at h0; simp at h0
    have hl := RL_length out
    rw [hd, hw]
    simp only [Int.toNat_natCast, Nat.zero_add, cond_true]
    repeat' (first | exact e1 _ | exact hne | exact RL_pur _ | refine And.intro ?_ ?_ | (intro h_; first | (cases h_; done) | rw [h_] | skip))
    all_goals first | exact trivial | with_reducible rfl | exact Nat.le_of_ble_eq_true (Eq.refl true) | exact RL_length _ | omega | exact RL_at (by omega) | (simp [RL_takeL, RL_append, RL]; done) | (simp only [cond_true]; exact RL_set out _ _ (by omega)) | (simp; done) | skip
theorem normal_ps {gf : Nat} {caps : List GV} {xs : List Rg} (hit : IterSem Try.prog gf caps Rg.v xs) (hcaps : PurAll caps) (hx : xs.length ≤ 1000000000)
    (hpre : preVC Try.prog TA [] (cA (bodyOf Try.f55)) (cA (cB (bodyOf Try.f55))) (cA (cA (cB (cB (bodyOf Try.f55))))) ⟨startT Try.f55 [.fn gf caps], []⟩ ⟨tmL 36 [(3, .ptr 0 0), (8, .fn gf caps)], nH []⟩) : PS Try.prog 55 [.fn gf caps] (Lv (xs.foldl nrmS [])) :=
  PS.of_rangeV (jp := 3) (H := nH) (step := nrmS) (μ := List.length) (N := 1073741824) (s0 := []) mixedA tabA normal_ok ⟨Pur.fn hcaps.mem, trivial⟩ hit hcaps Rg.pur (tmL 36 [(3, .ptr 0 0), (8, .fn gf caps)]) rfl rfl nrmS_len (by simp; omega)
    (fun out x => [(19, tl (atR out (out.length - 1)).v), (21, tl (.tup [(mergeR (atR out (out.length - 1)) x).1.v, .int .i64 (mergeR (atR out (out.length - 1)) x).2]))]) [] []
    (fun b z l s x hs => nrm_round b z l s x hs) hpre (fun d => Eq.mpr (nrm_post (xs.foldl nrmS []) d) ⟨rfl, ⟨RL_length _, by decide⟩, rfl, RL_pur _, trivial⟩)
end Go.Proofs.Ytalcipbagidbpaa
end
