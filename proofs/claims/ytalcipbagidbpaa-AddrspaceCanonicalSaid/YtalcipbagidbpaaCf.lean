/- DERIVED. A part of the proof of a statement of this seat (Ld, Pj, Le, Lf, Ra, Rb, Rc). No statement of its own; no conditions. -/
import Derived.KernelRfl
import Derived.WalkKit
import Derived.ProofKit
import Derived.OpenShut
import Derived.ChangeOld
import Derived.Below
import Derived.SizedLaws
import Derived.ShutString
import Derived.Carry
import Derived.Test.YtalcipbagidbpaaCe
set_option linter.unusedVariables false
set_option linter.unusedSimpArgs false
set_option linter.unusedSectionVars false
set_option linter.unnecessarySimpa false
section
set_option linter.unusedVariables false
set_option maxHeartbeats 4000000
namespace Go.Proofs.Ytalcipbagidbpaa
open Go.Proofs
def rdoC (t : Tr) (o : Opr) : Tr × Int := bif o.kind == 0 then rmapF t o.r else bif o.kind == 1 then rumF t o.page o.count else bif o.kind == 2 then rproF t o.page o.count o.n else bif o.kind == 3 then rlockF t o.page o.count (o.n == 1) else bif o.kind == 4 then rgrowF t o.page else (t, 6)
def rdoF (t : Tr) (o : Opr) : Tr × Int := bif (rdoC t o).2 != 0 then (t, (rdoC t o).2) else ((rdoC t o).1, 0)
theorem do_ok : FnOK Try.prog 40 Try.f40 (bodyOf Try.f40) := ⟨Try.func40, rfl, rfl⟩
theorem do_vc (t : Tr) (o : Opr) : vc Try.prog TA none [] [(17, tl (.tup [(rmapF t o.r).1.v, .int .i64 (rmapF t o.r).2])), (28, tl (.tup [(rumF t o.page o.count).1.v, .int .i64 (rumF t o.page o.count).2])), (41, tl (.tup [(rproF t o.page o.count o.n).1.v, .int .i64 (rproF t o.page o.count o.n).2])), (55, tl (.tup [(rlockF t o.page o.count (o.n == 1)).1.v, .int .i64 (rlockF t o.page o.count (o.n == 1)).2])), (64, tl (.tup [(rgrowF t o.page).1.v, .int .i64 (rgrowF t o.page).2]))] (bodyOf Try.f40) ⟨startT Try.f40 [t.v, o.v], []⟩ (Fin TA Try.f40 (.tup [(rdoF t o).1.v, .int .i64 (rdoF t o).2])) = ((11 : Nat) = (11 : Nat) ∧ true = true ∧ (11 : Nat) ≤ (11 : Nat) ∧ ((o.kind == (0 : Int)) = true → CallSem Try.prog (17 : Nat) [GV.agg [GV.int IntKind.i64 t.h, GV.int IntKind.i64 t.f, GV.int IntKind.i64 t.l, GV.int IntKind.i64 t.g, GV.int IntKind.i64 t.r.start, GV.int IntKind.i64 t.r.pages, GV.int IntKind.i64 t.r.prot, GV.int IntKind.i64 t.r.flags, GV.int IntKind.i64 t.r.file, GV.int IntKind.i64 t.r.index, GV.im t.kids.length t.K], GV.agg [GV.int IntKind.i64 o.r.start, GV.int IntKind.i64 o.r.pages, GV.int IntKind.i64 o.r.prot, GV.int IntKind.i64 o.r.flags, GV.int IntKind.i64 o.r.file, GV.int IntKind.i64 o.r.index]] [] (4 : Nat) (GV.tup [GV.agg [GV.int IntKind.i64 (rmapF t o.r).fst.h, GV.int IntKind.i64 (rmapF t o.r).fst.f, GV.int IntKind.i64 (rmapF t o.r).fst.l, GV.int IntKind.i64 (rmapF t o.r).fst.g, GV.int IntKind.i64 (rmapF t o.r).fst.r.start, GV.int IntKind.i64 (rmapF t o.r).fst.r.pages, GV.int IntKind.i64 (rmapF t o.r).fst.r.prot, GV.int IntKind.i64 (rmapF t o.r).fst.r.flags, GV.int IntKind.i64 (rmapF t o.r).fst.r.file, GV.int IntKind.i64 (rmapF t o.r).fst.r.index, GV.im (rmapF t o.r).fst.kids.length (rmapF t o.r).fst.K], GV.int IntKind.i64 (rmapF t o.r).snd]) [] [] ∧ (11 : Nat) = (11 : Nat) ∧ true = true ∧ (11 : Nat) ≤ (11 : Nat) ∧ (((rmapF t o.r).snd != (0 : Int)) = true → (11 : Nat) = (11 : Nat) ∧ true = true ∧ (11 : Nat) ≤ (11 : Nat) ∧ t.h = (rdoF t o).fst.h ∧ t.f = (rdoF t o).fst.f ∧ t.l = (rdoF t o).fst.l ∧ t.g = (rdoF t o).fst.g ∧ t.r.start = (rdoF t o).fst.r.start ∧ t.r.pages = (rdoF t o).fst.r.pages ∧ t.r.prot = (rdoF t o).fst.r.prot ∧ t.r.flags = (rdoF t o).fst.r.flags ∧ t.r.file = (rdoF t o).fst.r.file ∧ t.r.index = (rdoF t o).fst.r.index ∧ t.kids.length = (rdoF t o).fst.kids.length ∧ t.K = (rdoF t o).fst.K ∧ PurL t.K ∧ (rmapF t o.r).snd = (rdoF t o).snd ∧ True) ∧ (((rmapF t o.r).snd != (0 : Int)) = false → (11 : Nat) = (11 : Nat) ∧ true = true ∧ (11 : Nat) ≤ (11 : Nat) ∧ (rmapF t o.r).fst.h = (rdoF t o).fst.h ∧ (rmapF t o.r).fst.f = (rdoF t o).fst.f ∧ (rmapF t o.r).fst.l = (rdoF t o).fst.l ∧ (rmapF t o.r).fst.g = (rdoF t o).fst.g ∧ (rmapF t o.r).fst.r.start = (rdoF t o).fst.r.start ∧ (rmapF t o.r).fst.r.pages = (rdoF t o).fst.r.pages ∧ (rmapF t o.r).fst.r.prot = (rdoF t o).fst.r.prot ∧ (rmapF t o.r).fst.r.flags = (rdoF t o).fst.r.flags ∧ (rmapF t o.r).fst.r.file = (rdoF t o).fst.r.file ∧ (rmapF t o.r).fst.r.index = (rdoF t o).fst.r.index ∧ (rmapF t o.r).fst.kids.length = (rdoF t o).fst.kids.length ∧ (rmapF t o.r).fst.K = (rdoF t o).fst.K ∧ PurL (rmapF t o.r).fst.K ∧ (0 : Int) = (rdoF t o).snd ∧ True)) ∧ ((o.kind == (0 : Int)) = false → ((o.kind == (1 : Int)) = true → CallSem Try.prog (22 : Nat) [GV.agg [GV.int IntKind.i64 t.h, GV.int IntKind.i64 t.f, GV.int IntKind.i64 t.l, GV.int IntKind.i64 t.g, GV.int IntKind.i64 t.r.start, GV.int IntKind.i64 t.r.pages, GV.int IntKind.i64 t.r.prot, GV.int IntKind.i64 t.r.flags, GV.int IntKind.i64 t.r.file, GV.int IntKind.i64 t.r.index, GV.im t.kids.length t.K], GV.int IntKind.i64 o.page, GV.int IntKind.i64 o.count] [] (4 : Nat) (GV.tup [GV.agg [GV.int IntKind.i64 (rumF t o.page o.count).fst.h, GV.int IntKind.i64 (rumF t o.page o.count).fst.f, GV.int IntKind.i64 (rumF t o.page o.count).fst.l, GV.int IntKind.i64 (rumF t o.page o.count).fst.g, GV.int IntKind.i64 (rumF t o.page o.count).fst.r.start, GV.int IntKind.i64 (rumF t o.page o.count).fst.r.pages, GV.int IntKind.i64 (rumF t o.page o.count).fst.r.prot, GV.int IntKind.i64 (rumF t o.page o.count).fst.r.flags, GV.int IntKind.i64 (rumF t o.page o.count).fst.r.file, GV.int IntKind.i64 (rumF t o.page o.count).fst.r.index, GV.im (rumF t o.page o.count).fst.kids.length (rumF t o.page o.count).fst.K], GV.int IntKind.i64 (rumF t o.page o.count).snd]) [] [] ∧ (11 : Nat) = (11 : Nat) ∧ true = true ∧ (11 : Nat) ≤ (11 : Nat) ∧ (((rumF t o.page o.count).snd != (0 : Int)) = true → (11 : Nat) = (11 : Nat) ∧ true = true ∧ (11 : Nat) ≤ (11 : Nat) ∧ t.h = (rdoF t o).fst.h ∧ t.f = (rdoF t o).fst.f ∧ t.l = (rdoF t o).fst.l ∧ t.g = (rdoF t o).fst.g ∧ t.r.start = (rdoF t o).fst.r.start ∧ t.r.pages = (rdoF t o).fst.r.pages ∧ t.r.prot = (rdoF t o).fst.r.prot ∧ t.r.flags = (rdoF t o).fst.r.flags ∧ t.r.file = (rdoF t o).fst.r.file ∧ t.r.index = (rdoF t o).fst.r.index ∧ t.kids.length = (rdoF t o).fst.kids.length ∧ t.K = (rdoF t o).fst.K ∧ PurL t.K ∧ (rumF t o.page o.count).snd = (rdoF t o).snd ∧ True) ∧ (((rumF t o.page o.count).snd != (0 : Int)) = false → (11 : Nat) = (11 : Nat) ∧ true = true ∧ (11 : Nat) ≤ (11 : Nat) ∧ (rumF t o.page o.count).fst.h = (rdoF t o).fst.h ∧ (rumF t o.page o.count).fst.f = (rdoF t o).fst.f ∧ (rumF t o.page o.count).fst.l = (rdoF t o).fst.l ∧ (rumF t o.page o.count).fst.g = (rdoF t o).fst.g ∧ (rumF t o.page o.count).fst.r.start = (rdoF t o).fst.r.start ∧ (rumF t o.page o.count).fst.r.pages = (rdoF t o).fst.r.pages ∧ (rumF t o.page o.count).fst.r.prot = (rdoF t o).fst.r.prot ∧ (rumF t o.page o.count).fst.r.flags = (rdoF t o).fst.r.flags ∧ (rumF t o.page o.count).fst.r.file = (rdoF t o).fst.r.file ∧ (rumF t o.page o.count).fst.r.index = (rdoF t o).fst.r.index ∧ (rumF t o.page o.count).fst.kids.length = (rdoF t o).fst.kids.length ∧ (rumF t o.page o.count).fst.K = (rdoF t o).fst.K ∧ PurL (rumF t o.page o.count).fst.K ∧ (0 : Int) = (rdoF t o).snd ∧ True)) ∧ ((o.kind == (1 : Int)) = false → ((o.kind == (2 : Int)) = true → CallSem Try.prog (32 : Nat) [GV.agg [GV.int IntKind.i64 t.h, GV.int IntKind.i64 t.f, GV.int IntKind.i64 t.l, GV.int IntKind.i64 t.g, GV.int IntKind.i64 t.r.start, GV.int IntKind.i64 t.r.pages, GV.int IntKind.i64 t.r.prot, GV.int IntKind.i64 t.r.flags, GV.int IntKind.i64 t.r.file, GV.int IntKind.i64 t.r.index, GV.im t.kids.length t.K], GV.int IntKind.i64 o.page, GV.int IntKind.i64 o.count, GV.int IntKind.i64 o.n] [] (4 : Nat) (GV.tup [GV.agg [GV.int IntKind.i64 (rproF t o.page o.count o.n).fst.h, GV.int IntKind.i64 (rproF t o.page o.count o.n).fst.f, GV.int IntKind.i64 (rproF t o.page o.count o.n).fst.l, GV.int IntKind.i64 (rproF t o.page o.count o.n).fst.g, GV.int IntKind.i64 (rproF t o.page o.count o.n).fst.r.start, GV.int IntKind.i64 (rproF t o.page o.count o.n).fst.r.pages, GV.int IntKind.i64 (rproF t o.page o.count o.n).fst.r.prot, GV.int IntKind.i64 (rproF t o.page o.count o.n).fst.r.flags, GV.int IntKind.i64 (rproF t o.page o.count o.n).fst.r.file, GV.int IntKind.i64 (rproF t o.page o.count o.n).fst.r.index, GV.im (rproF t o.page o.count o.n).fst.kids.length (rproF t o.page o.count o.n).fst.K], GV.int IntKind.i64 (rproF t o.page o.count o.n).snd]) [] [] ∧ (11 : Nat) = (11 : Nat) ∧ true = true ∧ (11 : Nat) ≤ (11 : Nat) ∧ (((rproF t o.page o.count o.n).snd != (0 : Int)) = true → (11 : Nat) = (11 : Nat) ∧ true = true ∧ (11 : Nat) ≤ (11 : Nat) ∧ t.h = (rdoF t o).fst.h ∧ t.f = (rdoF t o).fst.f ∧ t.l = (rdoF t o).fst.l ∧ t.g = (rdoF t o).fst.g ∧ t.r.start = (rdoF t o).fst.r.start ∧ t.r.pages = (rdoF t o).fst.r.pages ∧ t.r.prot = (rdoF t o).fst.r.prot ∧ t.r.flags = (rdoF t o).fst.r.flags ∧ t.r.file = (rdoF t o).fst.r.file ∧ t.r.index = (rdoF t o).fst.r.index ∧ t.kids.length = (rdoF t o).fst.kids.length ∧ t.K = (rdoF t o).fst.K ∧ PurL t.K ∧ (rproF t o.page o.count o.n).snd = (rdoF t o).snd ∧ True) ∧ (((rproF t o.page o.count o.n).snd != (0 : Int)) = false → (11 : Nat) = (11 : Nat) ∧ true = true ∧ (11 : Nat) ≤ (11 : Nat) ∧ (rproF t o.page o.count o.n).fst.h = (rdoF t o).fst.h ∧ (rproF t o.page o.count o.n).fst.f = (rdoF t o).fst.f ∧ (rproF t o.page o.count o.n).fst.l = (rdoF t o).fst.l ∧ (rproF t o.page o.count o.n).fst.g = (rdoF t o).fst.g ∧ (rproF t o.page o.count o.n).fst.r.start = (rdoF t o).fst.r.start ∧ (rproF t o.page o.count o.n).fst.r.pages = (rdoF t o).fst.r.pages ∧ (rproF t o.page o.count o.n).fst.r.prot = (rdoF t o).fst.r.prot ∧ (rproF t o.page o.count o.n).fst.r.flags = (rdoF t o).fst.r.flags ∧ (rproF t o.page o.count o.n).fst.r.file = (rdoF t o).fst.r.file ∧ (rproF t o.page o.count o.n).fst.r.index = (rdoF t o).fst.r.index ∧ (rproF t o.page o.count o.n).fst.kids.length = (rdoF t o).fst.kids.length ∧ (rproF t o.page o.count o.n).fst.K = (rdoF t o).fst.K ∧ PurL (rproF t o.page o.count o.n).fst.K ∧ (0 : Int) = (rdoF t o).snd ∧ True)) ∧ ((o.kind == (2 : Int)) = false → ((o.kind == (3 : Int)) = true → CallSem Try.prog (34 : Nat) [GV.agg [GV.int IntKind.i64 t.h, GV.int IntKind.i64 t.f, GV.int IntKind.i64 t.l, GV.int IntKind.i64 t.g, GV.int IntKind.i64 t.r.start, GV.int IntKind.i64 t.r.pages, GV.int IntKind.i64 t.r.prot, GV.int IntKind.i64 t.r.flags, GV.int IntKind.i64 t.r.file, GV.int IntKind.i64 t.r.index, GV.im t.kids.length t.K], GV.int IntKind.i64 o.page, GV.int IntKind.i64 o.count, GV.bool (o.n == (1 : Int))] [] (4 : Nat) (GV.tup [GV.agg [GV.int IntKind.i64 (rlockF t o.page o.count (o.n == (1 : Int))).fst.h, GV.int IntKind.i64 (rlockF t o.page o.count (o.n == (1 : Int))).fst.f, GV.int IntKind.i64 (rlockF t o.page o.count (o.n == (1 : Int))).fst.l, GV.int IntKind.i64 (rlockF t o.page o.count (o.n == (1 : Int))).fst.g, GV.int IntKind.i64 (rlockF t o.page o.count (o.n == (1 : Int))).fst.r.start, GV.int IntKind.i64 (rlockF t o.page o.count (o.n == (1 : Int))).fst.r.pages, GV.int IntKind.i64 (rlockF t o.page o.count (o.n == (1 : Int))).fst.r.prot, GV.int IntKind.i64 (rlockF t o.page o.count (o.n == (1 : Int))).fst.r.flags, GV.int IntKind.i64 (rlockF t o.page o.count (o.n == (1 : Int))).fst.r.file, GV.int IntKind.i64 (rlockF t o.page o.count (o.n == (1 : Int))).fst.r.index, GV.im (rlockF t o.page o.count (o.n == (1 : Int))).fst.kids.length (rlockF t o.page o.count (o.n == (1 : Int))).fst.K], GV.int IntKind.i64 (rlockF t o.page o.count (o.n == (1 : Int))).snd]) [] [] ∧ (11 : Nat) = (11 : Nat) ∧ true = true ∧ (11 : Nat) ≤ (11 : Nat) ∧ (((rlockF t o.page o.count (o.n == (1 : Int))).snd != (0 : Int)) = true → (11 : Nat) = (11 : Nat) ∧ true = true ∧ (11 : Nat) ≤ (11 : Nat) ∧ t.h = (rdoF t o).fst.h ∧ t.f = (rdoF t o).fst.f ∧ t.l = (rdoF t o).fst.l ∧ t.g = (rdoF t o).fst.g ∧ t.r.start = (rdoF t o).fst.r.start ∧ t.r.pages = (rdoF t o).fst.r.pages ∧ t.r.prot = (rdoF t o).fst.r.prot ∧ t.r.flags = (rdoF t o).fst.r.flags ∧ t.r.file = (rdoF t o).fst.r.file ∧ t.r.index = (rdoF t o).fst.r.index ∧ t.kids.length = (rdoF t o).fst.kids.length ∧ t.K = (rdoF t o).fst.K ∧ PurL t.K ∧ (rlockF t o.page o.count (o.n == (1 : Int))).snd = (rdoF t o).snd ∧ True) ∧ (((rlockF t o.page o.count (o.n == (1 : Int))).snd != (0 : Int)) = false → (11 : Nat) = (11 : Nat) ∧ true = true ∧ (11 : Nat) ≤ (11 : Nat) ∧ (rlockF t o.page o.count (o.n == (1 : Int))).fst.h = (rdoF t o).fst.h ∧ (rlockF t o.page o.count (o.n == (1 : Int))).fst.f = (rdoF t o).fst.f ∧ (rlockF t o.page o.count (o.n == (1 : Int))).fst.l = (rdoF t o).fst.l ∧ (rlockF t o.page o.count (o.n == (1 : Int))).fst.g = (rdoF t o).fst.g ∧ (rlockF t o.page o.count (o.n == (1 : Int))).fst.r.start = (rdoF t o).fst.r.start ∧ (rlockF t o.page o.count (o.n == (1 : Int))).fst.r.pages = (rdoF t o).fst.r.pages ∧ (rlockF t o.page o.count (o.n == (1 : Int))).fst.r.prot = (rdoF t o).fst.r.prot ∧ (rlockF t o.page o.count (o.n == (1 : Int))).fst.r.flags = (rdoF t o).fst.r.flags ∧ (rlockF t o.page o.count (o.n == (1 : Int))).fst.r.file = (rdoF t o).fst.r.file ∧ (rlockF t o.page o.count (o.n == (1 : Int))).fst.r.index = (rdoF t o).fst.r.index ∧ (rlockF t o.page o.count (o.n == (1 : Int))).fst.kids.length = (rdoF t o).fst.kids.length ∧ (rlockF t o.page o.count (o.n == (1 : Int))).fst.K = (rdoF t o).fst.K ∧ PurL (rlockF t o.page o.count (o.n == (1 : Int))).fst.K ∧ (0 : Int) = (rdoF t o).snd ∧ True)) ∧ ((o.kind == (3 : Int)) = false → ((o.kind == (4 : Int)) = true → CallSem Try.prog (24 : Nat) [GV.agg [GV.int IntKind.i64 t.h, GV.int IntKind.i64 t.f, GV.int IntKind.i64 t.l, GV.int IntKind.i64 t.g, GV.int IntKind.i64 t.r.start, GV.int IntKind.i64 t.r.pages, GV.int IntKind.i64 t.r.prot, GV.int IntKind.i64 t.r.flags, GV.int IntKind.i64 t.r.file, GV.int IntKind.i64 t.r.index, GV.im t.kids.length t.K], GV.int IntKind.i64 o.page] [] (4 : Nat) (GV.tup [GV.agg [GV.int IntKind.i64 (rgrowF t o.page).fst.h, GV.int IntKind.i64 (rgrowF t o.page).fst.f, GV.int IntKind.i64 (rgrowF t o.page).fst.l, GV.int IntKind.i64 (rgrowF t o.page).fst.g, GV.int IntKind.i64 (rgrowF t o.page).fst.r.start, GV.int IntKind.i64 (rgrowF t o.page).fst.r.pages, GV.int IntKind.i64 (rgrowF t o.page).fst.r.prot, GV.int IntKind.i64 (rgrowF t o.page).fst.r.flags, GV.int IntKind.i64 (rgrowF t o.page).fst.r.file, GV.int IntKind.i64 (rgrowF t o.page).fst.r.index, GV.im (rgrowF t o.page).fst.kids.length (rgrowF t o.page).fst.K], GV.int IntKind.i64 (rgrowF t o.page).snd]) [] [] ∧ (11 : Nat) = (11 : Nat) ∧ true = true ∧ (11 : Nat) ≤ (11 : Nat) ∧ (((rgrowF t o.page).snd != (0 : Int)) = true → (11 : Nat) = (11 : Nat) ∧ true = true ∧ (11 : Nat) ≤ (11 : Nat) ∧ t.h = (rdoF t o).fst.h ∧ t.f = (rdoF t o).fst.f ∧ t.l = (rdoF t o).fst.l ∧ t.g = (rdoF t o).fst.g ∧ t.r.start = (rdoF t o).fst.r.start ∧ t.r.pages = (rdoF t o).fst.r.pages ∧ t.r.prot = (rdoF t o).fst.r.prot ∧ t.r.flags = (rdoF t o).fst.r.flags ∧ t.r.file = (rdoF t o).fst.r.file ∧ t.r.index = (rdoF t o).fst.r.index ∧ t.kids.length = (rdoF t o).fst.kids.length ∧ t.K = (rdoF t o).fst.K ∧ PurL t.K ∧ (rgrowF t o.page).snd = (rdoF t o).snd ∧ True) ∧ (((rgrowF t o.page).snd != (0 : Int)) = false → (11 : Nat) = (11 : Nat) ∧ true = true ∧ (11 : Nat) ≤ (11 : Nat) ∧ (rgrowF t o.page).fst.h = (rdoF t o).fst.h ∧ (rgrowF t o.page).fst.f = (rdoF t o).fst.f ∧ (rgrowF t o.page).fst.l = (rdoF t o).fst.l ∧ (rgrowF t o.page).fst.g = (rdoF t o).fst.g ∧ (rgrowF t o.page).fst.r.start = (rdoF t o).fst.r.start ∧ (rgrowF t o.page).fst.r.pages = (rdoF t o).fst.r.pages ∧ (rgrowF t o.page).fst.r.prot = (rdoF t o).fst.r.prot ∧ (rgrowF t o.page).fst.r.flags = (rdoF t o).fst.r.flags ∧ (rgrowF t o.page).fst.r.file = (rdoF t o).fst.r.file ∧ (rgrowF t o.page).fst.r.index = (rdoF t o).fst.r.index ∧ (rgrowF t o.page).fst.kids.length = (rdoF t o).fst.kids.length ∧ (rgrowF t o.page).fst.K = (rdoF t o).fst.K ∧ PurL (rgrowF t o.page).fst.K ∧ (0 : Int) = (rdoF t o).snd ∧ True)) ∧ ((o.kind == (4 : Int)) = false → (true = true → (11 : Nat) = (11 : Nat) ∧ true = true ∧ (11 : Nat) ≤ (11 : Nat) ∧ t.h = (rdoF t o).fst.h ∧ t.f = (rdoF t o).fst.f ∧ t.l = (rdoF t o).fst.l ∧ t.g = (rdoF t o).fst.g ∧ t.r.start = (rdoF t o).fst.r.start ∧ t.r.pages = (rdoF t o).fst.r.pages ∧ t.r.prot = (rdoF t o).fst.r.prot ∧ t.r.flags = (rdoF t o).fst.r.flags ∧ t.r.file = (rdoF t o).fst.r.file ∧ t.r.index = (rdoF t o).fst.r.index ∧ t.kids.length = (rdoF t o).fst.kids.length ∧ t.K = (rdoF t o).fst.K ∧ PurL t.K ∧ (6 : Int) = (rdoF t o).snd ∧ True) ∧ (true = false → (11 : Nat) = (11 : Nat) ∧ true = true ∧ (11 : Nat) ≤ (11 : Nat) ∧ t.h = (rdoF t o).fst.h ∧ t.f = (rdoF t o).fst.f ∧ t.l = (rdoF t o).fst.l ∧ t.g = (rdoF t o).fst.g ∧ t.r.start = (rdoF t o).fst.r.start ∧ t.r.pages = (rdoF t o).fst.r.pages ∧ t.r.prot = (rdoF t o).fst.r.prot ∧ t.r.flags = (rdoF t o).fst.r.flags ∧ t.r.file = (rdoF t o).fst.r.file ∧ t.r.index = (rdoF t o).fst.r.index ∧ t.kids.length = (rdoF t o).fst.kids.length ∧ t.K = (rdoF t o).fst.K ∧ PurL t.K ∧ (0 : Int) = (rdoF t o).snd ∧ True))))))) := by kernel_rfl
theorem do_ps (t : Tr) (o : Opr) (hs : t.sz ≤ 1000000) : PS Try.prog 40 [t.v, o.v] (.tup [(rdoF t o).1.v, .int .i64 (rdoF t o).2]) := by
  refine .of_vcN mixedA tabA do_ok (by repeat' (first | exact trivial | exact Rg.pur _ | exact Opr.pur _ | exact Tr.pur _ | exact zG_pur | exact Pur.agg (PurAll.mem ⟨Pur.int, Pur.int, trivial⟩) | exact PurL.eptr (purS (Eq.refl true)) | exact PurL.eptr (Tr.purc _) | exact Pur.int | exact Pur.bool | exact Pur.lit | exact Pur.im (KL_pur _) | exact Pur.im (RL_pur _) | exact PurL.eptr (purS (Eq.refl true)) | exact Pur.fn (PurAll.mem trivial) | exact Pur.fn (PurAll.mem ⟨PurL.eptr (purS (Eq.refl true)), trivial⟩) | refine And.intro ?_ ?_)) (do_vc t o) ?_
  try simp only [rdoF, rdoC]
  repeat' (first | exact map1 hs o.r _ | exact unmap1 hs o.page o.count _ | exact prot1 hs o.page o.count o.n _ | exact lock1 hs o.page o.count (o.n == 1) _ | exact grow1 hs o.page _ | exact Tr.purK _ | exact KL_pur _ | exact RL_pur _ | exact purS (Eq.refl true) | refine And.intro ?_ ?_ | (intro h_; first | (cases h_; done) | rw [h_] | (simp only [Bool.not_eq_true', Bool.not_eq_false'] at h_; rw [h_]) | skip))
  all_goals (first | exact trivial | with_reducible rfl | exact Nat.le_refl _ | exact Tr.purK _ | exact KL_pur _ | exact RL_pur _ | (simp only [bsm]; done) | (simp only [bsm]; exact rfl) | exact Nat.le_of_ble_eq_true (Eq.refl true) | assumption | (simp only [bsm, *]; done) | (simp [RL_length, RL_takeL, RL_append, RL, rdoF, rdoC, bsm]; done) | (refine PurAll.mem ?_; repeat' (first | exact trivial | exact Pur.int | exact Pur.bool | exact Pur.nils | exact Pur.im (Tr.purK _) | exact Pur.im (KL_pur _) | exact Pur.im (RL_pur _) | exact PurL.eptr (purS (Eq.refl true)) | exact Pur.fn (PurAll.mem trivial) | exact Pur.fn (PurAll.mem ⟨PurL.eptr (purS (Eq.refl true)), trivial⟩) | refine And.intro ?_ ?_)) | skip)
end Go.Proofs.Ytalcipbagidbpaa
end

section
set_option linter.unusedVariables false
namespace Go.Proofs.Ytalcipbagidbpaa
open Go.Proofs
/-- A list out of which an address space is made. -/
structure Mk (l : List Rg) : Prop where
  lok : LOK l
  len : l.length ≤ BIG
section
variable {t : Tr} (hs : t.sz ≤ 1000000) (hk : Sok t)
include hs hk
theorem rmap_cases (r : Rg) : (∃ e, e ≠ 0 ∧ rmapF t r = (zT, e)) ∨ (Rok r ∧ (∀ x ∈ lst t, ¬ Ov x r) ∧ rmapF t r = rtreeF (ins r (lst t)) ∧ Mk (ins r (lst t))) := by
  unfold rmapF
  rw [(rcF_iff (sz_big hs)).2 hk, rls_sok (sz_big hs) hk]
  simp only [bne_self_eq_false, cond_false]
  by_cases hr : rchk r = 0
  · have hr' := rok_iff.1 hr
    rw [hr]
    simp only [bne_self_eq_false, cond_false]
    cases ho : rmO r (lst t) with
    | true => exact .inl ⟨7, by decide, rfl⟩
    | false =>
      have hno : ∀ x ∈ lst t, ¬ Ov x r := fun x hx hov => by rw [(rmO_iff hr' hk.lok).2 ⟨x, hx, hov⟩] at ho; cases ho
      have e : rinL t r = ins r (lst t) := by unfold rinL; rw [rls_sok (sz_big hs) hk, rmL_false]; rfl
      rw [cond_false, e]
      exact .inr ⟨hr', hno, rfl, (LOK.ins hr' hk.lok hno).1, by rw [ins_len]; have := hk.few; unfold BIG; omega⟩
  · rw [bne0.2 hr]; exact .inl ⟨rchk r, hr, rfl⟩
theorem rum_cases (p c : Int) : (∃ e, e ≠ 0 ∧ rumF t p c = (zT, e)) ∨ (Rin p c ∧ rumF t p c = rtreeF ((lst t).flatMap fun r => cutS r p c) ∧ Mk ((lst t).flatMap fun r => cutS r p c)) := by
  unfold rumF
  rw [(rcF_iff (sz_big hs)).2 hk]
  simp only [bne_self_eq_false, cond_false]
  by_cases hw : rwiF p c = 0
  · have hr := rwi_in hw
    have e2 : rumL t p c = (lst t).flatMap fun r => cutS r p c := by
      unfold rumL; rw [rls_sok (sz_big hs) hk]; exact flatMap_congr fun r h => rcutL_is (hk.lok.1 r h) hr
    rw [hw, e2]
    refine .inr ⟨hr, rfl, hk.lok.flat fun r h => cutS_prt (hk.lok.1 r h) hr, ?_⟩
    rw [← e2]; exact Nat.le_trans (rumL_len (nodes_n hs)) (by decide)
  · rw [bne0.2 hw]; exact .inl ⟨rwiF p c, hw, rfl⟩
theorem cov_all {p c : Int} (hr : Rin p c) (h : rcvN t c.toNat p = true) : ∀ q, p ≤ q → q < p + c → ∃ x ∈ lst t, x.start ≤ q ∧ q < x.start + x.pages := by
  intro q h1 h2
  have := (rcvN_iff c.toNat p).1 h (q - p).toNat (by omega)
  rw [show p + ((q - p).toNat : Int) = q by omega, rfind_is (sz_big hs) hk] at this
  exact (rfnL_iff hk.lok).1 this
theorem rpro_cases (p c pr : Int) : (∃ e, e ≠ 0 ∧ rproF t p c pr = (zT, e)) ∨ (Rin p c ∧ (pr = 1 ∨ pr = 3) ∧ (∀ q, p ≤ q → q < p + c → ∃ x ∈ lst t, x.start ≤ q ∧ q < x.start + x.pages) ∧ rproF t p c pr = rtreeF ((lst t).flatMap (chgE (proO pr) (proT pr) p c)) ∧ Mk ((lst t).flatMap (chgE (proO pr) (proT pr) p c))) := by
  unfold rproF
  rw [(rcF_iff (sz_big hs)).2 hk]
  simp only [bne_self_eq_false, cond_false]
  by_cases hw : rwiF p c = 0
  · have hr := rwi_in hw
    rw [hw]
    simp only [bne_self_eq_false, cond_false]
    by_cases hpr : pr = 1 ∨ pr = 3
    · have e : ((pr != 1) && (pr != 3)) = false := by rcases hpr with rfl | rfl <;> rfl
      rw [e, cond_false]
      cases hc : rcvN t c.toNat p with
      | false => exact .inl ⟨13, by decide, rfl⟩
      | true =>
        obtain ⟨e1, e2⟩ := chgP_list hk.lok hr hpr
        rw [Bool.not_true, cond_false, rls_sok (sz_big hs) hk, ← e1]
        exact .inr ⟨hr, hpr, cov_all hs hk hr hc, rfl, e1.symm ▸ e2, by have := chgL_len' hk.few (proO pr) (proT pr) p c; unfold BIG; omega⟩
    · have e : ((pr != 1) && (pr != 3)) = true := by simp only [Bool.and_eq_true, bne_iff_ne]; omega
      rw [e]; exact .inl ⟨1, by decide, rfl⟩
  · rw [bne0.2 hw]; exact .inl ⟨rwiF p c, hw, rfl⟩
theorem rlock_cases (p c : Int) (on : Bool) : (∃ e, e ≠ 0 ∧ rlockF t p c on = (zT, e)) ∨ (Rin p c ∧ (∀ q, p ≤ q → q < p + c → ∃ x ∈ lst t, x.start ≤ q ∧ q < x.start + x.pages) ∧ rlockF t p c on = rtreeF ((lst t).flatMap (chgE (lockO on) lockT p c)) ∧ Mk ((lst t).flatMap (chgE (lockO on) lockT p c))) := by
  unfold rlockF
  rw [(rcF_iff (sz_big hs)).2 hk]
  simp only [bne_self_eq_false, cond_false]
  by_cases hw : rwiF p c = 0
  · have hr := rwi_in hw
    rw [hw]
    simp only [bne_self_eq_false, cond_false]
    cases hc : rcvN t c.toNat p with
    | false => exact .inl ⟨13, by decide, rfl⟩
    | true =>
      obtain ⟨e1, e2⟩ := chgL_list hk.lok hr on
      rw [Bool.not_true, cond_false, rls_sok (sz_big hs) hk, ← e1]
      exact .inr ⟨hr, cov_all hs hk hr hc, rfl, e1.symm ▸ e2, by have := chgL_len' hk.few (lockO on) lockT p c; unfold BIG; omega⟩
  · rw [bne0.2 hw]; exact .inl ⟨rwiF p c, hw, rfl⟩
/-- What Grow asks of a space. -/
structure Gr (l a : List Rg) (x : Rg) (b : List Rg) (p : Int) : Prop where
  e : l = a ++ x :: b
  p0 : 0 ≤ p
  p1 : p < x.start
  low : ∀ y ∈ a, y.start + y.pages < p
  fl : flagR x 2 = true
theorem rgrow_cases (p : Int) : (∃ e, e ≠ 0 ∧ rgrowF t p = (zT, e)) ∨ (∃ a x b, Gr (lst t) a x b p ∧ rgrowF t p = rtreeF (a ++ growR x p :: b) ∧ Mk (a ++ growR x p :: b)) := by
  unfold rgrowF
  rw [(rcF_iff (sz_big hs)).2 hk]
  simp only [bne_self_eq_false, cond_false]
  by_cases hp : 0 ≤ p ∧ p < 512
  · have e : (decide (p < 0) || decide (p ≥ 512)) = false := by simp only [Bool.or_eq_false_iff, decide_eq_false_iff_not]; omega
    have wp : w64 (p - 1) = p - 1 := w_small (by omega) (by omega)
    rw [e, cond_false, rfind_is (sz_big hs) hk, rfind_is (sz_big hs) hk, wp, rls_sok (sz_big hs) hk]
    cases h1 : (rfnL p (lst t)).2 with
    | true => exact .inl ⟨7, by decide, rfl⟩
    | false =>
      cases h2 : (rfnL (p - 1) (lst t)).2 with
      | true => exact .inl ⟨13, by decide, rfl⟩
      | false =>
        rw [cond_false, cond_false]
        cases hf : (fa p (lst t) zR false).2 with
        | false =>
          rw [rgF_none' fun y hy => by
            have h3 := fa_none hf y hy
            have h4 := (hk.lok.1 y hy).vd
            unfold Vd at h4; omega]
          exact .inl ⟨13, by decide, rfl⟩
        | true =>
          obtain ⟨a, x, b, e1, e2, e3, e4⟩ := fa_split hf
          have hx := hk.lok.1 x (by rw [e1]; simp)
          have hlow : ∀ y ∈ a, y.start + y.pages < p := fun y hy => by
            have h5 := e4 y hy
            have h6 := (hk.lok.1 y (by rw [e1]; simp [hy])).vd
            unfold Vd at h6
            have h7 : ¬ (y.start ≤ p - 1 ∧ p - 1 < y.start + y.pages) := fun h8 => by
              rw [(rfnL_iff hk.lok).2 ⟨y, by rw [e1]; simp [hy], h8⟩] at h2; cases h2
            omega
          have hxs : p < x.start := by
            have h7 : ¬ (x.start ≤ p ∧ p < x.start + x.pages) := fun h8 => by
              rw [(rfnL_iff hk.lok).2 ⟨x, by rw [e1]; simp, h8⟩] at h1; cases h1
            omega
          have hr := rgF_at (l := lst t) (p := p) x b (by omega) a 0 fun y hy => by
            have h5 := (hk.lok.1 y (by rw [e1]; simp [hy])).vd
            have h6 := hlow y hy
            unfold Vd at h5; omega
          rw [show rgF p (lst t) (lst t) 0 = rgF p (lst t) (a ++ x :: b) 0 by rw [← e1], hr, (gr_fl hx).2]
          cases hfl : flagR x 2 with
          | false => exact .inl ⟨13, by decide, rfl⟩
          | true =>
            simp only [Bool.not_true, cond_false, Nat.zero_add]
            rw [e1, set_mid, grR_is hx hp.1 (by omega)]
            refine .inr ⟨a, x, b, ⟨rfl, hp.1, hxs, hlow, hfl⟩, rfl, grow_mid (e1 ▸ hk.lok) hp.1 (by omega) hlow hfl, ?_⟩
            have := hk.few
            rw [e1] at this
            simp only [List.length_append, List.length_cons] at this ⊢
            unfold BIG; omega
  · have e : (decide (p < 0) || decide (p ≥ 512)) = true := by simp only [Bool.or_eq_true, decide_eq_true_eq]; omega
    rw [e]; exact .inl ⟨2, by decide, rfl⟩
end
/-- One call, by what it does to the list. -/
inductive Eff (l : List Rg) (o : Opr) : List Rg → Prop
  | map (hk : o.kind = 0) (hr : Rok o.r) (hno : ∀ x ∈ l, ¬ Ov x o.r) : Eff l o (ins o.r l)
  | unmap (hk : o.kind = 1) (hr : Rin o.page o.count) : Eff l o (l.flatMap fun r => cutS r o.page o.count)
  | prot (hk : o.kind = 2) (hr : Rin o.page o.count) (hp : o.n = 1 ∨ o.n = 3) (hc : ∀ q, o.page ≤ q → q < o.page + o.count → ∃ x ∈ l, x.start ≤ q ∧ q < x.start + x.pages) : Eff l o (l.flatMap (chgE (proO o.n) (proT o.n) o.page o.count))
  | lock (hk : o.kind = 3) (hr : Rin o.page o.count) (hc : ∀ q, o.page ≤ q → q < o.page + o.count → ∃ x ∈ l, x.start ≤ q ∧ q < x.start + x.pages) : Eff l o (l.flatMap (chgE (lockO (o.n == 1)) lockT o.page o.count))
  | grow (hk : o.kind = 4) {a b : List Rg} {x : Rg} (g : Gr l a x b o.page) : Eff l o (a ++ growR x o.page :: b)
theorem rtree_two {l : List Rg} (h : Mk l) : (rtreeF l = (zT, 9)) ∨ (∃ t, rtreeF l = (t, 0) ∧ Sok t ∧ lst t = rnrm l ∧ t.sz ≤ 12) := by
  rcases rtree_is h.len h.lok with ⟨a, b, c, d⟩ | ⟨a, _⟩
  · exact .inr ⟨(rtreeF l).1, by rw [← a], b, c, d⟩
  · exact .inl a
theorem do_cases {t : Tr} (hs : t.sz ≤ 1000000) (hk : Sok t) (o : Opr) : (∃ e, e ≠ 0 ∧ rdoF t o = (t, e)) ∨ (∃ t' l, rdoF t o = (t', 0) ∧ Sok t' ∧ t'.sz ≤ 12 ∧ Eff (lst t) o l ∧ LOK l ∧ lst t' = rnrm l) := by
  have fin : ∀ {x : Tr × Int} {l : List Rg}, rdoC t o = x → ((∃ e, e ≠ 0 ∧ x = (zT, e)) ∨ (x = rtreeF l ∧ Mk l ∧ Eff (lst t) o l)) → (∃ e, e ≠ 0 ∧ rdoF t o = (t, e)) ∨ (∃ t' l, rdoF t o = (t', 0) ∧ Sok t' ∧ t'.sz ≤ 12 ∧ Eff (lst t) o l ∧ LOK l ∧ lst t' = rnrm l) := by
    intro x l hx h
    unfold rdoF
    rw [hx]
    rcases h with ⟨e, he, rfl⟩ | ⟨rfl, hm, hef⟩
    · exact .inl ⟨e, he, by rw [bne0.2 he]; rfl⟩
    · rcases rtree_two hm with h | ⟨t', h, a, b, c⟩
      · rw [h]; exact .inl ⟨9, by decide, rfl⟩
      · rw [h]; exact .inr ⟨t', l, rfl, a, c, hef, hm.lok, b⟩
  by_cases h0 : o.kind = 0
  · have e : rdoC t o = rmapF t o.r := by unfold rdoC; rw [h0]; rfl
    rcases rmap_cases hs hk o.r with h | ⟨a, b, c, d⟩
    · exact fin (l := []) e (.inl h)
    · exact fin e (.inr ⟨c, d, .map h0 a b⟩)
  by_cases h1 : o.kind = 1
  · have e : rdoC t o = rumF t o.page o.count := by unfold rdoC; rw [h1]; rfl
    rcases rum_cases hs hk o.page o.count with h | ⟨a, c, d⟩
    · exact fin (l := []) e (.inl h)
    · exact fin e (.inr ⟨c, d, .unmap h1 a⟩)
  by_cases h2 : o.kind = 2
  · have e : rdoC t o = rproF t o.page o.count o.n := by unfold rdoC; rw [h2]; rfl
    rcases rpro_cases hs hk o.page o.count o.n with h | ⟨a, b, b2, c, d⟩
    · exact fin (l := []) e (.inl h)
    · exact fin e (.inr ⟨c, d, .prot h2 a b b2⟩)
  by_cases h3 : o.kind = 3
  · have e : rdoC t o = rlockF t o.page o.count (o.n == 1) := by unfold rdoC; rw [h3]; rfl
    rcases rlock_cases hs hk o.page o.count (o.n == 1) with h | ⟨a, b2, c, d⟩
    · exact fin (l := []) e (.inl h)
    · exact fin e (.inr ⟨c, d, .lock h3 a b2⟩)
  by_cases h4 : o.kind = 4
  · have e : rdoC t o = rgrowF t o.page := by unfold rdoC; rw [h4]; rfl
    rcases rgrow_cases hs hk o.page with h | ⟨a, x, b, g, c, d⟩
    · exact fin (l := []) e (.inl h)
    · exact fin e (.inr ⟨c, d, .grow h4 g⟩)
  · have e : rdoC t o = (t, 6) := by
      unfold rdoC
      rw [show (o.kind == 0) = false by simpa using h0, show (o.kind == 1) = false by simpa using h1, show (o.kind == 2) = false by simpa using h2, show (o.kind == 3) = false by simpa using h3, show (o.kind == 4) = false by simpa using h4]; rfl
    refine .inl ⟨6, by decide, ?_⟩
    unfold rdoF; rw [e]; rfl
theorem sok_zT : Sok zT := ⟨.leaf, ⟨by rw [lst_zT]; simp, by rw [lst_zT]; simp⟩, by rw [lst_zT]; rfl, by rw [lst_zT]; simp⟩
/-- What stays true of a space. -/
structure Inv (t : Tr) : Prop where
  sok : Sok t
  sz : t.sz ≤ 12
theorem inv_zT : Inv zT := ⟨sok_zT, by rw [sz_zT]; omega⟩
theorem Inv.big {t : Tr} (h : Inv t) : t.sz ≤ 1000000 := Nat.le_trans h.sz (by decide)
theorem Inv.do {t : Tr} (h : Inv t) (o : Opr) : Inv (rdoF t o).1 := by
  rcases do_cases h.big h.sok o with ⟨e, _, h1⟩ | ⟨t', l, h1, h2, h3, _⟩
  · rw [h1]; exact h
  · rw [h1]; exact ⟨h2, h3⟩
end Go.Proofs.Ytalcipbagidbpaa
end

section
set_option linter.unusedVariables false
set_option maxHeartbeats 4000000
set_option maxRecDepth 100000
namespace Go.Proofs.Ytalcipbagidbpaa
open Go.Proofs
def OLv (l : List Opr) : GV := .im l.length (OL l)
/-- What is known of every space of a run. -/
structure Kn (t : Tr) : Prop where
  few : PS Try.prog 15 [t.v] (.bool true)
  list : PS Try.prog 41 [t.v] (Lv (lst t))
  c1 : PS Try.prog 28 [t.v] (.int .i64 0)
  c2 : PS Try.prog 42 [t.v] (.int .i64 0)
  n : PS Try.prog 30 [t.v] (.int .i64 (lst t).length)
theorem nd_good {t : Tr} (hg : Good t) : ∀ lim : Int, (2 * t.sz + 1 : Int) ≤ lim → lim ≤ 200 → ndF t lim = 2 * t.sz + 1 := by
  induction hg with
  | leaf => intro lim h0 h1; rw [ndF_eq, sz_zT]; rfl
  | @node a b x ha hb h1 h2 iha ihb =>
    intro lim h3 h4
    rw [sz_nodeF] at h3 ⊢
    have ea := iha (lim - 1) (by omega) (by omega)
    have eb := ihb (lim - (1 + (2 * a.sz + 1))) (by omega) (by omega)
    rw [ndF_eq, kids_nodeF, ndL, dT (by omega), cond_true, w_small (n := lim - 1) (by omega) (by omega), ea, w_small (n := 1 + (2 * (a.sz : Int) + 1)) (by omega) (by omega), ndL, dT (by omega), cond_true, w_small (n := lim - _) (by omega) (by omega), eb, w_small (by omega) (by omega), ndL]
    omega
theorem fewF_inv {t : Tr} (h : Inv t) : fewF t = true := by
  have := h.sz
  unfold fewF
  rw [nd_good h.sok.good 200 (by omega) (by omega), decide_eq_true_eq]
  omega
theorem atR_get {l : List Rg} {i : Nat} (h : i < l.length) : atR l i = l[i] := by rw [atR, List.getD_eq_getElem?_getD, List.getElem?_eq_getElem h]; rfl
theorem atR_mem {l : List Rg} {i : Nat} (h : i < l.length) : atR l i ∈ l := by rw [atR_get h]; exact List.getElem_mem h
theorem nb {x : List Rg} (hx : LOK x) (hm : NM x) {k : Nat} (h : k + 1 < x.length) :
    IntKind.i64.wrap ((atR x k).start + (atR x k).pages) = (atR x k).start + (atR x k).pages ∧ (atR x k).start + (atR x k).pages ≤ (atR x (k + 1)).start ∧
    ((atR x k).start + (atR x k).pages = (atR x (k + 1)).start → (atR x k).prot = (atR x (k + 1)).prot → (atR x k).flags = (atR x (k + 1)).flags → (atR x k).file = (atR x (k + 1)).file → (IntKind.i64.wrap ((atR x k).flags.tdiv 2)).tmod 2 = 0 → ¬ (atR x k).file < 0 ∧ IntKind.i64.wrap ((atR x k).index + (atR x k).pages) ≠ (atR x (k + 1)).index) := by
  have ha : Rok (atR x k) := hx.1 _ (atR_mem (by omega))
  have hb : Rok (atR x (k + 1)) := hx.1 _ (atR_mem h)
  have hbef : Bef (atR x k) (atR x (k + 1)) := by
    have := hx.2
    rw [List.pairwise_iff_getElem] at this
    have := this k (k + 1) (by omega) h (by omega)
    rw [atR_get (by omega), atR_get h]; exact this
  have hr : rmrg (atR x k) (atR x (k + 1)) = false := by
    have h1 : rc2 (x.drop k) = false := by
      clear ha hb hbef
      induction k with
      | zero => exact hm
      | succ k ih =>
        have h2 := ih (by omega)
        rw [rc2_step (by omega)] at h2
        cases h3 : rmrg (atR x k) (atR x (k + 1)) with
        | true => rw [h3] at h2; cases h2
        | false => rw [h3] at h2; exact h2
    rw [rc2_step h] at h1
    cases h3 : rmrg (atR x k) (atR x (k + 1)) with
    | true => rw [h3] at h1; cases h1
    | false => rfl
  have hv := ha.vd
  have hi := ha.idx
  unfold Vd at hv
  have w1 : IntKind.i64.wrap ((atR x k).start + (atR x k).pages) = (atR x k).start + (atR x k).pages := wrap_id (by omega) (by omega)
  have w2 : IntKind.i64.wrap ((atR x k).index + (atR x k).pages) = (atR x k).index + (atR x k).pages := wrap_id (by omega) (by omega)
  refine ⟨w1, hbef, fun h1 h2 h3 h4 h5 => ?_⟩
  have hg : flagR (atR x k) 2 = false := by
    unfold flagR
    rw [show w64 ((atR x k).flags.tdiv 2) = IntKind.i64.wrap ((atR x k).flags.tdiv 2) from rfl, h5]; rfl
  rw [w2]
  have hno : ¬ ((atR x k).file = -1 ∨ (atR x (k + 1)).index = (atR x k).index + (atR x k).pages) := fun h6 => by
    rw [rmrg_iff.2 ⟨ha, hb, h1, hg, h2, h3, h4, h6⟩] at hr; cases hr
  have := ha.fi0
  constructor
  · omega
  · omega
theorem Inv.kn {t : Tr} (h : Inv t) : Kn t := by
  have hn : (nodesF t).length ≤ 1073741824 := Nat.le_trans (nodes_n h.big) (by decide)
  have hc : rcF t = 0 := (rcF_iff (sz_big h.big)).2 h.sok
  have hl := rls_sok (sz_big h.big) h.sok
  have h2 : rcheckF t = 0 := (checkF_eq (sz_big h.big)).symm.trans ((checkF_iff (sz_big h.big)).2 ⟨h.sok.good, h.sok.lok.ord⟩)
  refine ⟨?_, ?_, ?_, ?_, ?_⟩
  · rw [← fewF_inv h]; exact lfew_ps t h.sok.good.kids
  · have e : rlistF t = lst t := by
      unfold rlsF at hl
      rw [hc] at hl
      exact hl
    rw [← e]; exact rlist_ps t hn
  · rw [← hc]; exact check1 h.big
  · rw [← h2]; exact rcheck_ps t hn
  · rw [← hl]; exact count1 h.big
def cn2_S (l : List Opr) (i : Nat) (t : Tr) (x : List Rg) (k : Nat) : St := ⟨tmL 131 [(0, OLv l), (2, .bool false), (3, .ptr 0 0), (4, .int .i64 i), (5, Lv x), (6, .int .i64 k)], [.blk t.cells 26]⟩
def cn2_O (l : List Opr) (i : Nat) (t : Tr) (x : List Rg) (k : Nat) : List (Prop × Exit × St) := [(True, .exit 2, ⟨tmL 131 [(0, OLv l), (2, .bool false), (3, .ptr 0 0), (4, .int .i64 i)], [.blk t.cells 26]⟩)]
theorem cn2_rd (l : List Opr) (i : Nat) (t : Tr) (x : List Rg) (k : Nat) (X : Prop) : vc Try.prog TA none [] [(63, tl (atR x k).v), (68, tl (atR x (k + 1)).v)] (loopOf 14 Try.f9) (cn2_S l i t x k) (LoopK (cn2_S l i t x (k + 1)) X (cn2_O l i t x k)) = ((decide (IntKind.i64.wrap ((↑k : Int) + (1 : Int)) < (↑x.length : Int)) = true → ((0 : Int) ≤ (↑k : Int) ∧ (↑k : Int) < (↑x.length : Int)) ∧ (RL x).length = x.length * (6 : Nat) ∧ (6 : Nat) = (6 : Nat) ∧ List.take (6 : Nat) (List.drop (0 : Nat) (List.drop ((↑k : Int).toNat * (6 : Nat)) (RL x))) = [GV.int IntKind.i64 (atR x k).start, GV.int IntKind.i64 (atR x k).pages, GV.int IntKind.i64 (atR x k).prot, GV.int IntKind.i64 (atR x k).flags, GV.int IntKind.i64 (atR x k).file, GV.int IntKind.i64 (atR x k).index] ∧ ((0 : Int) ≤ IntKind.i64.wrap ((↑k : Int) + (1 : Int)) ∧ IntKind.i64.wrap ((↑k : Int) + (1 : Int)) < (↑x.length : Int)) ∧ (RL x).length = x.length * (6 : Nat) ∧ (6 : Nat) = (6 : Nat) ∧ List.take (6 : Nat) (List.drop (0 : Nat) (List.drop ((IntKind.i64.wrap ((↑k : Int) + (1 : Int))).toNat * (6 : Nat)) (RL x))) = [GV.int IntKind.i64 (atR x (k + (1 : Nat))).start, GV.int IntKind.i64 (atR x (k + (1 : Nat))).pages, GV.int IntKind.i64 (atR x (k + (1 : Nat))).prot, GV.int IntKind.i64 (atR x (k + (1 : Nat))).flags, GV.int IntKind.i64 (atR x (k + (1 : Nat))).file, GV.int IntKind.i64 (atR x (k + (1 : Nat))).index] ∧ (6 : Nat) = (6 : Nat) ∧ true = true ∧ (6 : Nat) ≤ (6 : Nat) ∧ (6 : Nat) = (6 : Nat) ∧ true = true ∧ (6 : Nat) ≤ (6 : Nat) ∧ (decide (IntKind.i64.wrap ((atR x k).start + (atR x k).pages) > (atR x (k + (1 : Nat))).start) = true → False) ∧ (decide (IntKind.i64.wrap ((atR x k).start + (atR x k).pages) > (atR x (k + (1 : Nat))).start) = false → ((IntKind.i64.wrap ((atR x k).start + (atR x k).pages) == (atR x (k + (1 : Nat))).start) = true → (((atR x k).prot == (atR x (k + (1 : Nat))).prot) = true → (((atR x k).flags == (atR x (k + (1 : Nat))).flags) = true → (((atR x k).file == (atR x (k + (1 : Nat))).file) = true → (2 : Int) ≠ (0 : Int) ∧ (2 : Int) ≠ (0 : Int) ∧ (((IntKind.i64.wrap ((atR x k).flags.tdiv (2 : Int))).tmod (2 : Int) == (0 : Int)) = true → (decide ((atR x k).file < (0 : Int)) = true → False) ∧ (decide ((atR x k).file < (0 : Int)) = false → ((IntKind.i64.wrap ((atR x k).index + (atR x k).pages) == (atR x (k + (1 : Nat))).index) = true → False) ∧ ((IntKind.i64.wrap ((atR x k).index + (atR x k).pages) == (atR x (k + (1 : Nat))).index) = false → l.length = l.length ∧ OL l = OL l ∧ PurL (OL l) ∧ false = false ∧ (0 : Nat) = (0 : Nat) ∧ (↑i : Int) = (↑i : Int) ∧ x.length = x.length ∧ RL x = RL x ∧ PurL (RL x) ∧ IntKind.i64.wrap ((↑k : Int) + (1 : Int)) = (↑(k + (1 : Nat)) : Int) ∧ t.h = t.h ∧ t.f = t.f ∧ t.l = t.l ∧ t.g = t.g ∧ t.r.start = t.r.start ∧ t.r.pages = t.r.pages ∧ t.r.prot = t.r.prot ∧ t.r.flags = t.r.flags ∧ t.r.file = t.r.file ∧ t.r.index = t.r.index ∧ t.kids.length = t.kids.length ∧ t.K = t.K ∧ PurL t.K ∧ X))) ∧ (((IntKind.i64.wrap ((atR x k).flags.tdiv (2 : Int))).tmod (2 : Int) == (0 : Int)) = false → l.length = l.length ∧ OL l = OL l ∧ PurL (OL l) ∧ false = false ∧ (0 : Nat) = (0 : Nat) ∧ (↑i : Int) = (↑i : Int) ∧ x.length = x.length ∧ RL x = RL x ∧ PurL (RL x) ∧ IntKind.i64.wrap ((↑k : Int) + (1 : Int)) = (↑(k + (1 : Nat)) : Int) ∧ t.h = t.h ∧ t.f = t.f ∧ t.l = t.l ∧ t.g = t.g ∧ t.r.start = t.r.start ∧ t.r.pages = t.r.pages ∧ t.r.prot = t.r.prot ∧ t.r.flags = t.r.flags ∧ t.r.file = t.r.file ∧ t.r.index = t.r.index ∧ t.kids.length = t.kids.length ∧ t.K = t.K ∧ PurL t.K ∧ X)) ∧ (((atR x k).file == (atR x (k + (1 : Nat))).file) = false → l.length = l.length ∧ OL l = OL l ∧ PurL (OL l) ∧ false = false ∧ (0 : Nat) = (0 : Nat) ∧ (↑i : Int) = (↑i : Int) ∧ x.length = x.length ∧ RL x = RL x ∧ PurL (RL x) ∧ IntKind.i64.wrap ((↑k : Int) + (1 : Int)) = (↑(k + (1 : Nat)) : Int) ∧ t.h = t.h ∧ t.f = t.f ∧ t.l = t.l ∧ t.g = t.g ∧ t.r.start = t.r.start ∧ t.r.pages = t.r.pages ∧ t.r.prot = t.r.prot ∧ t.r.flags = t.r.flags ∧ t.r.file = t.r.file ∧ t.r.index = t.r.index ∧ t.kids.length = t.kids.length ∧ t.K = t.K ∧ PurL t.K ∧ X)) ∧ (((atR x k).flags == (atR x (k + (1 : Nat))).flags) = false → l.length = l.length ∧ OL l = OL l ∧ PurL (OL l) ∧ false = false ∧ (0 : Nat) = (0 : Nat) ∧ (↑i : Int) = (↑i : Int) ∧ x.length = x.length ∧ RL x = RL x ∧ PurL (RL x) ∧ IntKind.i64.wrap ((↑k : Int) + (1 : Int)) = (↑(k + (1 : Nat)) : Int) ∧ t.h = t.h ∧ t.f = t.f ∧ t.l = t.l ∧ t.g = t.g ∧ t.r.start = t.r.start ∧ t.r.pages = t.r.pages ∧ t.r.prot = t.r.prot ∧ t.r.flags = t.r.flags ∧ t.r.file = t.r.file ∧ t.r.index = t.r.index ∧ t.kids.length = t.kids.length ∧ t.K = t.K ∧ PurL t.K ∧ X)) ∧ (((atR x k).prot == (atR x (k + (1 : Nat))).prot) = false → l.length = l.length ∧ OL l = OL l ∧ PurL (OL l) ∧ false = false ∧ (0 : Nat) = (0 : Nat) ∧ (↑i : Int) = (↑i : Int) ∧ x.length = x.length ∧ RL x = RL x ∧ PurL (RL x) ∧ IntKind.i64.wrap ((↑k : Int) + (1 : Int)) = (↑(k + (1 : Nat)) : Int) ∧ t.h = t.h ∧ t.f = t.f ∧ t.l = t.l ∧ t.g = t.g ∧ t.r.start = t.r.start ∧ t.r.pages = t.r.pages ∧ t.r.prot = t.r.prot ∧ t.r.flags = t.r.flags ∧ t.r.file = t.r.file ∧ t.r.index = t.r.index ∧ t.kids.length = t.kids.length ∧ t.K = t.K ∧ PurL t.K ∧ X)) ∧ ((IntKind.i64.wrap ((atR x k).start + (atR x k).pages) == (atR x (k + (1 : Nat))).start) = false → l.length = l.length ∧ OL l = OL l ∧ PurL (OL l) ∧ false = false ∧ (0 : Nat) = (0 : Nat) ∧ (↑i : Int) = (↑i : Int) ∧ x.length = x.length ∧ RL x = RL x ∧ PurL (RL x) ∧ IntKind.i64.wrap ((↑k : Int) + (1 : Int)) = (↑(k + (1 : Nat)) : Int) ∧ t.h = t.h ∧ t.f = t.f ∧ t.l = t.l ∧ t.g = t.g ∧ t.r.start = t.r.start ∧ t.r.pages = t.r.pages ∧ t.r.prot = t.r.prot ∧ t.r.flags = t.r.flags ∧ t.r.file = t.r.file ∧ t.r.index = t.r.index ∧ t.kids.length = t.kids.length ∧ t.K = t.K ∧ PurL t.K ∧ X))) ∧ (decide (IntKind.i64.wrap ((↑k : Int) + (1 : Int)) < (↑x.length : Int)) = false → l.length = l.length ∧ OL l = OL l ∧ PurL (OL l) ∧ false = false ∧ (0 : Nat) = (0 : Nat) ∧ (↑i : Int) = (↑i : Int) ∧ t.h = t.h ∧ t.f = t.f ∧ t.l = t.l ∧ t.g = t.g ∧ t.r.start = t.r.start ∧ t.r.pages = t.r.pages ∧ t.r.prot = t.r.prot ∧ t.r.flags = t.r.flags ∧ t.r.file = t.r.file ∧ t.r.index = t.r.index ∧ t.kids.length = t.kids.length ∧ t.K = t.K ∧ PurL t.K ∧ True)) := by kernel_rfl
theorem cn2_loop (l : List Opr) (i : Nat) (t : Tr) (x : List Rg) (hx : LOK x) (hm : NM x) (hl : x.length ≤ 12) (k : Nat) (hpsi : k ≤ x.length) : GW Try.prog none [] (.loop (loopOf 14 Try.f9)) (cn2_S l i t x k) (OneOf (cn2_O l i t x k)) := by
  refine GW.loopF mixedA tabA (β := Nat) (fun z_ => (fun k => cn2_S l i t x k) z_) (fun z_ => (fun k => k ≤ x.length) z_) (fun z_ => (fun k => x.length - k) z_) (fun z_ => (fun k => k + 1) z_) (fun z_ => (fun k => cn2_O l i t x k) z_) (fun z_ => (fun k => [(63, tl (atR x k).v), (68, tl (atR x (k + 1)).v)]) z_) ?_ k hpsi
  clear hpsi
  rintro k hpsi
  replace hpsi : k ≤ x.length := hpsi
  refine Eq.mpr (cn2_rd l i t x k _) ?_
  have hk1 : IntKind.i64.wrap ((k : Int) + 1) = ((k + 1 : Nat) : Int) := wrap_succ (by omega)
  rw [hk1]
  have hnb := fun h => nb hx hm (k := k) h
  repeat' (first | exact OL_pur _ | exact Tr.purK _ | exact KL_pur _ | exact RL_pur _ | exact purS (Eq.refl true) | refine And.intro ?_ ?_ | (intro h_; first | (cases h_; done) | rw [h_] | (simp only [Bool.not_eq_true', Bool.not_eq_false'] at h_; rw [h_]) | skip))
  all_goals (try simp only [decide_eq_true_eq, decide_eq_false_iff_not, Bool.not_eq_true', Bool.not_eq_false'] at *)
  all_goals (first | exact trivial | with_reducible rfl | exact RL_pur _ | exact Nat.le_of_ble_eq_true (Eq.refl true) | exact RL_length _ | exact KL_length _ | assumption | (simp only [Int.toNat_natCast, List.drop_zero]; exact RL_at (by omega)) | (simp only [Int.toNat_natCast, List.drop_zero]; exact KL_at (by omega)) | exact wrap_succ (by omega) | omega | (simp only [bsm]; done) | (exfalso; omega) | (obtain ⟨n1, n2, n3⟩ := hnb (by omega); exfalso; simp only [beq_iff_eq] at *; omega) | (simp only [bsm]; exact rfl) | skip)
end Go.Proofs.Ytalcipbagidbpaa
end

section
set_option linter.unusedVariables false
set_option maxHeartbeats 4000000
set_option maxRecDepth 100000
namespace Go.Proofs.Ytalcipbagidbpaa
open Go.Proofs
def cn1_S (l : List Opr) (i : Nat) (t : Tr) : St := ⟨tmL 131 [(0, OLv l), (2, .bool false), (3, .ptr 0 0), (4, .int .i64 i)], [.blk t.cells 26]⟩
def cn1_O (l : List Opr) (i : Nat) (t : Tr) : List (Prop × Exit × St) := [(True, .exit 0, ⟨tmL 131 [(2, .bool false)], []⟩)]
theorem cn1_rd (l : List Opr) (i : Nat) (t : Tr) (X : Prop) : vc Try.prog TA none [] [(24, tl (atO l i).v), (25, tl (.tup [(rdoF t (atO l i)).1.v, .int .i64 (rdoF t (atO l i)).2])), (29, tl (.bool true)), (32, tl (Lv (lst (rdoF t (atO l i)).1))), (34, tl (.int .i64 0)), (38, tl (.int .i64 0)), (48, tl (.int .i64 (lst (rdoF t (atO l i)).1).length)), (100014, .loop (cn2_S l i (rdoF t (atO l i)).1 (lst (rdoF t (atO l i)).1) 0) (cn2_O l i (rdoF t (atO l i)).1 (lst (rdoF t (atO l i)).1) 0))] (loopOf 5 Try.f9) (cn1_S l i t) (LoopK (cn1_S l (i + 1) ((rdoF t (atO l i)).1)) X (cn1_O l i t)) = ((decide ((↑i : Int) < (↑l.length : Int)) = true → ((0 : Int) ≤ (↑i : Int) ∧ (↑i : Int) < (↑l.length : Int)) ∧ (OL l).length = l.length * (10 : Nat) ∧ (10 : Nat) = (10 : Nat) ∧ List.take (10 : Nat) (List.drop (0 : Nat) (List.drop ((↑i : Int).toNat * (10 : Nat)) (OL l))) = [GV.int IntKind.i64 (atO l i).kind, GV.int IntKind.i64 (atO l i).r.start, GV.int IntKind.i64 (atO l i).r.pages, GV.int IntKind.i64 (atO l i).r.prot, GV.int IntKind.i64 (atO l i).r.flags, GV.int IntKind.i64 (atO l i).r.file, GV.int IntKind.i64 (atO l i).r.index, GV.int IntKind.i64 (atO l i).page, GV.int IntKind.i64 (atO l i).count, GV.int IntKind.i64 (atO l i).n] ∧ CallSem Try.prog (40 : Nat) [GV.agg [GV.int IntKind.i64 t.h, GV.int IntKind.i64 t.f, GV.int IntKind.i64 t.l, GV.int IntKind.i64 t.g, GV.int IntKind.i64 t.r.start, GV.int IntKind.i64 t.r.pages, GV.int IntKind.i64 t.r.prot, GV.int IntKind.i64 t.r.flags, GV.int IntKind.i64 t.r.file, GV.int IntKind.i64 t.r.index, GV.im t.kids.length t.K], GV.agg [GV.int IntKind.i64 (atO l i).kind, GV.int IntKind.i64 (atO l i).r.start, GV.int IntKind.i64 (atO l i).r.pages, GV.int IntKind.i64 (atO l i).r.prot, GV.int IntKind.i64 (atO l i).r.flags, GV.int IntKind.i64 (atO l i).r.file, GV.int IntKind.i64 (atO l i).r.index, GV.int IntKind.i64 (atO l i).page, GV.int IntKind.i64 (atO l i).count, GV.int IntKind.i64 (atO l i).n]] [] (1 : Nat) (GV.tup [GV.agg [GV.int IntKind.i64 (rdoF t (atO l i)).fst.h, GV.int IntKind.i64 (rdoF t (atO l i)).fst.f, GV.int IntKind.i64 (rdoF t (atO l i)).fst.l, GV.int IntKind.i64 (rdoF t (atO l i)).fst.g, GV.int IntKind.i64 (rdoF t (atO l i)).fst.r.start, GV.int IntKind.i64 (rdoF t (atO l i)).fst.r.pages, GV.int IntKind.i64 (rdoF t (atO l i)).fst.r.prot, GV.int IntKind.i64 (rdoF t (atO l i)).fst.r.flags, GV.int IntKind.i64 (rdoF t (atO l i)).fst.r.file, GV.int IntKind.i64 (rdoF t (atO l i)).fst.r.index, GV.im (rdoF t (atO l i)).fst.kids.length (rdoF t (atO l i)).fst.K], GV.int IntKind.i64 (rdoF t (atO l i)).snd]) [] [] ∧ (11 : Nat) = (11 : Nat) ∧ true = true ∧ (11 : Nat) ≤ (11 : Nat) ∧ CallSem Try.prog (15 : Nat) [GV.agg [GV.int IntKind.i64 (rdoF t (atO l i)).fst.h, GV.int IntKind.i64 (rdoF t (atO l i)).fst.f, GV.int IntKind.i64 (rdoF t (atO l i)).fst.l, GV.int IntKind.i64 (rdoF t (atO l i)).fst.g, GV.int IntKind.i64 (rdoF t (atO l i)).fst.r.start, GV.int IntKind.i64 (rdoF t (atO l i)).fst.r.pages, GV.int IntKind.i64 (rdoF t (atO l i)).fst.r.prot, GV.int IntKind.i64 (rdoF t (atO l i)).fst.r.flags, GV.int IntKind.i64 (rdoF t (atO l i)).fst.r.file, GV.int IntKind.i64 (rdoF t (atO l i)).fst.r.index, GV.im (rdoF t (atO l i)).fst.kids.length (rdoF t (atO l i)).fst.K]] [] (1 : Nat) (GV.bool true) [] [] ∧ (false = true → False) ∧ (false = false → CallSem Try.prog (41 : Nat) [GV.agg [GV.int IntKind.i64 (rdoF t (atO l i)).fst.h, GV.int IntKind.i64 (rdoF t (atO l i)).fst.f, GV.int IntKind.i64 (rdoF t (atO l i)).fst.l, GV.int IntKind.i64 (rdoF t (atO l i)).fst.g, GV.int IntKind.i64 (rdoF t (atO l i)).fst.r.start, GV.int IntKind.i64 (rdoF t (atO l i)).fst.r.pages, GV.int IntKind.i64 (rdoF t (atO l i)).fst.r.prot, GV.int IntKind.i64 (rdoF t (atO l i)).fst.r.flags, GV.int IntKind.i64 (rdoF t (atO l i)).fst.r.file, GV.int IntKind.i64 (rdoF t (atO l i)).fst.r.index, GV.im (rdoF t (atO l i)).fst.kids.length (rdoF t (atO l i)).fst.K]] [] (1 : Nat) (GV.im (lst (rdoF t (atO l i)).fst).length (RL (lst (rdoF t (atO l i)).fst))) [] [] ∧ CallSem Try.prog (28 : Nat) [GV.agg [GV.int IntKind.i64 (rdoF t (atO l i)).fst.h, GV.int IntKind.i64 (rdoF t (atO l i)).fst.f, GV.int IntKind.i64 (rdoF t (atO l i)).fst.l, GV.int IntKind.i64 (rdoF t (atO l i)).fst.g, GV.int IntKind.i64 (rdoF t (atO l i)).fst.r.start, GV.int IntKind.i64 (rdoF t (atO l i)).fst.r.pages, GV.int IntKind.i64 (rdoF t (atO l i)).fst.r.prot, GV.int IntKind.i64 (rdoF t (atO l i)).fst.r.flags, GV.int IntKind.i64 (rdoF t (atO l i)).fst.r.file, GV.int IntKind.i64 (rdoF t (atO l i)).fst.r.index, GV.im (rdoF t (atO l i)).fst.kids.length (rdoF t (atO l i)).fst.K]] [] (1 : Nat) (GV.int IntKind.i64 (0 : Int)) [] [] ∧ (false = true → False) ∧ (false = false → CallSem Try.prog (42 : Nat) [GV.agg [GV.int IntKind.i64 (rdoF t (atO l i)).fst.h, GV.int IntKind.i64 (rdoF t (atO l i)).fst.f, GV.int IntKind.i64 (rdoF t (atO l i)).fst.l, GV.int IntKind.i64 (rdoF t (atO l i)).fst.g, GV.int IntKind.i64 (rdoF t (atO l i)).fst.r.start, GV.int IntKind.i64 (rdoF t (atO l i)).fst.r.pages, GV.int IntKind.i64 (rdoF t (atO l i)).fst.r.prot, GV.int IntKind.i64 (rdoF t (atO l i)).fst.r.flags, GV.int IntKind.i64 (rdoF t (atO l i)).fst.r.file, GV.int IntKind.i64 (rdoF t (atO l i)).fst.r.index, GV.im (rdoF t (atO l i)).fst.kids.length (rdoF t (atO l i)).fst.K]] [] (1 : Nat) (GV.int IntKind.i64 (0 : Int)) [] [] ∧ (false = true → False) ∧ (false = false → (decide ((↑(lst (rdoF t (atO l i)).fst).length : Int) > (12 : Int)) = true → False) ∧ (decide ((↑(lst (rdoF t (atO l i)).fst).length : Int) > (12 : Int)) = false → CallSem Try.prog (30 : Nat) [GV.agg [GV.int IntKind.i64 (rdoF t (atO l i)).fst.h, GV.int IntKind.i64 (rdoF t (atO l i)).fst.f, GV.int IntKind.i64 (rdoF t (atO l i)).fst.l, GV.int IntKind.i64 (rdoF t (atO l i)).fst.g, GV.int IntKind.i64 (rdoF t (atO l i)).fst.r.start, GV.int IntKind.i64 (rdoF t (atO l i)).fst.r.pages, GV.int IntKind.i64 (rdoF t (atO l i)).fst.r.prot, GV.int IntKind.i64 (rdoF t (atO l i)).fst.r.flags, GV.int IntKind.i64 (rdoF t (atO l i)).fst.r.file, GV.int IntKind.i64 (rdoF t (atO l i)).fst.r.index, GV.im (rdoF t (atO l i)).fst.kids.length (rdoF t (atO l i)).fst.K]] [] (1 : Nat) (GV.int IntKind.i64 (↑(lst (rdoF t (atO l i)).fst).length : Int)) [] [] ∧ (((↑(lst (rdoF t (atO l i)).fst).length : Int) != (↑(lst (rdoF t (atO l i)).fst).length : Int)) = true → False) ∧ (((↑(lst (rdoF t (atO l i)).fst).length : Int) != (↑(lst (rdoF t (atO l i)).fst).length : Int)) = false → l.length = l.length ∧ OL l = OL l ∧ PurL (OL l) ∧ false = false ∧ (0 : Nat) = (0 : Nat) ∧ (↑i : Int) = (↑i : Int) ∧ (lst (rdoF t (atO l i)).fst).length = (lst (rdoF t (atO l i)).fst).length ∧ RL (lst (rdoF t (atO l i)).fst) = RL (lst (rdoF t (atO l i)).fst) ∧ PurL (RL (lst (rdoF t (atO l i)).fst)) ∧ (0 : Int) = (0 : Int) ∧ (rdoF t (atO l i)).fst.h = (rdoF t (atO l i)).fst.h ∧ (rdoF t (atO l i)).fst.f = (rdoF t (atO l i)).fst.f ∧ (rdoF t (atO l i)).fst.l = (rdoF t (atO l i)).fst.l ∧ (rdoF t (atO l i)).fst.g = (rdoF t (atO l i)).fst.g ∧ (rdoF t (atO l i)).fst.r.start = (rdoF t (atO l i)).fst.r.start ∧ (rdoF t (atO l i)).fst.r.pages = (rdoF t (atO l i)).fst.r.pages ∧ (rdoF t (atO l i)).fst.r.prot = (rdoF t (atO l i)).fst.r.prot ∧ (rdoF t (atO l i)).fst.r.flags = (rdoF t (atO l i)).fst.r.flags ∧ (rdoF t (atO l i)).fst.r.file = (rdoF t (atO l i)).fst.r.file ∧ (rdoF t (atO l i)).fst.r.index = (rdoF t (atO l i)).fst.r.index ∧ (rdoF t (atO l i)).fst.kids.length = (rdoF t (atO l i)).fst.kids.length ∧ (rdoF t (atO l i)).fst.K = (rdoF t (atO l i)).fst.K ∧ PurL (rdoF t (atO l i)).fst.K ∧ GW Try.prog none [] (loopOf (14 : Nat) Try.f9).loop { t := [GV.im l.length (OL l), GV.any, GV.bool false, GV.ptr (0 : Nat) (0 : Nat), GV.int IntKind.i64 (↑i : Int), GV.im (lst (rdoF t (atO l i)).fst).length (RL (lst (rdoF t (atO l i)).fst)), GV.int IntKind.i64 (↑(0 : Nat) : Int), GV.any, GV.any, GV.any, GV.any, GV.any, GV.any, GV.any, GV.any, GV.any, GV.any, GV.any, GV.any, GV.any, GV.any, GV.any, GV.any, GV.any, GV.any, GV.any, GV.any, GV.any, GV.any, GV.any, GV.any, GV.any, GV.any, GV.any, GV.any, GV.any, GV.any, GV.any, GV.any, GV.any, GV.any, GV.any, GV.any, GV.any, GV.any, GV.any, GV.any, GV.any, GV.any, GV.any, GV.any, GV.any, GV.any, GV.any, GV.any, GV.any, GV.any, GV.any, GV.any, GV.any, GV.any, GV.any, GV.any, GV.any, GV.any, GV.any, GV.any, GV.any, GV.any, GV.any, GV.any, GV.any, GV.any, GV.any, GV.any, GV.any, GV.any, GV.any, GV.any, GV.any, GV.any, GV.any, GV.any, GV.any, GV.any, GV.any, GV.any, GV.any, GV.any, GV.any, GV.any, GV.any, GV.any, GV.any, GV.any, GV.any, GV.any, GV.any, GV.any, GV.any, GV.any, GV.any, GV.any, GV.any, GV.any, GV.any, GV.any, GV.any, GV.any, GV.any, GV.any, GV.any, GV.any, GV.any, GV.any, GV.any, GV.any, GV.any, GV.any, GV.any, GV.any, GV.any, GV.any, GV.any, GV.any, GV.any, GV.any, GV.any, GV.any, GV.any, GV.any], h := [Ent.blk [GV.int IntKind.i64 (rdoF t (atO l i)).fst.h, GV.int IntKind.i64 (rdoF t (atO l i)).fst.f, GV.int IntKind.i64 (rdoF t (atO l i)).fst.l, GV.int IntKind.i64 (rdoF t (atO l i)).fst.g, GV.int IntKind.i64 (rdoF t (atO l i)).fst.r.start, GV.int IntKind.i64 (rdoF t (atO l i)).fst.r.pages, GV.int IntKind.i64 (rdoF t (atO l i)).fst.r.prot, GV.int IntKind.i64 (rdoF t (atO l i)).fst.r.flags, GV.int IntKind.i64 (rdoF t (atO l i)).fst.r.file, GV.int IntKind.i64 (rdoF t (atO l i)).fst.r.index, GV.im (rdoF t (atO l i)).fst.kids.length (rdoF t (atO l i)).fst.K] (26 : Nat)] } (OneOf (cn2_O l i (rdoF t (atO l i)).fst (lst (rdoF t (atO l i)).fst) (0 : Nat))) ∧ (True → l.length = l.length ∧ OL l = OL l ∧ PurL (OL l) ∧ false = false ∧ (0 : Nat) = (0 : Nat) ∧ IntKind.i64.wrap ((↑i : Int) + (1 : Int)) = (↑(i + (1 : Nat)) : Int) ∧ (rdoF t (atO l i)).fst.h = (rdoF t (atO l i)).fst.h ∧ (rdoF t (atO l i)).fst.f = (rdoF t (atO l i)).fst.f ∧ (rdoF t (atO l i)).fst.l = (rdoF t (atO l i)).fst.l ∧ (rdoF t (atO l i)).fst.g = (rdoF t (atO l i)).fst.g ∧ (rdoF t (atO l i)).fst.r.start = (rdoF t (atO l i)).fst.r.start ∧ (rdoF t (atO l i)).fst.r.pages = (rdoF t (atO l i)).fst.r.pages ∧ (rdoF t (atO l i)).fst.r.prot = (rdoF t (atO l i)).fst.r.prot ∧ (rdoF t (atO l i)).fst.r.flags = (rdoF t (atO l i)).fst.r.flags ∧ (rdoF t (atO l i)).fst.r.file = (rdoF t (atO l i)).fst.r.file ∧ (rdoF t (atO l i)).fst.r.index = (rdoF t (atO l i)).fst.r.index ∧ (rdoF t (atO l i)).fst.kids.length = (rdoF t (atO l i)).fst.kids.length ∧ (rdoF t (atO l i)).fst.K = (rdoF t (atO l i)).fst.K ∧ PurL (rdoF t (atO l i)).fst.K ∧ X) ∧ True)))))) ∧ (decide ((↑i : Int) < (↑l.length : Int)) = false → false = false ∧ True)) := by kernel_rfl
theorem cn1_loop (l : List Opr) (hl : l.length ≤ 30) (i : Nat) (t : Tr) (hpsi : i ≤ l.length ∧ Inv t) : GW Try.prog none [] (.loop (loopOf 5 Try.f9)) (cn1_S l i t) (OneOf (cn1_O l i t)) := by
  refine GW.loopF mixedA tabA (β := Nat × Tr) (fun z_ => (fun i t => cn1_S l i t) z_.1 z_.2) (fun z_ => (fun i t => i ≤ l.length ∧ Inv t) z_.1 z_.2) (fun z_ => (fun i t => l.length - i) z_.1 z_.2) (fun z_ => (fun i t => (i + 1, (rdoF t (atO l i)).1)) z_.1 z_.2) (fun z_ => (fun i t => cn1_O l i t) z_.1 z_.2) (fun z_ => (fun i t => [(24, tl (atO l i).v), (25, tl (.tup [(rdoF t (atO l i)).1.v, .int .i64 (rdoF t (atO l i)).2])), (29, tl (.bool true)), (32, tl (Lv (lst (rdoF t (atO l i)).1))), (34, tl (.int .i64 0)), (38, tl (.int .i64 0)), (48, tl (.int .i64 (lst (rdoF t (atO l i)).1).length)), (100014, .loop (cn2_S l i (rdoF t (atO l i)).1 (lst (rdoF t (atO l i)).1) 0) (cn2_O l i (rdoF t (atO l i)).1 (lst (rdoF t (atO l i)).1) 0))]) z_.1 z_.2) ?_ (i, t) hpsi
  clear hpsi
  rintro ⟨i, t⟩ hpsi
  replace hpsi : i ≤ l.length ∧ Inv t := hpsi
  refine Eq.mpr (cn1_rd l i t _) ?_
  have hI := hpsi.2.do (atO l i)
  have hK := hI.kn
  have hf := hI.sok.few
  repeat' (first | exact OL_pur _ | exact hK.few _ | exact hK.list _ | exact hK.c1 _ | exact hK.c2 _ | exact hK.n _ | exact do_ps t (atO l i) hpsi.2.big _ | exact (cn2_loop l i _ _ hI.sok.lok hI.sok.nm hI.sok.few 0 (Nat.zero_le _)) | exact Tr.purK _ | exact KL_pur _ | exact RL_pur _ | exact purS (Eq.refl true) | refine And.intro ?_ ?_ | (intro h_; first | (cases h_; done) | rw [h_] | (simp only [Bool.not_eq_true', Bool.not_eq_false'] at h_; rw [h_]) | skip))
  all_goals (try simp only [decide_eq_true_eq, decide_eq_false_iff_not, Bool.not_eq_true', Bool.not_eq_false'] at *)
  all_goals (first | exact trivial | with_reducible rfl | exact RL_pur _ | exact Nat.le_of_ble_eq_true (Eq.refl true) | exact RL_length _ | exact KL_length _ | assumption | (simp only [Int.toNat_natCast, List.drop_zero]; exact RL_at (by omega)) | (simp only [Int.toNat_natCast, List.drop_zero]; exact KL_at (by omega)) | exact wrap_succ (by omega) | omega | (simp only [bsm]; done) | exact hI | (simp only [Int.toNat_natCast, List.drop_zero]; exact OL_at (by omega)) | exact OL_length _ | (exfalso; simp_all; done) | (simp only [bsm]; exact rfl) | skip)
theorem len30 {n : Nat} (h : decide ((n : Int) > 30) = false) : n ≤ 30 := by simp only [decide_eq_false_iff_not] at h; omega
theorem canonical_ok : FnOK Try.prog 9 Try.f9 (bodyOf Try.f9) := ⟨Try.func9, rfl, rfl⟩
theorem canonical_vc (l : List Opr) : vc Try.prog TA none [] [(12, tl (.bool true)), (130, tl (.bool true)), (100005, .loop (cn1_S l 0 zT) (cn1_O l 0 zT))] (bodyOf Try.f9) ⟨startT Try.f9 [OLv l], []⟩ (Fin TA Try.f9 (.bool true)) = ((decide ((↑l.length : Int) > (30 : Int)) = true → CallSem Try.prog (16 : Nat) [] [] (0 : Nat) (GV.bool true) [] [] ∧ true = true ∧ True) ∧ (decide ((↑l.length : Int) > (30 : Int)) = false → l.length = l.length ∧ OL l = OL l ∧ PurL (OL l) ∧ false = false ∧ (0 : Nat) = (0 : Nat) ∧ (0 : Int) = (0 : Int) ∧ (0 : Int) = (0 : Int) ∧ (0 : Int) = (0 : Int) ∧ (0 : Int) = (0 : Int) ∧ (0 : Int) = (0 : Int) ∧ (0 : Int) = (0 : Int) ∧ (0 : Int) = (0 : Int) ∧ (0 : Int) = (0 : Int) ∧ (0 : Int) = (0 : Int) ∧ (0 : Int) = (0 : Int) ∧ (0 : Int) = (0 : Int) ∧ ((0 : Nat) = (0 : Nat) ∧ ([] : List GV) = []) ∧ GW Try.prog none [] (loopOf (5 : Nat) Try.f9).loop { t := [GV.im l.length (OL l), GV.any, GV.bool false, GV.ptr (0 : Nat) (0 : Nat), GV.int IntKind.i64 (↑(0 : Nat) : Int), GV.any, GV.any, GV.any, GV.any, GV.any, GV.any, GV.any, GV.any, GV.any, GV.any, GV.any, GV.any, GV.any, GV.any, GV.any, GV.any, GV.any, GV.any, GV.any, GV.any, GV.any, GV.any, GV.any, GV.any, GV.any, GV.any, GV.any, GV.any, GV.any, GV.any, GV.any, GV.any, GV.any, GV.any, GV.any, GV.any, GV.any, GV.any, GV.any, GV.any, GV.any, GV.any, GV.any, GV.any, GV.any, GV.any, GV.any, GV.any, GV.any, GV.any, GV.any, GV.any, GV.any, GV.any, GV.any, GV.any, GV.any, GV.any, GV.any, GV.any, GV.any, GV.any, GV.any, GV.any, GV.any, GV.any, GV.any, GV.any, GV.any, GV.any, GV.any, GV.any, GV.any, GV.any, GV.any, GV.any, GV.any, GV.any, GV.any, GV.any, GV.any, GV.any, GV.any, GV.any, GV.any, GV.any, GV.any, GV.any, GV.any, GV.any, GV.any, GV.any, GV.any, GV.any, GV.any, GV.any, GV.any, GV.any, GV.any, GV.any, GV.any, GV.any, GV.any, GV.any, GV.any, GV.any, GV.any, GV.any, GV.any, GV.any, GV.any, GV.any, GV.any, GV.any, GV.any, GV.any, GV.any, GV.any, GV.any, GV.any, GV.any, GV.any, GV.any, GV.any, GV.any, GV.any], h := [Ent.blk [GV.int IntKind.i64 (0 : Int), GV.int IntKind.i64 (0 : Int), GV.int IntKind.i64 (0 : Int), GV.int IntKind.i64 (0 : Int), GV.int IntKind.i64 (0 : Int), GV.int IntKind.i64 (0 : Int), GV.int IntKind.i64 (0 : Int), GV.int IntKind.i64 (0 : Int), GV.int IntKind.i64 (0 : Int), GV.int IntKind.i64 (0 : Int), GV.im (0 : Nat) []] (26 : Nat)] } (OneOf (cn1_O l (0 : Nat) zT)) ∧ (True → CallSem Try.prog (16 : Nat) [] [] (0 : Nat) (GV.bool true) [] [] ∧ true = true ∧ True) ∧ True)) := by kernel_rfl
theorem canonical_ps (l : List Opr) : PS Try.prog 9 [OLv l] (.bool true) := by
  refine .of_vcN mixedA tabA canonical_ok (by repeat' (first | exact trivial | exact Rg.pur _ | exact Opr.pur _ | exact Pur.im (OL_pur _) | exact Tr.pur _ | exact zG_pur | exact Pur.agg (PurAll.mem ⟨Pur.int, Pur.int, trivial⟩) | exact PurL.eptr (purS (Eq.refl true)) | exact PurL.eptr (Tr.purc _) | exact Pur.int | exact Pur.bool | exact Pur.lit | exact Pur.im (KL_pur _) | exact Pur.im (RL_pur _) | exact PurL.eptr (purS (Eq.refl true)) | exact Pur.fn (PurAll.mem trivial) | exact Pur.fn (PurAll.mem ⟨PurL.eptr (purS (Eq.refl true)), trivial⟩) | refine And.intro ?_ ?_)) (canonical_vc l) ?_
  repeat' (first | exact OL_pur _ | exact awake_true _ | exact (cn1_loop l (len30 (by assumption)) 0 zT ⟨Nat.zero_le _, inv_zT⟩) | exact Tr.purK _ | exact KL_pur _ | exact RL_pur _ | exact purS (Eq.refl true) | refine And.intro ?_ ?_ | (intro h_; first | (cases h_; done) | rw [h_] | (simp only [Bool.not_eq_true', Bool.not_eq_false'] at h_; rw [h_]) | skip))
  all_goals (first | exact trivial | with_reducible rfl | exact Nat.le_refl _ | exact Tr.purK _ | exact KL_pur _ | exact RL_pur _ | (simp only [bsm]; done) | (simp only [bsm]; exact rfl) | exact Nat.le_of_ble_eq_true (Eq.refl true) | assumption | (simp only [bsm, *]; done) | (simp [RL_length, RL_takeL, RL_append, RL, bsm]; done) | (refine PurAll.mem ?_; repeat' (first | exact trivial | exact Pur.int | exact Pur.bool | exact Pur.nils | exact Pur.im (Tr.purK _) | exact Pur.im (KL_pur _) | exact Pur.im (RL_pur _) | exact PurL.eptr (purS (Eq.refl true)) | exact Pur.fn (PurAll.mem trivial) | exact Pur.fn (PurAll.mem ⟨PurL.eptr (purS (Eq.refl true)), trivial⟩) | refine And.intro ?_ ?_)) | skip)
end Go.Proofs.Ytalcipbagidbpaa
end

section
set_option linter.unusedVariables false
namespace Go.Proofs.Ytalcipbagidbpaa
open Go.Proofs Go.ChangeShapes Go.WideShapes
/-- Everything that there is: nobody writes it. -/
def allE (W : World) : Env := { I := fun k => k < W.heap.size, ok := fun _ => False, bk := fun _ => 0, tot := fun _ => 0 }
theorem cells3 : Try.prog.cellsOf 3 = 1 := by simp [Program.cellsOf, info_of Try.typeInfo3, Try.t3]
theorem cells23 : Try.prog.cellsOf 23 = 6 := by simp [Program.cellsOf, info_of Try.typeInfo23, Try.t23]
section
variable {H : Type} {enc : TypeId × Value → H} {W : World} {base : Nat} {spare : Nat → Bool} {held : Bool}
theorem at_take {cs : List Value} {o : Nat} {v : Value} (h : (cs.drop o).take 1 = [v]) : cs[o]? = some v := by
  have := congrArg (·[0]?) h
  simpa using this
theorem int_at {n o : Nat} {cs : List Value} {x : DataW H × List MemPlace} (h : DataW.trod enc Try.prog W base spare held n 3 ((cs.drop o).take (Try.prog.cellsOf 3)) = some x) : ∃ k : Int, cs[o]? = some (.int .i64 k) := by
  obtain ⟨k, e, _⟩ := DataW.trod_int Try.underlying3 h
  rw [cells3] at e
  exact ⟨k, at_take e⟩
theorem rg_read {n : Nat} {cs : List Value} {x : DataW H × List MemPlace} (h : DataW.trod enc Try.prog W base spare held n 23 cs = some x) : ∃ r : Rg, cs = [.int .i64 r.start, .int .i64 r.pages, .int .i64 r.prot, .int .i64 r.flags, .int .i64 r.file, .int .i64 r.index] := by
  obtain ⟨xs, m, _, _, hl, hx, hf⟩ := DataW.trod_struct Try.underlying23 h
  rw [cells23] at hl
  have hx : xs.length = 6 := hx
  have get : ∀ i, i < 6 → ∃ y, xs[i]? = some y := fun i hi => ⟨_, List.getElem?_eq_getElem (by omega)⟩
  obtain ⟨y0, e0⟩ := get 0 (by omega); obtain ⟨y1, e1⟩ := get 1 (by omega); obtain ⟨y2, e2⟩ := get 2 (by omega)
  obtain ⟨y3, e3⟩ := get 3 (by omega); obtain ⟨y4, e4⟩ := get 4 (by omega); obtain ⟨y5, e5⟩ := get 5 (by omega)
  obtain ⟨k0, h0⟩ := int_at ((hf 0 _ rfl).trans e0)
  obtain ⟨k1, h1⟩ := int_at ((hf 1 _ rfl).trans e1)
  obtain ⟨k2, h2⟩ := int_at ((hf 2 _ rfl).trans e2)
  obtain ⟨k3, h3⟩ := int_at ((hf 3 _ rfl).trans e3)
  obtain ⟨k4, h4⟩ := int_at ((hf 4 _ rfl).trans e4)
  obtain ⟨k5, h5⟩ := int_at ((hf 5 _ rfl).trans e5)
  refine ⟨⟨k0, k1, k2, k3, k4, k5⟩, ?_⟩
  apply List.ext_getElem?
  intro j
  rcases Nat.lt_or_ge j 6 with hj | hj
  · rcases (show j = 0 ∨ j = 1 ∨ j = 2 ∨ j = 3 ∨ j = 4 ∨ j = 5 by omega) with e | e | e | e | e | e <;> subst e <;> assumption
  · rw [List.getElem?_eq_none (by omega), List.getElem?_eq_none (by simpa using hj)]
/-- A pointer that is no special spot. -/
theorem cells_at {b : Nat} {a : Addr} {n : Nat} {cs : List Value} (h : W.cells? b a n = some cs) : cs.length = n ∧ ∀ j, j < n → W.cell? (a.add j) = cs[j]? := by
  unfold World.cells? at h
  split at h
  · refine ⟨by simpa using mapM_some_length h, fun j hj => ?_⟩
    have := mapM_some_get h j j (by simp [hj])
    exact this
  · cases h
theorem cell_spot {a : Addr} {v : Value} (h : W.cell? a = some v) : a.spot = none ∧ a.block < W.heap.size := by
  unfold World.cell? at h
  split at h
  · rename_i c _ _ hb
    split at h
    · cases h
    · rename_i hs
      refine ⟨by simpa using hs, ?_⟩
      exact (Array.getElem?_eq_some_iff.1 hb).1
  · cases h
theorem add_is {a : Addr} (h : a.spot = none) (n : Nat) : a.add n = ⟨a.block, a.off + n, none⟩ := by
  unfold Addr.add
  split
  · rename_i e; subst e
    cases a; simp at h; simp [h]
  · rfl
/-- A tree that is read. -/
def Rd (W : World) (gs : List GV) (cs : List Value) : Prop := gs.length = cs.length ∧ ∀ (j : Nat) (c : GV) (v : Value), gs[j]? = some c → cs[j]? = some v → R W (allE W) c v
theorem Rd.append {gs gs' : List GV} {cs cs' : List Value} (h : Rd W gs cs) (h' : Rd W gs' cs') : Rd W (gs ++ gs') (cs ++ cs') := by
  refine ⟨by simp [h.1, h'.1], fun j c v hc hv => ?_⟩
  rcases Nat.lt_or_ge j gs.length with hj | hj
  · rw [List.getElem?_append_left hj] at hc
    rw [List.getElem?_append_left (h.1 ▸ hj)] at hv
    exact h.2 j c v hc hv
  · rw [List.getElem?_append_right hj] at hc
    rw [List.getElem?_append_right (h.1 ▸ hj), ← h.1] at hv
    exact h'.2 _ c v hc hv
end
end Go.Proofs.Ytalcipbagidbpaa
end

section
set_option linter.unusedVariables false
namespace Go.Proofs.Ytalcipbagidbpaa
open Go.Proofs Go.ChangeShapes Go.WideShapes Go.ChangeAt Go.RowKit
theorem own : ownKnob Try.prog.godebug = none := by kernel_rfl
theorem laidOut : laidOutB Try.prog = true := by kernel_rfl
/-- A contract that says true, as the rows ask for it. -/
theorem law_calls {f : FuncId} {args : List GV} (h : PS Try.prog f args (.bool true)) {W : World} {vs : Array Value} (hl : args.length = vs.size) (hR : ∀ (j : Nat) (g : GV) (v : Value), args[j]? = some g → vs[j]? = some v → R W (allE W) g v) :
    Calls Try.prog f vs W fun e W' => e = .returned (.bool true) ∧ Below W.heap.size W W' := by
  refine ((h 0).run W (allE W) (fun _ _ => False) vs hl hR ⟨fun p e he => by simp at he, fun p e q e' k he => by simp at he, fun p e k he => by simp at he, fun k hk => hk⟩ (fun p _ h => by simp at h)).mono ?_
  rintro e W' ⟨v, E', Bs', rfl, hv, hp⟩
  rw [hv.bool_inv]
  exact ⟨rfl, hp.os, hp.tape, hp.output, hp.size, fun k hk => hp.keep k hk fun p e he => by simp at he⟩
theorem args1 {W : World} {E : Env} {a : GV} {v : Value} (ha : R W E a v) : ∀ (j : Nat) (g : GV) (w : Value), [a][j]? = some g → #[v][j]? = some w → R W E g w
  | 0, g, w, h1, h2 => by injection h1 with h1; injection h2 with h2; subst h1 h2; exact ha
  | j + 1, g, w, h1, h2 => by simp at h1
end Go.Proofs.Ytalcipbagidbpaa
end

section
set_option linter.unusedVariables false
namespace Go.Proofs.Ytalcipbagidbpaa
open Go.Proofs Go.ChangeShapes Go.WideShapes Go.ChangeAt Go.RowKit
theorem cells55 : Try.prog.cellsOf 55 = 10 := by simp [Program.cellsOf, info_of Try.typeInfo55, Try.t55]
section
variable {H : Type} {enc : TypeId × Value → H} {W : World} {base : Nat} {spare : Nat → Bool} {held : Bool}
theorem op_read {n : Nat} {cs : List Value} {x : DataW H × List MemPlace} (h : DataW.trod enc Try.prog W base spare held n 55 cs = some x) : ∃ o : Opr, cs = [.int .i64 o.kind, .int .i64 o.r.start, .int .i64 o.r.pages, .int .i64 o.r.prot, .int .i64 o.r.flags, .int .i64 o.r.file, .int .i64 o.r.index, .int .i64 o.page, .int .i64 o.count, .int .i64 o.n] := by
  obtain ⟨xs, m, _, _, hl, hx, hf⟩ := DataW.trod_struct Try.underlying55 h
  rw [cells55] at hl
  have hx : xs.length = 5 := hx
  have get : ∀ i, i < 5 → ∃ y, xs[i]? = some y := fun i hi => ⟨_, List.getElem?_eq_getElem (by omega)⟩
  obtain ⟨y0, e0⟩ := get 0 (by omega); obtain ⟨y1, e1⟩ := get 1 (by omega); obtain ⟨y2, e2⟩ := get 2 (by omega)
  obtain ⟨y3, e3⟩ := get 3 (by omega); obtain ⟨y4, e4⟩ := get 4 (by omega)
  obtain ⟨k0, h0⟩ := int_at ((hf 0 _ rfl).trans e0)
  obtain ⟨r, hr⟩ := rg_read ((hf 1 _ rfl).trans e1)
  have hr : (cs.drop 1).take (Try.prog.cellsOf 23) = [.int .i64 r.start, .int .i64 r.pages, .int .i64 r.prot, .int .i64 r.flags, .int .i64 r.file, .int .i64 r.index] := hr
  rw [cells23] at hr
  obtain ⟨k2, h2⟩ := int_at ((hf 2 _ rfl).trans e2)
  obtain ⟨k3, h3⟩ := int_at ((hf 3 _ rfl).trans e3)
  obtain ⟨k4, h4⟩ := int_at ((hf 4 _ rfl).trans e4)
  refine ⟨⟨k0, r, k2, k3, k4⟩, ?_⟩
  apply List.ext_getElem?
  intro j
  have g4 : ∀ i, i < 6 → cs[1 + i]? = [Value.int .i64 r.start, .int .i64 r.pages, .int .i64 r.prot, .int .i64 r.flags, .int .i64 r.file, .int .i64 r.index][i]? := fun i hi => by
    rw [← hr, List.getElem?_take_of_lt hi, List.getElem?_drop]
  rcases Nat.lt_or_ge j 10 with hj | hj
  · rcases (show j = 0 ∨ j = 1 ∨ j = 2 ∨ j = 3 ∨ j = 4 ∨ j = 5 ∨ j = 6 ∨ j = 7 ∨ j = 8 ∨ j = 9 by omega) with e | e | e | e | e | e | e | e | e | e <;> subst e
    · exact h0
    · exact g4 0 (by omega)
    · exact g4 1 (by omega)
    · exact g4 2 (by omega)
    · exact g4 3 (by omega)
    · exact g4 4 (by omega)
    · exact g4 5 (by omega)
    · exact h2
    · exact h3
    · exact h4
  · rw [List.getElem?_eq_none (by omega), List.getElem?_eq_none (by simpa using hj)]
theorem op_rd {o : Opr} {cs : List Value} (h : cs = [.int .i64 o.kind, .int .i64 o.r.start, .int .i64 o.r.pages, .int .i64 o.r.prot, .int .i64 o.r.flags, .int .i64 o.r.file, .int .i64 o.r.index, .int .i64 o.page, .int .i64 o.count, .int .i64 o.n]) : Rd W o.cells cs := by
  subst h
  refine ⟨rfl, fun j c v hc hv => ?_⟩
  rcases Nat.lt_or_ge j 10 with hj | hj
  · rcases (show j = 0 ∨ j = 1 ∨ j = 2 ∨ j = 3 ∨ j = 4 ∨ j = 5 ∨ j = 6 ∨ j = 7 ∨ j = 8 ∨ j = 9 by omega) with e | e | e | e | e | e | e | e | e | e <;> subst e <;> (injection hc with hc; injection hv with hv; subst hc; subst hv; exact .int)
  · have := (List.getElem?_eq_some_iff.1 hc).1
    simp [Opr.cells] at this; omega
theorem ops_read {n : Nat} {cs : List Value} {y : DataW H × List MemPlace} (h5 : DataW.trod enc Try.prog W base spare held n 46 cs = some y) : ∃ (ks : List Opr) (v : Value), cs = [v] ∧ R W (allE W) (.im ks.length (OL ks)) v ∧ ks.length ≤ 9223372036854775807 := by
  rcases DataW.trod_slice Try.underlying46 h5 with ⟨hc, _⟩ | ⟨a, len, cap, elems, rest, m', rfl, hc, _, _, hle, hm, hel, hget, _⟩
  · exact ⟨[], _, hc, .im0 none 0, by simp⟩
  · rw [cells55] at hget
    have each : ∀ i, i < len → ∃ t : Opr, ∃ cs', W.cells? base (a.add (i * 10)) 10 = some cs' ∧ Rd W t.cells cs' := by
      intro i hi
      have h6 := hget i hi
      rw [List.getElem?_eq_getElem (by omega), Option.bind_eq_some_iff] at h6
      obtain ⟨cs', h7, h8⟩ := h6
      obtain ⟨t, h9⟩ := op_read h8
      exact ⟨t, cs', h7, op_rd h9⟩
    have all : ∀ k, k ≤ len → ∃ ks : List Opr, ks.length = k ∧ (∀ i, i < k → ∃ cs', W.cells? base (a.add (i * 10)) 10 = some cs' ∧ Rd W (atO ks i).cells cs') := by
      intro k
      induction k with
      | zero => intro _; exact ⟨[], rfl, fun i hi => by omega⟩
      | succ k ihk =>
        intro hk
        obtain ⟨ks, l1, l2⟩ := ihk (by omega)
        obtain ⟨t, t1⟩ := each k (by omega)
        refine ⟨ks ++ [t], by simp [l1], fun i hi => ?_⟩
        rcases Nat.lt_or_ge i k with h | h
        · have e : atO (ks ++ [t]) i = atO ks i := by simp [atO, List.getD_eq_getElem?_getD, List.getElem?_append_left (show i < ks.length by omega)]
          rw [e]; exact l2 i h
        · have e : atO (ks ++ [t]) i = t := by
            have : i = ks.length := by omega
            subst this
            simp [atO, List.getD_eq_getElem?_getD]
          rw [e, show i = k by omega]; exact t1
    obtain ⟨ks, l1, l2⟩ := all len (Nat.le_refl _)
    refine ⟨ks, _, hc, ?_, by unfold maxLen at hm; omega⟩
    rcases Nat.eq_zero_or_pos len with hz | hz
    · have : ks = [] := List.length_eq_zero_iff.1 (by omega)
      subst this; subst hz
      exact .im0 (some a) cap
    · obtain ⟨cs0, q1, q2⟩ := l2 0 hz
      obtain ⟨q3, q4⟩ := cells_at q1
      have q5 : W.cell? a = cs0[0]? := by have := q4 0 (by omega); simpa [Addr.add] using this
      rw [List.getElem?_eq_getElem (by omega)] at q5
      obtain ⟨q6, q7⟩ := cell_spot q5
      have ea : a = ⟨a.block, a.off, none⟩ := by cases a; simp at q6; simp [q6]
      rw [ea, l1]
      have cell : ∀ (j : Nat) (c : GV), (OL ks)[j]? = some c → ∃ v, W.cell? ⟨a.block, a.off + j, none⟩ = some v ∧ R W (allE W) c v := by
        intro j c hj
        have hj2 : j < ks.length * 10 := by rw [← OL_length]; exact (List.getElem?_eq_some_iff.1 hj).1
        have hi : j / 10 < len := by omega
        obtain ⟨cs', p1, p2⟩ := l2 (j / 10) hi
        obtain ⟨p3, p4⟩ := cells_at p1
        have p5 := p4 (j % 10) (Nat.mod_lt _ (by decide))
        rw [add_is q6, add_is rfl] at p5
        have e1 : a.off + j / 10 * 10 + j % 10 = a.off + j := by omega
        simp only [e1] at p5
        have e2 : (atO ks (j / 10)).cells[j % 10]? = some c := by
          rw [← OL_at (by omega), List.getElem?_take_of_lt (Nat.mod_lt _ (by decide)), List.getElem?_drop, show j / 10 * 10 + j % 10 = j by omega]
          exact hj
        have e3 : cs'[j % 10]? = some cs'[j % 10] := List.getElem?_eq_getElem (by omega)
        exact ⟨_, p5.trans e3, p2.2 _ _ _ e2 e3⟩
      refine .im a.block a.off cap (fun j => (W.cell? ⟨a.block, a.off + j, none⟩).getD (.int .i64 0)) q7 hle (fun j c hj => ?_) fun j c hj => ?_
      · obtain ⟨v, v1, v2⟩ := cell j c hj
        rw [v1]; rfl
      · obtain ⟨v, v1, v2⟩ := cell j c hj
        rw [v1]; exact v2
end
theorem okw_slice {P : Program} {W : World} {r : Reach} {b : Nat} {t e : TypeId} {v : Value} (hu : P.underlying t = some (.slice e)) (hv : Value.okWide P W r b t v) : ∃ a l c, v = .slice a l c := by
  unfold Value.okWide at hv
  rw [hu] at hv
  cases v with
  | slice a l c => exact ⟨a, l, c, rfl⟩
  | _ => exact absurd hv (by simp [Cell.okWide, Cell.ok, hu])
set_option maxRecDepth 100000 in
theorem ops_val {H : Type} {enc : TypeId × Value → H} {W : World} {base base2 : Nat} {spare : Nat → Bool} {held : Bool} {v : Value} {d : DataW H} {ps : List MemPlace} (hv : Value.okWide Try.prog W .any base 46 v) (h : DataW.Trod enc Try.prog W base2 spare held 46 v d ps) : ∃ l : List Opr, R W (allE W) (.im l.length (OL l)) v ∧ l.length ≤ 9223372036854775807 := by
  obtain ⟨a, l, c, rfl⟩ := okw_slice Try.underlying46 hv
  obtain ⟨fuel, hf⟩ := h
  obtain ⟨t, w, h1, h2, h3⟩ := ops_read hf
  have e : w = .slice a l c := by have := h1; simpa [Value.cells] using this.symm
  exact ⟨t, e ▸ h2, h3⟩
end Go.Proofs.Ytalcipbagidbpaa
end
