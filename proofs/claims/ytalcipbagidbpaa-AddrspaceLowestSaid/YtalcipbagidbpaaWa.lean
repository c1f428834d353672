/- DERIVED. A part of the proof of a statement of this seat (Sep, Op, OpA, OpB, OpC, OpD, OpE, OpF, OpG, OpH, OpI, Reg, Ex). No statement of its own; no conditions. -/
import Derived.OrdersIn
import Derived.RangeFuncIn
import Derived.Maps.AppendAt
import Derived.RowKit
import Derived.ChangeKeysEq
import Derived.Lib.AppendZerosOnto
import Derived.Laws.CopyRow
set_option linter.unusedVariables false
set_option linter.unusedSimpArgs false
set_option linter.unusedSectionVars false
set_option linter.unnecessarySimpa false
section
set_option linter.unusedVariables false
namespace Go.Proofs.Ytalcipbagidbpaa
/-- Ghost values. 'ptr p off': into the own block number p; 'eptr cs': into cells that nobody writes; 'sl p off len es': a slice of an own block; 'im len cs': a slice that nobody writes. -/
inductive GV where
  | int (k : IntKind) (n : Int)
  | bool (b : Bool)
  | lit (b : Bool)
  | str (s : ByteArray)
  | nilp
  | ptr (p off : Nat)
  | at_ (p off b z : Nat)
  | eptr (cs : List GV)
  | nils
  | sl (p off len es : Nat)
  | slc (p off len es b z : Nat)
  | ol (p len es : Nat)
  | im (len : Nat) (cs : List GV)
  | fn (f : FuncId) (cap : List GV)
  | nilf
  | agg (cs : List GV)
  | tup (vs : List GV)
  | raw (v : Value)
  | any
  deriving Inhabited
/-- Where the own blocks lie; which blocks nobody writes. -/
structure Env where
  I : Nat → Prop
  ok : Nat → Prop
  bk : Nat → Nat
  tot : Nat → Nat
inductive R (W : World) (E : Env) : GV → Value → Prop
  | int {k n} : R W E (.int k n) (.int k n)
  | bool {b} : R W E (.bool b) (.bool b)
  | lit {b} : R W E (.lit b) (.bool b)
  | str {s} : R W E (.str s) (.string s)
  | nilp : R W E .nilp (.pointer none)
  | ptr {p off} (h : E.ok p) : R W E (.ptr p off) (.pointer (some ⟨E.bk p, off, none⟩))
  | at_ {p off b z} (h : E.ok p) (hb : E.bk p = b) (hz : E.tot p = z) : R W E (.at_ p off b z) (.pointer (some ⟨b, off, none⟩))
  | eptr {cs} (b off : Nat) (vs : Nat → Value) (hI : E.I b) (hc : ∀ (j : Nat) (c : GV), cs[j]? = some c → W.cell? ⟨b, off + j, none⟩ = some (vs j))
      (hR : ∀ (j : Nat) (c : GV), cs[j]? = some c → R W E c (vs j)) : R W E (.eptr cs) (.pointer (some ⟨b, off, none⟩))
  | nils : R W E .nils (.slice none 0 0)
  | sl {p off len es} (cap : Nat) (h : E.ok p) (hl : len ≤ cap) (hm : cap ≤ maxLen) (ht : off + cap * es = E.tot p) : R W E (.sl p off len es) (.slice (some ⟨E.bk p, off, none⟩) len cap)
  | slc {p off len es b z} (cap : Nat) (h : E.ok p) (hl : len ≤ cap) (hm : cap ≤ maxLen) (ht : off + cap * es = z) (hb : E.bk p = b) (hz : E.tot p = z) : R W E (.slc p off len es b z) (.slice (some ⟨b, off, none⟩) len cap)
  | ol0 {p es} : R W E (.ol p 0 es) (.slice none 0 0)
  | ol {p len es} (cap : Nat) (h : E.ok p) (h0 : 0 < len) (hl : len ≤ cap) (hm : cap ≤ maxLen) (ht : 0 + cap * es = E.tot p) : R W E (.ol p len es) (.slice (some ⟨E.bk p, 0, none⟩) len cap)
  | im0 (a : Option Addr) (cap : Nat) : R W E (.im 0 []) (.slice a 0 cap)
  | im {len cs} (b off cap : Nat) (vs : Nat → Value) (hI : E.I b) (hl : len ≤ cap) (hc : ∀ (j : Nat) (c : GV), cs[j]? = some c → W.cell? ⟨b, off + j, none⟩ = some (vs j))
      (hR : ∀ (j : Nat) (c : GV), cs[j]? = some c → R W E c (vs j)) : R W E (.im len cs) (.slice (some ⟨b, off, none⟩) len cap)
  | fn {f cs} (vs : Array Value) (hl : cs.length = vs.size) (hR : ∀ (j : Nat) (c : GV) (v : Value), cs[j]? = some c → vs[j]? = some v → R W E c v) : R W E (.fn f cs) (.func (.func f) #[] vs)
  | nilf : R W E .nilf .nilFunc
  | agg {cs} (vs : Array Value) (hl : cs.length = vs.size) (hR : ∀ (j : Nat) (c : GV) (v : Value), cs[j]? = some c → vs[j]? = some v → R W E c v) : R W E (.agg cs) (.agg vs)
  | tup {cs} (vs : Array Value) (hl : cs.length = vs.size) (hR : ∀ (j : Nat) (c : GV) (v : Value), cs[j]? = some c → vs[j]? = some v → R W E c v) : R W E (.tup cs) (.tuple vs)
  | raw {v} : R W E (.raw v) v
  | any {v} : R W E .any v
/-- A later state of affairs, as far as values see it. -/
structure Later (W : World) (E : Env) (W' : World) (E' : Env) : Prop where
  I : ∀ k, E.I k → E'.I k
  blk : ∀ k, E.I k → W'.heap[k]? = W.heap[k]?
  ok : ∀ p, E.ok p → E'.ok p
  bk : ∀ p, E.ok p → E'.bk p = E.bk p
  tot : ∀ p, E.ok p → E'.tot p = E.tot p
theorem Later.refl (W : World) (E : Env) : Later W E W E := ⟨fun _ h => h, fun _ _ => rfl, fun _ h => h, fun _ _ => rfl, fun _ _ => rfl⟩
theorem Later.trans {W W' W'' : World} {E E' E'' : Env} (h : Later W E W' E') (h' : Later W' E' W'' E'') : Later W E W'' E'' :=
  ⟨fun k hk => h'.I k (h.I k hk), fun k hk => (h'.blk k (h.I k hk)).trans (h.blk k hk), fun p hp => h'.ok p (h.ok p hp),
   fun p hp => (h'.bk p (h.ok p hp)).trans (h.bk p hp), fun p hp => (h'.tot p (h.ok p hp)).trans (h.tot p hp)⟩
theorem cell_of_block {W W' : World} {a : Addr} {v : Value} (h : W'.heap[a.block]? = W.heap[a.block]?) (hc : W.cell? a = some v) : W'.cell? a = some v := by
  unfold World.cell? at *
  rw [h]; exact hc
theorem R.later {W W' : World} {E E' : Env} (hL : Later W E W' E') {g : GV} {v : Value} (h : R W E g v) : R W' E' g v := by
  induction h with
  | int => exact .int
  | bool => exact .bool
  | lit => exact .lit
  | str => exact .str
  | nilp => exact .nilp
  | ptr h => rw [← hL.bk _ h]; exact .ptr (hL.ok _ h)
  | at_ h hb hz => exact .at_ (hL.ok _ h) ((hL.bk _ h).trans hb) ((hL.tot _ h).trans hz)
  | eptr b off vs hI hc hR ih => exact .eptr b off vs (hL.I _ hI) (fun j c hj => cell_of_block (hL.blk _ hI) (hc j c hj)) ih
  | nils => exact .nils
  | sl cap h hl hm ht => rw [← hL.bk _ h]; exact .sl cap (hL.ok _ h) hl hm (by rw [hL.tot _ h]; exact ht)
  | slc cap h hl hm ht hb hz => exact .slc cap (hL.ok _ h) hl hm ht ((hL.bk _ h).trans hb) ((hL.tot _ h).trans hz)
  | ol0 => exact .ol0
  | ol cap h h0 hl hm ht => rw [← hL.bk _ h]; exact .ol cap (hL.ok _ h) h0 hl hm (by rw [hL.tot _ h]; exact ht)
  | im0 a cap => exact .im0 a cap
  | im b off cap vs hI hl hc hR ih => exact .im b off cap vs (hL.I _ hI) hl (fun j c hj => cell_of_block (hL.blk _ hI) (hc j c hj)) ih
  | fn vs hl hR ih => exact .fn vs hl ih
  | nilf => exact .nilf
  | agg vs hl hR ih => exact .agg vs hl ih
  | tup vs hl hR ih => exact .tup vs hl ih
  | raw => exact .raw
  | any => exact .any
/-- A resource that a state owns without looking into it. -/
structure Res where
  φ : World → (Nat → Prop) → (Nat → Prop) → Prop
  local_ : ∀ W W' I I' B, (∀ k, B k → W'.heap[k]? = W.heap[k]?) → (∀ k, I k → W'.heap[k]? = W.heap[k]?) → (∀ k, I k → I' k) → φ W I B → φ W' I' B
/-- What lies at a position. -/
inductive Ent where
  | emp
  | blk (cs : List GV) (ty : TypeId)
  | ob (cs : List GV) (ty : TypeId)
  | pr (r : Res)
/-- A block. -/
def BlkSat (W : World) (E : Env) (p : Nat) (cs : List GV) (ty : TypeId) (B : Nat → Prop) : Prop := E.ok p ∧ (∀ k, B k ↔ k = E.bk p) ∧ ∃ arr : Array Value, W.heap[E.bk p]? = some (.cells arr ty (0, 0)) ∧ arr.size = E.tot p ∧ cs.length ≤ arr.size ∧
      ∀ (j : Nat) (c : GV), cs[j]? = some c → ∃ v, arr[j]? = some v ∧ R W E c v
def EntSat (W : World) (E : Env) (p : Nat) : Ent → (Nat → Prop) → Prop
  | .emp, B => ∀ k, ¬ B k
  | .blk cs ty, B => E.ok p ∧ (∀ k, B k ↔ k = E.bk p) ∧ ∃ arr : Array Value, W.heap[E.bk p]? = some (.cells arr ty (0, 0)) ∧ arr.size = E.tot p ∧ cs.length ≤ arr.size ∧
      ∀ (j : Nat) (c : GV), cs[j]? = some c → ∃ v, arr[j]? = some v ∧ R W E c v
  | .ob cs ty, B => (cs = [] ∧ ∀ k, ¬ B k) ∨ BlkSat W E p cs ty B
  | .pr r, B => r.φ W E.I B
theorem EntSat.later {W W' : World} {E E' : Env} {p : Nat} {e : Ent} {B : Nat → Prop} (hL : Later W E W' E') (hB : ∀ k, B k → W'.heap[k]? = W.heap[k]?) (h : EntSat W E p e B) : EntSat W' E' p e B := by
  cases e with
  | emp => exact h
  | blk cs ty =>
    obtain ⟨hok, hb, arr, ha, ht, hl, hc⟩ := h
    refine ⟨hL.ok _ hok, ?_, arr, ?_, ?_, hl, fun j c hj => ?_⟩
    · rw [hL.bk _ hok]; exact hb
    · rw [hL.bk _ hok, hB _ ((hb _).2 rfl)]; exact ha
    · rw [hL.tot _ hok]; exact ht
    · obtain ⟨v, hv, hr⟩ := hc j c hj
      exact ⟨v, hv, hr.later hL⟩
  | ob cs ty =>
    rcases h with h | ⟨hok, hb, arr, ha, ht, hl, hc⟩
    · exact .inl h
    refine .inr ⟨hL.ok _ hok, ?_, arr, ?_, ?_, hl, fun j c hj => ?_⟩
    · rw [hL.bk _ hok]; exact hb
    · rw [hL.bk _ hok, hB _ ((hb _).2 rfl)]; exact ha
    · rw [hL.tot _ hok]; exact ht
    · obtain ⟨v, hv, hr⟩ := hc j c hj
      exact ⟨v, hv, hr.later hL⟩
  | pr r => exact r.local_ _ _ _ _ _ hB hL.blk hL.I h
/-- What is asked of the entries that an operation looks at: the pre-entries of a list (position, entry). -/
structure Pre (W : World) (E : Env) (Bs : Nat → Nat → Prop) (fp : List (Nat × Ent)) : Prop where
  ent : ∀ p e, (p, e) ∈ fp → EntSat W E p e (Bs p)
  disj : ∀ p e q e' k, (p, e) ∈ fp → (q, e') ∈ fp → p ≠ q → Bs p k → Bs q k → False
  notI : ∀ p e k, (p, e) ∈ fp → Bs p k → ¬ E.I k ∧ k < W.heap.size
  Ilt : ∀ k, E.I k → k < W.heap.size
/-- What holds behind it: 'fp' the same positions with their post-entries, 'new' the new entries from position 'base' on. -/
structure Post (W : World) (E : Env) (Bs : Nat → Nat → Prop) (W' : World) (E' : Env) (Bs' : Nat → Nat → Prop) (fp : List (Nat × Ent)) (base : Nat) (new : List Ent) : Prop where
  size : W.heap.size ≤ W'.heap.size
  os : W'.os = W.os
  tape : W'.tape = W.tape
  output : W'.output = W.output
  keep : ∀ k, k < W.heap.size → (∀ p e, (p, e) ∈ fp → ¬ Bs p k) → W'.heap[k]? = W.heap[k]?
  Isub : ∀ k, E.I k → E'.I k
  Inew : ∀ k, E'.I k → E.I k ∨ (∃ p e, (p, e) ∈ fp ∧ Bs p k) ∨ W.heap.size ≤ k
  Ilt : ∀ k, E'.I k → k < W'.heap.size
  ok : ∀ p, E.ok p → E'.ok p ∧ E'.bk p = E.bk p ∧ E'.tot p = E.tot p
  okn : ∀ p, E'.ok p → E.ok p ∨ (base ≤ p ∧ p < base + new.length)
  ent : ∀ p e, (p, e) ∈ fp → EntSat W' E' p e (Bs' p)
  entn : ∀ (j : Nat) (e : Ent), new[j]? = some e → EntSat W' E' (base + j) e (Bs' (base + j))
  own : ∀ p k, ((∃ e, (p, e) ∈ fp) ∨ (base ≤ p ∧ p < base + new.length)) → Bs' p k → ((∃ q e, (q, e) ∈ fp ∧ Bs q k) ∨ W.heap.size ≤ k) ∧ k < W'.heap.size ∧ ¬ E'.I k
  disj : ∀ p q k, ((∃ e, (p, e) ∈ fp) ∨ (base ≤ p ∧ p < base + new.length)) → ((∃ e, (q, e) ∈ fp) ∨ (base ≤ q ∧ q < base + new.length)) → p ≠ q → Bs' p k → Bs' q k → False
  same : ∀ p, (∀ e, (p, e) ∉ fp) → ¬ (base ≤ p ∧ p < base + new.length) → Bs' p = Bs p
theorem Post.later {W W' : World} {E E' : Env} {Bs Bs' : Nat → Nat → Prop} {fp fp' : List (Nat × Ent)} {base : Nat} {new : List Ent}
    (hpre : Pre W E Bs fp') (hfp : ∀ p, (∃ e, (p, e) ∈ fp) ↔ ∃ e, (p, e) ∈ fp') (h : Post W E Bs W' E' Bs' fp base new) : Later W E W' E' :=
  ⟨h.Isub, fun k hk => h.keep k (hpre.Ilt k hk) (fun p e hm hb => by
      obtain ⟨e', he'⟩ := (hfp p).1 ⟨e, hm⟩
      exact (hpre.notI p e' k he' hb).1 hk), fun p hp => (h.ok p hp).1, fun p hp => (h.ok p hp).2.1, fun p hp => (h.ok p hp).2.2⟩
/-- A state: the temporaries, the entries. -/
structure St where
  t : List GV
  h : List Ent
structure Sat (W : World) (E : Env) (Bs : Nat → Nat → Prop) (h : List Ent) : Prop where
  ent : ∀ (p : Nat) (e : Ent), h[p]? = some e → EntSat W E p e (Bs p)
  disj : ∀ p q k, p ≠ q → Bs p k → Bs q k → False
  own : ∀ p k, Bs p k → ¬ E.I k ∧ k < W.heap.size ∧ p < h.length
  Ilt : ∀ k, E.I k → k < W.heap.size
  oklt : ∀ p, E.ok p → p < h.length
structure Rel (st : St) (a : Act) (W : World) (E : Env) (Bs : Nat → Nat → Prop) : Prop where
  len : a.tmps.size = st.t.length
  tmp : ∀ (i : Nat) (g : GV), st.t[i]? = some g → ∃ v, a.tmps[i]? = some v ∧ R W E g v
  sat : Sat W E Bs st.h
/-- From one moment to a later one, as a caller sees it. -/
structure Fut (W : World) (E : Env) (Bs : Nat → Nat → Prop) (W' : World) (E' : Env) (Bs' : Nat → Nat → Prop) : Prop where
  size : W.heap.size ≤ W'.heap.size
  os : W'.os = W.os
  tape : W'.tape = W.tape
  output : W'.output = W.output
  keep : ∀ k, k < W.heap.size → (∀ p, ¬ Bs p k) → W'.heap[k]? = W.heap[k]?
  Isub : ∀ k, E.I k → E'.I k
  Inew : ∀ k, E'.I k → E.I k ∨ (∃ p, Bs p k) ∨ W.heap.size ≤ k
  Bnew : ∀ p k, Bs' p k → (∃ q, Bs q k) ∨ W.heap.size ≤ k
theorem Fut.refl (W : World) (E : Env) (Bs : Nat → Nat → Prop) : Fut W E Bs W E Bs :=
  ⟨Nat.le_refl _, rfl, rfl, rfl, fun _ _ _ => rfl, fun _ h => h, fun _ h => .inl h, fun p _ h => .inl ⟨p, h⟩⟩
theorem Fut.trans {W W' W'' : World} {E E' E'' : Env} {Bs Bs' Bs'' : Nat → Nat → Prop} (h : Fut W E Bs W' E' Bs') (h' : Fut W' E' Bs' W'' E'' Bs'') : Fut W E Bs W'' E'' Bs'' where
  size := Nat.le_trans h.size h'.size
  os := h'.os.trans h.os
  tape := h'.tape.trans h.tape
  output := h'.output.trans h.output
  keep k hk hn := by
    refine (h'.keep k (Nat.lt_of_lt_of_le hk h.size) (fun p hb => ?_)).trans (h.keep k hk hn)
    rcases h.Bnew p k hb with ⟨q, hq⟩ | hq
    · exact hn q hq
    · omega
  Isub k hk := h'.Isub k (h.Isub k hk)
  Inew k hk := by
    rcases h'.Inew k hk with hk | ⟨p, hb⟩ | hk
    · exact h.Inew k hk
    · rcases h.Bnew p k hb with ⟨q, hq⟩ | hq
      · exact .inr (.inl ⟨q, hq⟩)
      · exact .inr (.inr hq)
    · exact .inr (.inr (Nat.le_trans h.size hk))
  Bnew p k hb := by
    rcases h'.Bnew p k hb with ⟨q, hq⟩ | hq
    · exact h.Bnew q k hq
    · exact .inr (Nat.le_trans h.size hq)
/-- The fence that lets everything in, in a round or in none. -/
def Fw (ro : Option Nat) : Fence := { fn := fun _ => True, depth := none, alive := false, round := ro }
/-- The weakest precondition over ghost states. -/
def GW (P : Program) (ro : Option Nat) (d : List Deferred) (c : Code) (st : St) (Q : Exit → St → Prop) : Prop :=
  ∀ a W E Bs, a.defers = d → Rel st a W E Bs →
    c.wpIn (Fw ro) 0 P (fun e a' W' => ∃ st' E' Bs', Q e st' ∧ a'.defers = d ∧ Rel st' a' W' E' Bs' ∧ Fut W E Bs W' E' Bs') a W
section rules
variable {P : Program} {ro : Option Nat} {d : List Deferred} {st : St} {Q : Exit → St → Prop}
theorem GW.mono {c : Code} {Q' : Exit → St → Prop} (h : GW P ro d c st Q) (hq : ∀ e s, Q e s → Q' e s) : GW P ro d c st Q' :=
  fun a W E Bs hd hr => wpIn_mono (h a W E Bs hd hr) fun e a' W' ⟨st', E', Bs', q, x⟩ => ⟨st', E', Bs', hq _ _ q, x⟩
theorem GW.skip (h : Q .normal st) : GW P ro d .skip st Q := fun a W E Bs hd hr => wpIn_skip ⟨st, E, Bs, h, hd, hr, Fut.refl _ _ _⟩
theorem GW.label {l : Nat} (h : Q .normal st) : GW P ro d (.label l) st Q := fun a W E Bs hd hr => wpIn_label ⟨st, E, Bs, h, hd, hr, Fut.refl _ _ _⟩
theorem GW.exit {id : Nat} (h : Q (.exit id) st) : GW P ro d (.exit id) st Q := fun a W E Bs hd hr => wpIn_exit ⟨st, E, Bs, h, hd, hr, Fut.refl _ _ _⟩
theorem GW.ret (h : Q .ret st) : GW P ro d .ret st Q := fun a W E Bs hd hr => wpIn_ret ⟨st, E, Bs, h, hd, hr, Fut.refl _ _ _⟩
/-- How a sequence goes on. -/
def Andthen (K : St → Prop) (Q : Exit → St → Prop) : Exit → St → Prop
  | .normal, s => K s
  | e, s => Q e s
theorem GW.seq {x y : Code} (h : GW P ro d x st (Andthen (fun s => GW P ro d y s Q) Q)) : GW P ro d (.seq x y) st Q := by
  intro a W E Bs hd hr
  refine wpIn_seq (wpIn_mono (h a W E Bs hd hr) ?_)
  rintro e a' W' ⟨st', E', Bs', q, hd', hr', hf⟩
  cases e with
  | normal => exact wpIn_mono (q a' W' E' Bs' hd' hr') fun e a'' W'' ⟨st'', E'', Bs'', q', hd'', hr'', hf'⟩ => ⟨st'', E'', Bs'', q', hd'', hr'', hf.trans hf'⟩
  | exit id => exact ⟨st', E', Bs', q, hd', hr', hf⟩
  | goto l => exact ⟨st', E', Bs', q, hd', hr', hf⟩
  | ret => exact ⟨st', E', Bs', q, hd', hr', hf⟩
  | panic ch => exact ⟨st', E', Bs', q, hd', hr', hf⟩
  | outgrown => exact ⟨st', E', Bs', q, hd', hr', hf⟩
/-- How a block is left. -/
def InBlk (id : Nat) (Q : Exit → St → Prop) : Exit → St → Prop
  | .exit id', s => if id' = id then Q .normal s else Q (.exit id') s
  | e, s => Q e s
theorem GW.block {id : Nat} {c : Code} (h : GW P ro d c st (InBlk id Q)) : GW P ro d (.block id c) st Q := by
  intro a W E Bs hd hr
  refine wpIn_block (wpIn_mono (h a W E Bs hd hr) ?_)
  rintro e a' W' ⟨st', E', Bs', q, hd', hr', hf⟩
  cases e with
  | exit id' =>
    simp only [InBlk] at q
    simp only [Exit.inBlock]
    split
    · rename_i he
      rw [if_pos he] at q
      exact ⟨st', E', Bs', q, hd', hr', hf⟩
    · rename_i he
      rw [if_neg he] at q
      exact ⟨st', E', Bs', q, hd', hr', hf⟩
  | normal => exact ⟨st', E', Bs', q, hd', hr', hf⟩
  | goto l => exact ⟨st', E', Bs', q, hd', hr', hf⟩
  | ret => exact ⟨st', E', Bs', q, hd', hr', hf⟩
  | panic ch => exact ⟨st', E', Bs', q, hd', hr', hf⟩
  | outgrown => exact ⟨st', E', Bs', q, hd', hr', hf⟩
theorem GW.loop {c : Code} (Inv : Nat → St → Prop) (m : Nat) (h₀ : Inv m st)
    (round : ∀ m s, Inv m s → GW P ro d c s (Andthen (fun s' => ∃ m', m' < m ∧ Inv m' s') Q)) : GW P ro d (.loop c) st Q := by
  intro a W E Bs hd hr b k cs hro hb hroom
  have key : ∀ n (a' : Act) (W' : World), (∃ s' E' Bs', Inv n s' ∧ a'.defers = d ∧ Rel s' a' W' E' Bs' ∧ Fut W E Bs W' E' Bs') →
      ∃ e a'' W'', (∃ st' E' Bs', Q e st' ∧ a''.defers = d ∧ Rel st' a'' W'' E' Bs' ∧ Fut W E Bs W'' E' Bs') ∧
        ArrivesIn (Machine.fenced P (Fw ro)) P (lone (b.atR a' (.code c :: .inLoop c :: k)) cs W') b k cs e a'' W'' := by
    intro n
    induction n using Nat.strongRecOn with
    | _ n ih =>
      rintro a' W' ⟨s', E', Bs', hinv, hd', hr', hf'⟩
      obtain ⟨e, a₁, w₁, ⟨st', E₁, Bs₁, q, hd₁, hr₁, hf₁⟩, harr⟩ := round n s' hinv a' W' E' Bs' hd' hr' b (.inLoop c :: k) cs hro hb hroom
      cases e with
      | normal =>
        obtain ⟨m₁, hlt, hinv₁⟩ := q
        obtain ⟨e₂, a₂, w₂, hq₂, harr₂⟩ := ih m₁ hlt a₁ w₁ ⟨st', E₁, Bs₁, hinv₁, hd₁, hr₁, hf'.trans hf₁⟩
        exact ⟨e₂, a₂, w₂, hq₂, .of_steps (StepsIn.trans harr (.one (fenced_calm hb hroom rfl) stepR_inLoop)) harr₂⟩
      | exit id => exact ⟨_, a₁, w₁, ⟨st', E₁, Bs₁, q, hd₁, hr₁, hf'.trans hf₁⟩, .pass (x := .inLoop c) rfl (fun _ _ => .inl (by simp)) harr⟩
      | goto l => exact ⟨_, a₁, w₁, ⟨st', E₁, Bs₁, q, hd₁, hr₁, hf'.trans hf₁⟩, .pass (x := .inLoop c) rfl (fun _ _ => .inl (by simp)) harr⟩
      | ret => exact ⟨_, a₁, w₁, ⟨st', E₁, Bs₁, q, hd₁, hr₁, hf'.trans hf₁⟩, .pass (x := .inLoop c) rfl (fun _ _ => .inl (by simp)) harr⟩
      | panic ch => exact ⟨_, a₁, w₁, ⟨st', E₁, Bs₁, q, hd₁, hr₁, hf'.trans hf₁⟩, .pass (x := .inLoop c) rfl (fun _ _ => .inl (by simp)) harr⟩
      | outgrown => exact ⟨_, a₁, w₁, ⟨st', E₁, Bs₁, q, hd₁, hr₁, hf'.trans hf₁⟩, .pass (x := .inLoop c) rfl (fun _ _ => .inl (by simp)) harr⟩
  obtain ⟨e, a', w', hq, harr⟩ := key m a W ⟨st, E, Bs, h₀, hd, hr, Fut.refl _ _ _⟩
  exact ⟨e, a', w', hq, .of_steps (.one (fenced_calm hb hroom rfl) stepR_loop) harr⟩
end rules
end Go.Proofs.Ytalcipbagidbpaa
end

section
set_option linter.unusedVariables false
namespace Go.Proofs.Ytalcipbagidbpaa
inductive TK where
  | int (k : IntKind) | bool | str | struct (fs : List (Nat × Nat)) | slice (e : TypeId) | array (n : Nat) (e : TypeId) | other
structure TI where
  size : Nat
  bytes : Nat
  zero : List GV
  kind : TK
  eq : Bool := false
def TI.agg (i : TI) : Bool := match i.kind with | .struct _ | .array _ _ => true | _ => false
abbrev Tab := TypeId → Option TI
def constS : Value → Option GV
  | .int k n => some (.int k n)
  | .bool b => some (.lit b)
  | .string s => some (.str s)
  | .pointer none => some .nilp
  | .slice none 0 0 => some .nils
  | .nilFunc => some .nilf
  | _ => none
def constL : List Value → Option (List GV)
  | [] => some []
  | v :: vs => match constS v, constL vs with
    | some g, some gs => some (g :: gs)
    | _, _ => none
def constGV : Value → Option GV
  | .agg cs => match constL cs.toList with | some gs => some (.agg gs) | none => none
  | .tuple ⟨[]⟩ => some (.tup [])
  | v => constS v
def geval (t : List GV) : Operand → Option GV
  | .tmp i => match t[i]? with | some (.at_ p off _ _) => some (.ptr p off) | r => r
  | .const v => constGV v
  | .func f => some (.fn f [])
  | .global _ => none
/-- The cells of a value. -/
def GV.cells : GV → List GV
  | .agg cs => cs
  | g => [g]
def GV.scalar : GV → Bool
  | .raw (.func _ _ _) => true
  | .agg _ | .tup _ | .raw _ | .any => false
  | _ => true
/-- A part that is laid into a literal, or boxed: no tuple, nothing unknown. -/
def GV.whole : GV → Bool
  | .raw (.func _ _ _) => true
  | .tup _ | .raw _ | .any => false
  | _ => true
def allP : List Prop → Prop
  | [] => True
  | [p] => p
  | p :: q :: ps => p ∧ allP (q :: ps)
def evs (ev : Operand → Option GV) : List Operand → Option (List GV)
  | [] => some []
  | x :: xs => match ev x, evs ev xs with
    | some g, some gs => some (g :: gs)
    | _, _ => none
/-- What an operation does. 'fp': the entries that it looks at, 'upd': the same positions behind it, 'new': new entries. -/
structure Dl where
  res : GV
  fp : List (Nat × Ent) := []
  upd : List (Nat × Ent) := []
  new : List Ent := []
  cons : List Prop := []
/-- What is told to the executor, for the temporary that an operation writes. -/
inductive Stp where
  | br (b : Bool)
  | tell (v : GV)
  | call (fp : List Nat) (res : GV) (upd new : List Ent)
  | ext (fp : List Nat) (res : GV)
  | code (e : Exit) (s : St)
/-- The value of a variable of type i at cells 'off ..' of cs. -/
def getAt (i : TI) (cs : List GV) (off : Nat) (q : Option Stp) : Option (GV × List Prop) :=
  match q with
  | some (.tell v) => match i.agg with
    | true => match v with
      | .agg vs => some (.agg vs, [vs.length = i.size, (cs.drop off).take i.size = vs])
      | _ => none
    | false => some (v, [cs[off]? = some v])
  | _ => match i.agg with
    | true => match Nat.ble (off + i.size) cs.length with
      | true => some (.agg ((cs.drop off).take i.size), [])
      | false => none
    | false => match cs[off]? with
      | some c => some (c, [])
      | none => none
def splice (cs : List GV) (off : Nat) (vs : List GV) : List GV := cs.take off ++ (vs ++ cs.drop (off + vs.length))
def gcmp (op : BinOp) (a b : Int) : Option GV :=
  match op with
  | .eql => some (.bool (a == b))
  | .neq => some (.bool (a != b))
  | .lss => some (.bool (decide (a < b)))
  | .leq => some (.bool (decide (a ≤ b)))
  | .gtr => some (.bool (decide (a > b)))
  | .geq => some (.bool (decide (a ≥ b)))
  | _ => none
def gint (op : BinOp) (k : IntKind) (a b : Int) : Option (GV × List Prop) :=
  match op with
  | .add => some (.int k (k.wrap (a + b)), [])
  | .sub => some (.int k (k.wrap (a - b)), [])
  | .mul => some (.int k (k.wrap (a * b)), [])
  | .quo => some (.int k (k.wrap (a.tdiv b)), [b ≠ 0])
  | .rem => some (.int k (a.tmod b), [b ≠ 0])
  | .and => some (.int k (k.wrap (BitVec.ofInt k.bits a &&& BitVec.ofInt k.bits b).toNat), [])
  | .or => some (.int k (k.wrap (BitVec.ofInt k.bits a ||| BitVec.ofInt k.bits b).toNat), [])
  | .xor => some (.int k (k.wrap (BitVec.ofInt k.bits a ^^^ BitVec.ofInt k.bits b).toNat), [])
  | .andNot => some (.int k (k.wrap (BitVec.ofInt k.bits a &&& ~~~ BitVec.ofInt k.bits b).toNat), [])
  | .shl | .shr => none
  | op => match gcmp op a b with | some g => some (g, []) | none => none
/-- The numbers of cells that are all ints. -/
def ints : List GV → Option (List Int)
  | [] => some []
  | .int .i64 n :: r => match ints r with | some l => some (n :: l) | none => none
  | _ => none
def asB : GV → Option Bool
  | .bool b => some b
  | .lit b => some b
  | _ => none
/-- Is it nil? -/
def gnil : GV → Option Bool
  | .nils => some true
  | .sl _ _ _ _ => some false
  | .im _ (_ :: _) => some false
  | _ => none
def gbin (op : BinOp) (i : Option TI) (x y : GV) : Option (GV × List Prop) :=
  match op, x, y with
  | .shl, .int k a, .int _ b => some (.int k (k.wrap (a * 2 ^ min b.toNat k.bits)), [0 ≤ b])
  | .shr, .int k a, .int _ b => some (.int k (a.fdiv (2 ^ min b.toNat k.bits)), [0 ≤ b])
  | op, .int k a, .int k' b => match decide (k = k') with | true => gint op k a b | false => none
  | .eql, .agg xs, .agg ys => match i with
    | some i => match i.eq, ints xs, ints ys with
      | true, some l, some m => match Nat.beq l.length i.size && Nat.beq m.length i.size with
        | true => some (.bool (decide (l = m)), [])
        | false => none
      | _, _, _ => none
    | none => none
  | .neq, .agg xs, .agg ys => match i with
    | some i => match i.eq, ints xs, ints ys with
      | true, some l, some m => match Nat.beq l.length i.size && Nat.beq m.length i.size with
        | true => some (.bool (!decide (l = m)), [])
        | false => none
      | _, _, _ => none
    | none => none
  | .eql, .str s, .str u => some (.bool (s.toList == u.toList), [])
  | .neq, .str s, .str u => some (.bool (!(s.toList == u.toList)), [])
  | op, x, y => match i with
    | some i => match i.kind with
      | .bool => match op, asB x, asB y with
        | .eql, some b, some c => some (.bool (b == c), [])
        | .neq, some b, some c => some (.bool (!(b == c)), [])
        | _, _, _ => none
      | .slice e => match op, gnil x, y with
        | .eql, some b, .nils => some (.lit b, [])
        | .neq, some b, .nils => some (.lit (!b), [])
        | _, _, _ => none
      | _ => none
    | none => none
def gun (op : UnOp) (x : GV) : Option GV :=
  match op, x with
  | .not, .bool b => some (.bool !b)
  | .not, .lit b => some (.lit !b)
  | .neg, .int k a => some (.int k (k.wrap (0 - a)))
  | _, _ => none
/-- 'fill' over ghost cells. -/
def gfill (place : Nat → Option (Nat × Nat)) (cells : List GV) : List (Nat × GV) → Option (List GV)
  | [] => some cells
  | (i, g) :: rest => match place i with
    | none => none
    | some (off, size) => match Nat.beq g.cells.length size && Nat.ble (off + size) cells.length with
      | true => gfill place (splice cells off g.cells) rest
      | false => none
def gparts (ev : Operand → Option GV) : List (Nat × Operand) → Option (List (Nat × GV))
  | [] => some []
  | (i, x) :: ps => match ev x, gparts ev ps with
    | some g, some gs => match g.whole with
      | true => some ((i, g) :: gs)
      | false => none
    | _, _ => none
def repeatL (n : Nat) (z : List GV) : List GV := match n with | 0 => [] | n + 1 => z ++ repeatL n z
def glen : GV → Option Int
  | .nils => some 0
  | .sl _ _ len _ => some (len : Int)
  | .slc _ _ len _ _ _ => some (len : Int)
  | .im len _ => some (len : Int)
  | .ol _ len _ => some (len : Int)
  | _ => none
/-- What 'append' copies: the elements' cells, their number; the entry that it reads. -/
def gsrc (hh : Nat → Option Ent) (es : Nat) : GV → Option (List GV × Nat × List (Nat × Ent) × List Prop)
  | .nils => some ([], 0, [], [])
  | .im len cs => some (cs, len, [], [cs.length = len * es])
  | .sl p off len es' => match Nat.beq es es', hh p with
    | true, some (.blk cs ty) => some ((cs.drop off).take (len * es), len, [(p, .blk cs ty)], [off + len * es ≤ cs.length])
    | _, _ => none
  | _ => none
def noKey (p : Nat) : List (Nat × Ent) → Bool
  | [] => true
  | q :: qs => !(Nat.beq q.1 p) && noKey p qs
theorem noKey_spec {p : Nat} : ∀ {fpx : List (Nat × Ent)}, noKey p fpx = true → ∀ q ∈ fpx, q.1 ≠ p
  | [], _, q, h => by simp at h
  | x :: xs, hb, q, h => by
    simp only [noKey, Bool.and_eq_true, Bool.not_eq_true'] at hb
    rcases List.mem_cons.1 h with rfl | h
    · intro e; rw [e, Nat.beq_refl] at hb; simp at hb
    · exact noKey_spec hb.2 q h
/-- The largest number of elements that an append may come to. -/
def room : Nat := 2 ^ 30
def gappend (hh : Nat → Option Ent) (base : Nat) (e : TypeId) (es bytes : Nat) (s x : GV) : Option Dl :=
  match gsrc hh es x with
  | none => none
  | some (new, m, fpx, cx) => match s with
    | .nils => match m with
      | 0 => some { res := .nils, fp := fpx, upd := fpx, cons := cx }
      | m + 1 => some { res := .sl base 0 (m + 1) es, fp := fpx, upd := fpx, new := [.blk new e], cons := allP cx :: [m + 1 ≤ room, new.all GV.scalar = true, 0 < es ∧ bytes ≤ 65536] }
    | .sl p 0 len es' => match Nat.beq es es', hh p with
      | true, some (.blk cs ty) => some { res := .sl base 0 (len + m) es, fp := (p, .blk cs ty) :: fpx, upd := (p, .emp) :: fpx, new := [.blk (cs.take (len * es) ++ new) e], cons := allP cx :: [ty = e, len * es ≤ cs.length, len + m ≤ room, new.all GV.scalar = true, noKey p fpx = true, 0 < es ∧ bytes ≤ 65536] }
      | _, _ => none
    | .ol p len es' => match Nat.beq es es', hh p with
      | true, some (.ob cs ty) => some { res := .ol base (len + m) es, fp := (p, .ob cs ty) :: fpx, upd := (p, .emp) :: fpx, new := [.ob (cs.take (len * es) ++ new) e], cons := allP cx :: [ty = e, cs.length = len * es, len + m ≤ room, new.all GV.scalar = true, noKey p fpx = true, 0 < es ∧ bytes ≤ 65536] }
      | _, _ => none
    | _ => none
/-- 'append(s, make(.., k)..)' where s has no room. -/
def gappz (hh : Nat → Option Ent) (base : Nat) (e : TypeId) (es bytes : Nat) (zero : List GV) (s : GV) (k : Int) : Option Dl :=
  match s with
  | .slc p off len es' b z => match Nat.beq es es', hh p with
    | true, some (.blk cs ty) => some { res := .sl base 0 (len + k.toNat) es, fp := [(p, .blk cs ty)], upd := [(p, .blk cs ty)], new := [.blk ((cs.drop off).take (len * es) ++ repeatL k.toNat zero) e], cons := [0 < k, (z - off) / es < len + k.toNat, off + len * es ≤ cs.length, len + k.toNat ≤ room, 0 < es ∧ bytes ≤ 65536] }
    | _, _ => none
  | _ => none
/-- Where a slice of an own block lies. -/
def asSl : GV → Option (Nat × Nat × Nat × Nat)
  | .sl p off len es => some (p, off, len, es)
  | .slc p off len es _ _ => some (p, off, len, es)
  | _ => none
/-- 'copy': within one own block, or into one out of cells that nobody writes. -/
def gcopy (hh : Nat → Option Ent) (es : Nat) (d s : GV) : Option Dl :=
  match asSl d with
  | some (p, off, len, es') => match Nat.beq es es', hh p with
    | true, some (.blk cs ty) => match asSl s with
      | some (q, off2, len2, es2) => match Nat.beq p q, Nat.beq es es2 with
        | true, true => some { res := .any, fp := [(p, .blk cs ty)], upd := [(p, .blk (splice cs off ((cs.drop off2).take (min len2 len * es))) ty)], cons := [off ≤ cs.length, off2 + min len2 len * es ≤ cs.length, ((cs.drop off2).take (min len2 len * es)).all GV.scalar = true] }
        | _, _ => none
      | none => match s with
        | .im len2 cs2 => some { res := .any, fp := [(p, .blk cs ty)], upd := [(p, .blk (splice cs off (cs2.take (min len2 len * es))) ty)], cons := [off ≤ cs.length, cs2.length = len2 * es, (cs2.take (min len2 len * es)).all GV.scalar = true] }
        | _ => none
    | _, _ => none
  | none => none
def gbound (x : Option GV) (dflt : Nat) : Option (Int × Bool) :=
  match x with
  | none => some ((dflt : Int), false)
  | some (.int _ n) => some (n, true)
  | _ => none
def gslice (es : Nat) (x : GV) (lo hi : Option GV) : Option (GV × List Prop) :=
  match x with
  | .sl p off len es' => match Nat.beq es es', gbound lo 0, gbound hi len with
    | true, some (l, false), some (h, _) => some (.sl p off h.toNat es, [0 ≤ h ∧ h ≤ len])
    | true, some (l, true), some (h, _) => some (.sl p (off + l.toNat * es) (h - l).toNat es, [0 ≤ l ∧ l < h ∧ h ≤ len])
    | _, _, _ => none
  | .slc p off len es' b z => match Nat.beq es es', gbound lo 0, gbound hi len with
    | true, some (l, false), some (h, hb) => some (.slc p off h.toNat es b z, [0 ≤ h, match hb with | true => h.toNat ≤ len ∨ (h.toNat ≤ (z - off) / es ∧ 0 < es) | false => True])
    | true, some (l, true), some (h, hb) => some (.slc p (off + l.toNat * es) (h - l).toNat es b z, [0 ≤ l ∧ l < h, match hb with | true => h.toNat ≤ len ∨ (h.toNat ≤ (z - off) / es ∧ 0 < es) | false => True])
    | _, _, _ => none
  | .ol p len es' => match gbound lo 0, gbound hi len with
    | some (l, _), some (h, _) => some (.any, [0 ≤ l ∧ l ≤ h ∧ h ≤ len])
    | _, _ => none
  | .im len cs => match gbound lo 0, gbound hi len with
    | some (l, _), some (h, _) => some (.im (h - l).toNat ((cs.drop (l.toNat * es)).take ((h - l).toNat * es)), [0 ≤ l ∧ l ≤ h ∧ h ≤ len, cs.length = len * es])
    | _, _ => none
  | .nils => match gbound lo 0, gbound hi 0 with
    | some (l, _), some (h, _) => some (.nils, [l = 0 ∧ h = 0])
    | _, _ => none
  | _ => none
/-- The type of bools: a variable of this type is told to a callee without what is known of its value. -/
def boolTy (ty : TypeId) : Bool := match ty with | 4 => true | _ => false
def litC : GV → GV
  | .lit b => .bool b
  | .at_ p off _ _ => .ptr p off
  | g => g
def litL : List GV → List GV
  | [] => []
  | g :: gs => litC g :: litL gs
def litG : GV → GV
  | .lit b => .bool b
  | .at_ p off _ _ => .ptr p off
  | .slc p off len es _ _ => .sl p off len es
  | .fn f cs => .fn f (litL cs)
  | g => g
def litA : List GV → List GV
  | [] => []
  | g :: gs => litG g :: litA gs
def litE : Ent → Ent
  | .blk cs ty => match boolTy ty with | true => .blk (litL cs) ty | false => .blk cs ty
  | e => e
def litF : List (Nat × Ent) → List (Nat × Ent)
  | [] => []
  | q :: qs => (q.1, litE q.2) :: litF qs
/-- That a function can be called, and what it does with a state's entries: as its caller sees it. -/
structure CallSem (P : Program) (f : FuncId) (args : List GV) (fp : List (Nat × Ent)) (base : Nat) (res : GV) (upd : List (Nat × Ent)) (new : List Ent) : Prop where
  at_ : ∃ fn, P.funcs[f]? = some fn ∧ fn.body.isSome = true ∧ (fn.name == "runtime.NumGoroutine") = false
  run : ∀ (W : World) (E : Env) (Bs : Nat → Nat → Prop) (vs : Array Value),
    args.length = vs.size → (∀ (j : Nat) (g : GV) (v : Value), args[j]? = some g → vs[j]? = some v → R W E g v) → Pre W E Bs fp →
    (∀ p, base ≤ p → p < base + new.length → ¬ E.ok p) →
    Calls P f vs W fun e W' => ∃ v E' Bs', e = .returned v ∧ R W' E' res v ∧ Post W E Bs W' E' Bs' upd base new
/-- .. and of a call of a range statement's yield. -/
structure RoundSem (P : Program) (l : Nat) (args : List GV) (fp : List (Nat × Ent)) (base : Nat) (res : GV) (upd : List (Nat × Ent)) (new : List Ent) : Prop where
  run : ∀ (W : World) (E : Env) (Bs : Nat → Nat → Prop) (vs : Array Value),
    args.length = vs.size → (∀ (j : Nat) (g : GV) (v : Value), args[j]? = some g → vs[j]? = some v → R W E g v) → Pre W E Bs fp →
    (∀ p, base ≤ p → p < base + new.length → ¬ E.ok p) →
    ∃ fn tmps assign body, (Instr.yield l vs).run P W = .ok (.round l fn tmps assign body) W ∧
      RoundIn (Fw none) 0 P l fn tmps assign body W fun e W' => ∃ v E' Bs', e = .returned v ∧ R W' E' res v ∧ Post W E Bs W' E' Bs' upd base new
/-- A call of a function without a body, that changes nothing. -/
structure ExtSem (P : Program) (f : FuncId) (args : List GV) (fp : List (Nat × Ent)) (res : GV) : Prop where
  run : ∀ (W : World) (E : Env) (Bs : Nat → Nat → Prop) (vs : Array Value),
    args.length = vs.size → (∀ (j : Nat) (g : GV) (v : Value), args[j]? = some g → vs[j]? = some v → R W E g v) → Pre W E Bs fp →
    ∃ v, (callFunc f vs).run P W = .ok (.value v) W ∧ R W E res v
def yieldOf : GV → Option Nat
  | .raw (.func (.yield l) ⟨[]⟩ ⟨[]⟩) => some l
  | _ => none
def lookups (hh : Nat → Option Ent) : List Nat → Option (List (Nat × Ent))
  | [] => some []
  | p :: ps => match hh p, lookups hh ps with
    | some e, some r => some ((p, e) :: r)
    | _, _ => none
def nodupB : List Nat → Bool
  | [] => true
  | p :: ps => (ps.all fun q => !(Nat.beq p q)) && nodupB ps
def gyield (P : Program) (hh : Nat → Option Ent) (base : Nat) (q : Option Stp) (l : Nat) (args : List GV) : Option Dl :=
  match q with
  | some (.call ps res upd new) => match lookups hh ps, (Nat.beq ps.length upd.length && nodupB ps) with
    | some fp, true => some { res := res, fp := fp, upd := ps.zip upd, new := new, cons := [RoundSem P l (litA args) (litF fp) base res (ps.zip upd) new] }
    | _, _ => none
  | _ => none
def gmax (k : IntKind) (a : Int) : List GV → Option GV
  | [] => some (.int k a)
  | .int k' b :: r => match decide (k = k') with | true => gmax k (if b > a then b else a) r | false => none
  | _ => none
def gmin (k : IntKind) (a : Int) : List GV → Option GV
  | [] => some (.int k a)
  | .int k' b :: r => match decide (k = k') with | true => gmin k (if b < a then b else a) r | false => none
  | _ => none
def gcall (P : Program) (T : Tab) (ev : Operand → Option GV) (hh : Nat → Option Ent) (base : Nat) (q : Option Stp) (c : Call) : Option Dl :=
  match c.callee with
  | .value f => match ev f, evs ev c.args.toList with
    | some (.fn f caps), some args => match q with
      | some (.call ps res upd new) => match lookups hh ps, (Nat.beq ps.length upd.length && nodupB ps) with
        | some fp, true => some { res := res, fp := fp, upd := ps.zip upd, new := new, cons := [CallSem P f (litA (args ++ caps)) (litF fp) base res (ps.zip upd) new] }
        | _, _ => none
      | some (.tell res) => some { res := res, cons := [CallSem P f (litA (args ++ caps)) (litF []) base res [] []] }
      | some (.ext ps res) => match lookups hh ps, nodupB ps with
        | some fp, true => some { res := res, fp := fp, upd := fp, cons := [ExtSem P f (litA (args ++ caps)) (litF fp) res] }
        | _, _ => none
      | _ => none
    | some g, some args => match yieldOf g with
      | some l => gyield P hh base q l args
      | none => none
    | _, _ => none
  | .builtin .len => match evs ev c.args.toList, c.argTypes.toList with
    | some [x], [t] => match T t with
      | some i => match i.kind, x with
        | .str, .str s => some { res := .int .i64 (s.size : Int) }
        | .slice _, x => match glen x with | some n => some { res := .int .i64 n } | none => none
        | _, _ => none
      | none => none
    | _, _ => none
  | .builtin .max => match evs ev c.args.toList with
    | some (.int k a :: r) => match gmax k a r with | some g => some { res := g } | none => none
    | _ => none
  | .builtin .min => match evs ev c.args.toList with
    | some (.int k a :: r) => match gmin k a r with | some g => some { res := g } | none => none
    | _ => none
  | .builtin .append => match evs ev c.args.toList, c.argTypes.toList with
    | some [s, x], [t, t'] => match Nat.beq t t', T t with
      | true, some i => match i.kind with
        | .slice e => match T e with
          | some ie => gappend hh base e ie.size ie.bytes s x
          | none => none
        | _ => none
      | false, some i => match T t', x with
        | some i', .int .i64 k => match i.kind, i'.kind with
          | .slice e, .int _ => match T e with
            | some ie => gappz hh base e ie.size ie.bytes ie.zero s k
            | none => none
          | _, _ => none
        | _, _ => none
      | _, _ => none
    | _, _ => none
  | .builtin .cap => match evs ev c.args.toList, c.argTypes.toList with
    | some [.slc p off len es b z], [t] => match T t with
      | some i => match i.kind with
        | .slice _ => some { res := .int .i64 (((z - off) / es : Nat) : Int), cons := [0 < es] }
        | _ => none
      | none => none
    | _, _ => none
  | .builtin .copy => match evs ev c.args.toList, c.argTypes.toList with
    | some [d, s], [t, t'] => match T t with
      | some i => match i.kind with
        | .slice e => match T e with
          | some ie => gcopy hh ie.size d s
          | none => none
        | _ => none
      | none => none
    | _, _ => none
  | _ => none
def ostep (P : Program) (T : Tab) (ev : Operand → Option GV) (hh : Nat → Option Ent) (base : Nat) (q : Option Stp) (o : Oper) : Option Dl :=
  match o.op with
  | .move x | .assign x => match ev x with | some g => some { res := g } | none => none
  | .pick c a b => match ev c with
    | some (.lit true) => match ev a with | some g => some { res := g } | none => none
    | some (.lit false) => match ev b with | some g => some { res := g } | none => none
    | some (.bool cb) => match ev a, ev b with
      | some (.bool x), some (.bool y) => some { res := .bool (bif cb then x else y) }
      | some (.lit x), some (.bool y) => some { res := .bool (bif cb then x else y) }
      | some (.bool x), some (.lit y) => some { res := .bool (bif cb then x else y) }
      | some (.lit x), some (.lit y) => some { res := .bool (bif cb then x else y) }
      | _, _ => none
    | _ => none
  | .alloc ty => match T ty with
    | some i => some { res := .ptr base 0, new := [.blk i.zero ty] }
    | none => none
  | .box ty x => match ev x with
    | some g => match g.whole with
      | true => some { res := .ptr base 0, new := [.blk g.cells ty] }
      | false => none
    | none => none
  | .build t ps => match T t, gparts ev ps.toList with
    | some i, some gs => match i.kind with
      | .struct fs => match gfill (fun j => match fs[j]? with | some (o, ty) => (match T ty with | some f => some (o, f.size) | none => none) | none => none) i.zero gs with
        | some cs => some { res := .agg cs }
        | none => none
      | .array n e => match T e with
        | some ie => match gfill (fun j => some (j * ie.size, ie.size)) i.zero gs with
          | some cs => some { res := .agg cs }
          | none => none
        | none => none
      | _ => none
    | _, _ => none
  | .buildSlice t len ps => match T t, gparts ev ps.toList with
    | some i, some gs => match i.kind with
      | .slice e => match T e with
        | some ie => match gfill (fun j => some (j * ie.size, ie.size)) (repeatL len ie.zero) gs, (Nat.ble (len * ie.size) 100000 && Nat.ble len 100000) with
          | some cs, true => some { res := .sl base 0 len ie.size, new := [.blk cs e] }
          | _, _ => none
        | none => none
      | _ => none
    | _, _ => none
  | .load t x => match T t, ev x with
    | some i, some (.ptr p off) => match hh p with
      | some (.blk cs ty) => match getAt i cs off q with
        | some (g, cons) => some { res := g, fp := [(p, .blk cs ty)], upd := [(p, .blk cs ty)], cons := cons }
        | none => none
      | some (.ob cs ty) => match getAt i cs off q with
        | some (g, cons) => some { res := g, fp := [(p, .ob cs ty)], upd := [(p, .ob cs ty)], cons := (cs ≠ []) :: cons }
        | none => none
      | _ => none
    | some i, some (.eptr cs) => match getAt i cs 0 q with
      | some (g, cons) => some { res := g, cons := cons }
      | none => none
    | _, _ => none
  | .store t x y => match T t, ev x, ev y with
    | some i, some (.ptr p off), some g => match hh p with
      | some (.blk cs ty) => some { res := .tup [], fp := [(p, .blk cs ty)], upd := [(p, .blk (splice cs off g.cells) ty)], cons := [g.cells.length = i.size, g.cells.all GV.scalar = true, off + i.size ≤ cs.length] }
      | some (.ob cs ty) => some { res := .tup [], fp := [(p, .ob cs ty)], upd := [(p, .ob (splice cs off g.cells) ty)], cons := [g.cells.length = i.size, g.cells.all GV.scalar = true, off + i.size ≤ cs.length, cs ≠ []] }
      | _ => none
    | _, _, _ => none
  | .nilCheck x => match ev x with
    | some (.ptr p off) => some { res := .ptr p off }
    | some (.eptr cs) => some { res := .eptr cs }
    | _ => none
  | .binOp op xt x y _ => match ev x, ev y with
    | some g, some g' => match gbin op (T xt) g g' with | some (r, cons) => some { res := r, cons := cons } | none => none
    | _, _ => none
  | .unOp op _ x => match ev x with
    | some g => match gun op g with | some r => some { res := r } | none => none
    | none => none
  | .convert src dst x => match T src, T dst, ev x with
    | some i, some j, some (.int k n) => match i.kind, j.kind with
      | .int _, .int k' => some { res := .int k' (k'.wrap n) }
      | _, _ => none
    | _, _, _ => none
  | .makeFunc (.func f) ⟨[]⟩ caps => match evs ev caps.toList with
    | some gs => some { res := .fn f gs }
    | none => none
  | .slice t x lo hi none => match T t, ev x with
    | some i, some g => match i.kind with
      | .slice e => match T e with
        | some ie =>
          let lo' := match lo with | none => some none | some y => (match ev y with | some g => some (some g) | none => none)
          let hi' := match hi with | none => some none | some y => (match ev y with | some g => some (some g) | none => none)
          match lo', hi' with
          | some l, some h => match gslice ie.size g l h with | some (r, cons) => some { res := r, cons := cons } | none => none
          | _, _ => none
        | none => none
      | _ => none
    | _, _ => none
  | .fieldAddr t x f => match T t, ev x with
    | some i, some g => match i.kind with
      | .struct fs => match fs[f]? with
        | some (o, ty) => match T ty with
          | some fi => match Nat.ble 1 fi.size, g with
            | true, .ptr p off => some { res := .ptr p (off + o) }
            | true, .eptr cs => some { res := .eptr (cs.drop o) }
            | _, _ => none
          | none => none
        | none => none
      | _ => none
    | _, _ => none
  | .field t x f => match T t, ev x with
    | some i, some (.agg cs) => match i.kind with
      | .struct fs => match fs[f]? with
        | some (o, ty) => match T ty with
          | some fi => match getAt fi cs o q with | some (g, cons) => some { res := g, cons := cons } | none => none
          | none => none
        | none => none
      | _ => none
    | _, _ => none
  | .indexAddr t x ix => match T t, ev x, ev ix with
    | some i, some g, some (.int _ n) => match i.kind with
      | .slice e => match T e with
        | some ie => match g with
          | .sl p off len es => match Nat.beq es ie.size with
            | true => some { res := .ptr p (off + n.toNat * es), cons := [0 ≤ n ∧ n < len] }
            | false => none
          | .slc p off len es _ _ => match Nat.beq es ie.size with
            | true => some { res := .ptr p (off + n.toNat * es), cons := [0 ≤ n ∧ n < len] }
            | false => none
          | .ol p len es => match Nat.beq es ie.size with
            | true => some { res := .ptr p (0 + n.toNat * es), cons := [0 ≤ n ∧ n < len] }
            | false => none
          | .im len cs => some { res := .eptr (cs.drop (n.toNat * ie.size)), cons := [0 ≤ n ∧ n < len, cs.length = len * ie.size] }
          | _ => none
        | none => none
      | .array len e => match T e with
        | some ie => match g with
          | .ptr p off => some { res := .ptr p (off + n.toNat * ie.size), cons := [0 ≤ n ∧ n < len] }
          | _ => none
        | none => none
      | _ => none
    | _, _, _ => none
  | .index t x ix => match T t, ev x, ev ix with
    | some i, some (.agg cs), some (.int _ n) => match i.kind with
      | .array len e => match T e with
        | some ie => match getAt ie cs (n.toNat * ie.size) q with
          | some (g, cons) => some { res := g, cons := (0 ≤ n ∧ n < len) :: cons }
          | none => none
        | none => none
      | _ => none
    | _, _, _ => none
  | .extract x j => match ev x with
    | some (.tup vs) => match vs[j]? with | some g => some { res := g } | none => none
    | _ => none
  | .call c => gcall P T ev hh base q c
  | _ => none
end Go.Proofs.Ytalcipbagidbpaa
end

section
set_option linter.unusedVariables false
namespace Go.Proofs.Ytalcipbagidbpaa
def putB (Bs : Nat → Nat → Prop) (b : Nat) (S : Nat → Prop) : Nat → Nat → Prop := fun p => if p = b then S else Bs p
theorem putB_same {Bs : Nat → Nat → Prop} {b : Nat} {S : Nat → Prop} : putB Bs b S b = S := by simp [putB]
theorem putB_ne {Bs : Nat → Nat → Prop} {b p : Nat} {S : Nat → Prop} (h : p ≠ b) : putB Bs b S p = Bs p := by simp [putB, h]
def Env.add (E : Env) (b blk tot : Nat) : Env :=
  { I := E.I, ok := fun p => E.ok p ∨ p = b, bk := fun p => if p = b then blk else E.bk p, tot := fun p => if p = b then tot else E.tot p }
theorem Later.add {W W' : World} {E : Env} {b blk tot : Nat} (hb : ¬ E.ok b) (hI : ∀ k, E.I k → W'.heap[k]? = W.heap[k]?) : Later W E W' (E.add b blk tot) :=
  ⟨fun _ h => h, hI, fun _ h => .inl h, fun p hp => by simp only [Env.add]; rw [if_neg (fun e : p = b => hb (e ▸ hp))], fun p hp => by simp only [Env.add]; rw [if_neg (fun e : p = b => hb (e ▸ hp))]⟩
section
variable {W : World} {E : Env} {Bs : Nat → Nat → Prop} {fp : List (Nat × Ent)}
theorem Post.read (h : Pre W E Bs fp) (base : Nat) : Post W E Bs W E Bs fp base [] where
  size := Nat.le_refl _
  os := rfl
  tape := rfl
  output := rfl
  keep _ _ _ := rfl
  Isub _ h := h
  Inew _ h := .inl h
  Ilt := h.Ilt
  ok _ h := ⟨h, rfl, rfl⟩
  okn _ h := .inl h
  ent := h.ent
  entn j e he := by simp at he
  own p k hp hb := by
    rcases hp with ⟨e, he⟩ | hp
    · exact ⟨.inl ⟨p, e, he, hb⟩, (h.notI p e k he hb).2, (h.notI p e k he hb).1⟩
    · simp at hp; omega
  disj p q k hp hq hne hb hb' := by
    rcases hp with ⟨e, he⟩ | hp
    · rcases hq with ⟨e', he'⟩ | hq
      · exact h.disj p e q e' k he he' hne hb hb'
      · simp at hq; omega
    · simp at hp; omega
  same _ _ _ := rfl
theorem heap_alloc_lt (W : World) (o : Obj) {k : Nat} (h : k < W.heap.size) : (W.alloc o).heap[k]? = W.heap[k]? := by
  simp only [World.alloc, Array.getElem?_push]
  rw [if_neg (by omega)]
theorem heap_alloc_new (W : World) (o : Obj) : (W.alloc o).heap[W.heap.size]? = some o := by simp only [World.alloc, Array.getElem?_push, if_true]
/-- A new block. -/
theorem Post.alloc (h : Pre W E Bs fp) {base : Nat} (hok : ¬ E.ok base) (hb : ∀ e, (base, e) ∉ fp) (arr : Array Value) (ty : TypeId) (cs : List GV) (hl : cs.length ≤ arr.size)
    (hR : ∀ (j : Nat) (c : GV), cs[j]? = some c → ∃ v, arr[j]? = some v ∧ R W E c v) :
    Post W E Bs (W.alloc (.cells arr ty)) (E.add base W.heap.size arr.size) (putB Bs base (· = W.heap.size)) fp base [.blk cs ty] := by
  have hL : Later W E (W.alloc (.cells arr ty)) (E.add base W.heap.size arr.size) := .add hok fun k hk => heap_alloc_lt W _ (h.Ilt k hk)
  have hne : ∀ p e, (p, e) ∈ fp → p ≠ base := fun p e he hp => hb e (hp ▸ he)
  refine ⟨by simp, rfl, rfl, rfl, fun k hk _ => heap_alloc_lt W _ hk, fun _ h => h, fun _ h => .inl h, fun k hk => by have := h.Ilt k hk; simp; omega,
    fun p hp => ⟨hL.ok p hp, hL.bk p hp, hL.tot p hp⟩, ?_, ?_, ?_, ?_, ?_, ?_⟩
  · rintro p (hp | rfl)
    · exact .inl hp
    · exact .inr ⟨Nat.le_refl _, by simp⟩
  · intro p e he
    rw [putB_ne (hne p e he)]
    exact (h.ent p e he).later hL fun k hk => heap_alloc_lt W _ (h.notI p e k he hk).2
  · intro j e he
    obtain ⟨rfl, rfl⟩ : j = 0 ∧ e = .blk cs ty := by
      cases j with
      | zero => simp at he; exact ⟨rfl, he.symm⟩
      | succ j => simp at he
    rw [Nat.add_zero, putB_same]
    refine ⟨.inr rfl, fun k => by simp [Env.add], arr, by simp only [Env.add, if_true]; exact heap_alloc_new _ _, by simp [Env.add], hl, fun j c hj => ?_⟩
    obtain ⟨v, hv, hr⟩ := hR j c hj
    exact ⟨v, hv, hr.later hL⟩
  · intro p k hp hk
    by_cases hpb : p = base
    · subst hpb
      rw [putB_same] at hk
      subst hk
      exact ⟨.inr (Nat.le_refl _), by simp, fun hI => Nat.lt_irrefl _ (h.Ilt _ hI)⟩
    · rw [putB_ne hpb] at hk
      rcases hp with ⟨e, he⟩ | hp
      · have := h.notI p e k he hk
        exact ⟨.inl ⟨p, e, he, hk⟩, by simp; omega, this.1⟩
      · simp at hp; omega
  · intro p q k hp hq hpq hk hk'
    have other : ∀ r, ((∃ e, (r, e) ∈ fp) ∨ (base ≤ r ∧ r < base + [Ent.blk cs ty].length)) → r ≠ base → putB Bs base (· = W.heap.size) r k → k < W.heap.size := by
      intro r hr hrb hk
      rw [putB_ne hrb] at hk
      rcases hr with ⟨e, he⟩ | hr
      · exact (h.notI r e k he hk).2
      · simp at hr; omega
    by_cases hpb : p = base
    · subst hpb
      rw [putB_same] at hk
      have := other q hq (Ne.symm hpq) hk'
      omega
    · by_cases hqb : q = base
      · subst hqb
        rw [putB_same] at hk'
        have := other p hp hpb hk
        omega
      · rw [putB_ne hpb] at hk
        rw [putB_ne hqb] at hk'
        rcases hp with ⟨e, he⟩ | hp
        · rcases hq with ⟨e', he'⟩ | hq
          · exact h.disj p e q e' k he he' hpq hk hk'
          · simp at hq; omega
        · simp at hp; omega
  · intro p hp hn
    exact putB_ne fun e => hn ⟨by omega, by simp; omega⟩
/-- A store into an own block. -/
theorem Post.store {p : Nat} {cs cs' : List GV} {ty : TypeId} (h : Pre W E Bs [(p, .blk cs ty)]) (base : Nat) (arr arr' : Array Value)
    (harr : W.heap[E.bk p]? = some (.cells arr ty (0, 0))) (hs : arr'.size = arr.size) (hl : cs'.length ≤ arr'.size)
    (hR : ∀ (j : Nat) (c : GV), cs'[j]? = some c → ∃ v, arr'[j]? = some v ∧ R W E c v) :
    Post W E Bs (W.setRow (E.bk p) arr') E Bs [(p, .blk cs' ty)] base [] := by
  obtain ⟨hok, hB, arr0, ha, ht, hl0, hc0⟩ := h.ent p (.blk cs ty) (by simp)
  have hbk : Bs p (E.bk p) := (hB _).2 rfl
  have hI : ¬ E.I (E.bk p) := (h.notI p (.blk cs ty) _ (by simp) hbk).1
  have hlt : E.bk p < W.heap.size := (h.notI p (.blk cs ty) _ (by simp) hbk).2
  have hoth : ∀ k, k ≠ E.bk p → (W.setRow (E.bk p) arr').heap[k]? = W.heap[k]? := fun k hk => setRow_other W _ k _ hk
  have hL : Later W E (W.setRow (E.bk p) arr') E := ⟨fun _ h => h, fun k hk => hoth k fun e => hI (e ▸ hk), fun _ h => h, fun _ _ => rfl, fun _ _ => rfl⟩
  have hsz : (W.setRow (E.bk p) arr').heap.size = W.heap.size := size_setRow W _ _
  refine ⟨by rw [hsz]; exact Nat.le_refl _, rfl, rfl, rfl, fun k _ hn => hoth k fun e => hn p (.blk cs' ty) (by simp) (e ▸ hbk), fun _ h => h, fun _ h => .inl h, fun k hk => by rw [hsz]; exact h.Ilt k hk,
    fun p hp => ⟨hp, rfl, rfl⟩, fun _ h => .inl h, ?_, fun j e he => by simp at he, ?_, ?_, fun _ _ _ => rfl⟩
  · intro q e he
    simp at he
    obtain ⟨rfl, rfl⟩ := he
    refine ⟨hok, hB, arr', setRow_heap W _ arr _ ty _ harr, ?_, hl, fun j c hj => ?_⟩
    · rw [hs, ← ht]
      rw [ha] at harr
      injection harr with harr
      injection harr with harr
      rw [harr]
    · obtain ⟨v, hv, hr⟩ := hR j c hj
      exact ⟨v, hv, hr.later hL⟩
  · intro q k hq hk
    rcases hq with ⟨e, he⟩ | hq
    · simp at he
      obtain ⟨rfl, -⟩ := he
      exact ⟨.inl ⟨q, .blk cs' ty, by simp, hk⟩, by rw [hsz]; exact (h.notI q (.blk cs ty) k (by simp) hk).2, (h.notI q (.blk cs ty) k (by simp) hk).1⟩
    · simp at hq; omega
  · intro q r k hq hr hne _ _
    rcases hq with ⟨e, he⟩ | hq
    · rcases hr with ⟨e', he'⟩ | hr
      · simp at he he'
        exact hne (he.1.trans he'.1.symm)
      · simp at hr; omega
    · simp at hq; omega
end
/-! ### The operation's weakest precondition, from its run -/
section
variable {P : Program} {ro : Option Nat} {o : Oper} {a : Act} {W : World} {K : Act → World → Prop} {Q : Exit → Act → World → Prop}
theorem wp_val {v : Value} {W' : World} (hd : ∀ c, o.op ≠ .defer c) (h : (execOp a.eval o).run P W = .ok (.value v) W') (hK : K (a.put o.dst v) W') : o.wpIn (Fw ro) 0 P a W K Q := by
  refine ⟨fun _ _ => trivial, ?_⟩
  rw [Oper.semAt_eq _ _ _ hd, h]
  exact hK
theorem wp_skip_ {W' : World} (hd : ∀ c, o.op ≠ .defer c) (h : (execOp a.eval o).run P W = .ok .skip W') (hK : K (a.put o.dst undef) W') : o.wpIn (Fw ro) 0 P a W K Q := by
  refine ⟨fun _ _ => trivial, ?_⟩
  rw [Oper.semAt_eq _ _ _ hd, h]
  exact hK
theorem wp_round {l : Nat} {f : FuncId} {tmps : Array Value} {assign body : Code} {W' : World} (hd : ∀ c, o.op ≠ .defer c) (h : (execOp a.eval o).run P W = .ok (.round l f tmps assign body) W')
    (hc : RoundIn (Fw none) 0 P l f tmps assign body W' fun e w => ∃ v, e = .returned v ∧ K (a.put o.dst v) w) : o.wpIn (Fw ro) 0 P a W K Q := by
  refine ⟨fun _ _ => trivial, ?_⟩
  rw [Oper.semAt_eq _ _ _ hd, h]
  refine ⟨fun h => by simp [Fw] at h, ?_⟩
  have hw' : RoundIn (Fw ro) 0 P l f tmps assign body W' fun e w => ∃ v, e = .returned v ∧ K (a.put o.dst v) w := hc
  refine hw'.mono ?_
  rintro e w ⟨v, rfl, hk⟩
  exact hk
theorem wp_enter {f : FuncId} {args : Array Value} {W' : World} (hd : ∀ c, o.op ≠ .defer c) (h : (execOp a.eval o).run P W = .ok (.enter f args) W')
    (hc : Calls P f args W' fun e w => ∃ v, e = .returned v ∧ K (a.put o.dst v) w) : o.wpIn (Fw ro) 0 P a W K Q := by
  refine ⟨fun _ _ => trivial, ?_⟩
  rw [Oper.semAt_eq _ _ _ hd, h]
  refine ⟨fun h => by simp [Fw] at h, ?_⟩
  have hw : CallsIn Fence.wide 0 P f args W' fun e w => ∃ v, e = .returned v ∧ K (a.put o.dst v) w := callsIn_wide.2 hc
  have hw' : CallsIn (Fw ro) 0 P f args W' fun e w => ∃ v, e = .returned v ∧ K (a.put o.dst v) w := hw
  refine hw'.mono ?_
  rintro e w ⟨v, rfl, hk⟩
  exact hk
end
theorem constS_R {W : World} {E : Env} {v : Value} {g : GV} (h : constS v = some g) : R W E g v := by
  unfold constS at h
  split at h <;> first | (injection h with h; subst h; constructor) | (simp at h)
theorem constL_R {W : World} {E : Env} : ∀ {vs : List Value} {gs : List GV}, constL vs = some gs → gs.length = vs.length ∧ ∀ (j : Nat) (c : GV) (v : Value), gs[j]? = some c → vs[j]? = some v → R W E c v
  | [], gs, h => by simp [constL] at h; subst h; simp
  | v :: vs, gs, h => by
    simp only [constL] at h
    split at h
    · rename_i g gs' hg hgs
      injection h with h
      subst h
      obtain ⟨hl, hr⟩ := constL_R (W := W) (E := E) hgs
      refine ⟨by simp [hl], fun j c u hc hu => ?_⟩
      cases j with
      | zero => simp at hc hu; subst hc; subst hu; exact constS_R hg
      | succ j => simp at hc hu; exact hr j c u hc hu
    · simp at h
theorem constGV_R {W : World} {E : Env} {v : Value} {g : GV} (h : constGV v = some g) : R W E g v := by
  unfold constGV at h
  split at h
  · rename_i cs
    split at h
    · rename_i gs hgs
      injection h with h
      subst h
      obtain ⟨hl, hr⟩ := constL_R (W := W) (E := E) hgs
      exact .agg _ (by simpa using hl) fun j c v hc hv => hr j c v hc (by simpa using hv)
    · simp at h
  · injection h with h
    subst h
    exact .tup _ (by simp) fun j c v hc => by simp at hc
  · exact constS_R h
/-- The operands' ghost values are those of the activation. -/
def EvR (W : World) (E : Env) (ev : Operand → Option GV) (a : Act) : Prop := ∀ x g, ev x = some g → R W E g (a.eval x)
theorem geval_tmp {t : List GV} {i : Nat} {g : GV} (h : geval t (.tmp i) = some g) : t[i]? = some g ∨ ∃ p off b z, t[i]? = some (.at_ p off b z) ∧ g = .ptr p off := by
  simp only [geval] at h
  split at h
  · rename_i p off b z ht
    injection h with h
    exact .inr ⟨p, off, b, z, ht, h.symm⟩
  · exact .inl h
theorem R.at_inv {W : World} {E : Env} {p off b z : Nat} {v : Value} (h : R W E (.at_ p off b z) v) : E.ok p ∧ E.bk p = b ∧ E.tot p = z ∧ v = .pointer (some ⟨b, off, none⟩) := by cases h; exact ⟨‹_›, ‹_›, ‹_›, rfl⟩
theorem R.at_ptr {W : World} {E : Env} {p off b z : Nat} {v : Value} (h : R W E (.at_ p off b z) v) : R W E (.ptr p off) v := by
  obtain ⟨h1, rfl, _, rfl⟩ := h.at_inv
  exact .ptr h1
theorem geval_R {W : World} {E : Env} {t : List GV} {a : Act} (h : ∀ (i : Nat) (g : GV), t[i]? = some g → ∃ v, a.tmps[i]? = some v ∧ R W E g v) : EvR W E (geval t) a := by
  intro x g hx
  cases x with
  | tmp i =>
    simp only [geval] at hx
    split at hx
    · rename_i p off b z ht
      injection hx with hx
      subst hx
      obtain ⟨v, hv, hr⟩ := h i _ ht
      have : a.tmps.getD i undef = v := by simp [Array.getD_eq_getD_getElem?, hv]
      rw [show a.eval (.tmp i) = _ from this]; exact hr.at_ptr
    · obtain ⟨v, hv, hr⟩ := h i g hx
      have : a.tmps.getD i undef = v := by simp [Array.getD_eq_getD_getElem?, hv]
      simpa [Act.eval, this] using hr
  | const v => exact constGV_R hx
  | func f =>
    simp [geval] at hx
    subst hx
    exact .fn _ (by simp) fun j c v hc => by simp at hc
  | global n => simp [geval] at hx
theorem evs_R {W : World} {E : Env} {ev : Operand → Option GV} {a : Act} (h : EvR W E ev a) : ∀ {xs : List Operand} {gs : List GV}, evs ev xs = some gs →
    gs.length = xs.length ∧ ∀ (j : Nat) (g : GV) (x : Operand), gs[j]? = some g → xs[j]? = some x → R W E g (a.eval x)
  | [], gs, hx => by simp [evs] at hx; subst hx; simp
  | x :: xs, gs, hx => by
    simp only [evs] at hx
    split at hx
    · rename_i g gs' hg hgs
      injection hx with hx
      subst hx
      obtain ⟨hl, hr⟩ := evs_R h hgs
      refine ⟨by simp [hl], fun j c u hc hu => ?_⟩
      cases j with
      | zero => simp at hc hu; subst hc; subst hu; exact h _ _ hg
      | succ j => simp at hc hu; exact hr j c u hc hu
    · simp at hx
theorem R.int_inv {W : World} {E : Env} {k : IntKind} {n : Int} {v : Value} (h : R W E (.int k n) v) : v = .int k n := by cases h; rfl
theorem R.bool_inv {W : World} {E : Env} {b : Bool} {v : Value} (h : R W E (.bool b) v) : v = .bool b := by cases h; rfl
theorem R.lit_inv {W : World} {E : Env} {b : Bool} {v : Value} (h : R W E (.lit b) v) : v = .bool b := by cases h; rfl
theorem R.ptr_inv {W : World} {E : Env} {p off : Nat} {v : Value} (h : R W E (.ptr p off) v) : E.ok p ∧ v = .pointer (some ⟨E.bk p, off, none⟩) := by cases h; exact ⟨‹_›, rfl⟩
theorem R.nils_inv {W : World} {E : Env} {v : Value} (h : R W E .nils v) : v = .slice none 0 0 := by cases h; rfl
theorem R.sl_inv {W : World} {E : Env} {p off len es : Nat} {v : Value} (h : R W E (.sl p off len es) v) :
    ∃ cap, E.ok p ∧ len ≤ cap ∧ cap ≤ maxLen ∧ off + cap * es = E.tot p ∧ v = .slice (some ⟨E.bk p, off, none⟩) len cap := by cases h; exact ⟨_, ‹_›, ‹_›, ‹_›, ‹_›, rfl⟩
theorem R.slc_inv {W : World} {E : Env} {p off len es b z : Nat} {v : Value} (h : R W E (.slc p off len es b z) v) :
    ∃ cap, E.ok p ∧ len ≤ cap ∧ cap ≤ maxLen ∧ off + cap * es = z ∧ E.bk p = b ∧ E.tot p = z ∧ v = .slice (some ⟨b, off, none⟩) len cap := by cases h; exact ⟨_, ‹_›, ‹_›, ‹_›, ‹_›, ‹_›, ‹_›, rfl⟩
theorem R.slc_sl {W : World} {E : Env} {p off len es b z : Nat} {v : Value} (h : R W E (.slc p off len es b z) v) : R W E (.sl p off len es) v := by
  obtain ⟨cap, h1, h2, h3, h4, rfl, rfl, rfl⟩ := h.slc_inv
  exact .sl cap h1 h2 h3 h4
theorem R.str_inv {W : World} {E : Env} {s : ByteArray} {v : Value} (h : R W E (.str s) v) : v = .string s := by cases h; rfl
theorem R.agg_inv {W : World} {E : Env} {cs : List GV} {v : Value} (h : R W E (.agg cs) v) :
    ∃ vs : Array Value, v = .agg vs ∧ cs.length = vs.size ∧ ∀ (j : Nat) (c : GV) (u : Value), cs[j]? = some c → vs[j]? = some u → R W E c u := by cases h; exact ⟨_, rfl, ‹_›, ‹_›⟩
theorem R.tup_inv {W : World} {E : Env} {cs : List GV} {v : Value} (h : R W E (.tup cs) v) :
    ∃ vs : Array Value, v = .tuple vs ∧ cs.length = vs.size ∧ ∀ (j : Nat) (c : GV) (u : Value), cs[j]? = some c → vs[j]? = some u → R W E c u := by cases h; exact ⟨_, rfl, ‹_›, ‹_›⟩
theorem R.fn_inv {W : World} {E : Env} {f : FuncId} {cs : List GV} {v : Value} (h : R W E (.fn f cs) v) :
    ∃ vs : Array Value, v = .func (.func f) #[] vs ∧ cs.length = vs.size ∧ ∀ (j : Nat) (c : GV) (u : Value), cs[j]? = some c → vs[j]? = some u → R W E c u := by cases h; exact ⟨_, rfl, ‹_›, ‹_›⟩
theorem R.eptr_inv {W : World} {E : Env} {cs : List GV} {v : Value} (h : R W E (.eptr cs) v) :
    ∃ (b off : Nat) (vs : Nat → Value), E.I b ∧ (∀ (j : Nat) (c : GV), cs[j]? = some c → W.cell? ⟨b, off + j, none⟩ = some (vs j)) ∧ (∀ (j : Nat) (c : GV), cs[j]? = some c → R W E c (vs j)) ∧
      v = .pointer (some ⟨b, off, none⟩) := by cases h; exact ⟨_, _, _, ‹_›, ‹_›, ‹_›, rfl⟩
theorem R.im_inv {W : World} {E : Env} {len : Nat} {cs : List GV} {v : Value} (h : R W E (.im len cs) v) :
    (len = 0 ∧ cs = [] ∧ ∃ a cap, v = .slice a 0 cap) ∨ ∃ (b off cap : Nat) (vs : Nat → Value), E.I b ∧ len ≤ cap ∧ (∀ (j : Nat) (c : GV), cs[j]? = some c → W.cell? ⟨b, off + j, none⟩ = some (vs j)) ∧
      (∀ (j : Nat) (c : GV), cs[j]? = some c → R W E c (vs j)) ∧ v = .slice (some ⟨b, off, none⟩) len cap := by
  cases h
  · exact .inl ⟨rfl, rfl, _, _, rfl⟩
  · exact .inr ⟨_, _, _, _, ‹_›, ‹_›, ‹_›, ‹_›, rfl⟩
theorem R.scalar {W : World} {E : Env} {g : GV} {v : Value} (h : R W E g v) (hs : g.scalar = true) : v.oneCell' = true := by
  cases h <;> first | rfl | (simp [GV.scalar] at hs; done) | (cases v <;> first | rfl | (simp [GV.scalar] at hs))
/-- A value's cells. -/
theorem R.cells {W : World} {E : Env} {g : GV} {v : Value} (h : R W E g v) (hs : (∃ cs, g = .agg cs) ∨ g.scalar = true) :
    g.cells.length = v.cells.size ∧ ∀ (j : Nat) (c : GV) (u : Value), g.cells[j]? = some c → v.cells[j]? = some u → R W E c u := by
  rcases hs with ⟨cs, rfl⟩ | hs
  · obtain ⟨vs, rfl, hl, hr⟩ := h.agg_inv
    exact ⟨hl, hr⟩
  · have h1 : g.cells = [g] := by cases g <;> simp_all [GV.cells, GV.scalar]
    have h2 : v.cells = #[v] := by
      have := h.scalar hs
      cases v <;> simp_all [Value.cells, Value.oneCell']
    rw [h1, h2]
    refine ⟨rfl, fun j c u hc hu => ?_⟩
    cases j with
    | zero => simp at hc hu; subst hc; subst hu; exact h
    | succ j => simp at hc
end Go.Proofs.Ytalcipbagidbpaa
end

section
set_option linter.unusedVariables false
namespace Go.Proofs.Ytalcipbagidbpaa
/-- Values of the type t, all of whose n cells are ints, are compared cell by cell. -/
def EqOK (P : Program) (t : TypeId) (n : Nat) : Prop := ∀ (l m : List Int) (W : World) (op : BinOp) (x y : Operand), l.length = n → m.length = n →
  (eqGuard op t x y (.agg (l.map (Value.int .i64)).toArray) (.agg (m.map (Value.int .i64)).toArray)).run P W = .ok () W ∧
  (Op.equal t (.agg (l.map (Value.int .i64)).toArray) (.agg (m.map (Value.int .i64)).toArray)).run P W = .ok (decide (l = m)) W
structure TIok (P : Program) (t : TypeId) (i : TI) : Prop where
  info : ∃ ti z, P.info? t = some ti ∧ ti.size = i.size ∧ ti.bytes = i.bytes ∧ ti.zero = some z ∧ constL z.cells.toList = some i.zero ∧ z.cells.size = i.size
  und : match i.kind with
    | .int k => P.underlying t = some (.int k)
    | .bool => P.underlying t = some .bool
    | .str => P.underlying t = some .string
    | .struct fs => ∃ fields, P.underlying t = some (.struct fields) ∧ fields.toList.map (fun f => (f.offset, f.type)) = fs ∧ (∀ f ∈ fields.toList, (P.info? f.type).isSome = true)
    | .slice e => P.underlying t = some (.slice e)
    | .array n e => P.underlying t = some (.array n e)
    | .other => ∃ d, P.underlying t = some d ∧ (match d with | .struct _ | .array _ _ => true | _ => false) = false
  eq : i.eq = true → EqOK P t i.size
def TabOK (P : Program) (T : Tab) : Prop := ∀ t i, T t = some i → TIok P t i
section
variable {P : Program} {T : Tab} {t : TypeId} {i : TI} {W : World} {E : Env}
theorem TIok.run_sizeOf (h : TIok P t i) (W : World) : (sizeOf t).run P W = .ok i.size W := by
  obtain ⟨ti, z, hi, hs, _⟩ := h.info
  simp [sizeOf, Go.run_typeInfo W hi, hs]
theorem TIok.run_isAgg (h : TIok P t i) (W : World) : (isAgg t).run P W = .ok i.agg W := by
  have hu := h.und
  unfold isAgg TI.agg
  cases hk : i.kind <;> simp only [hk] at hu ⊢
  case struct fs =>
    obtain ⟨fields, hu, _⟩ := hu
    simp [run_underlying hu]
  case other =>
    obtain ⟨d, hu, hd⟩ := hu
    simp only [Sem.run_bind, run_underlying hu, Result.andThen_ok]
    cases d <;> simp_all
  all_goals simp [run_underlying hu]
theorem TIok.run_zero (h : TIok P t i) (W : World) (E : Env) : ∃ z, (zeroValue t).run P W = .ok z W ∧ z.cells.size = i.size ∧ i.zero.length = i.size ∧
    ∀ (j : Nat) (c : GV) (v : Value), i.zero[j]? = some c → z.cells[j]? = some v → R W E c v := by
  obtain ⟨ti, z, hi, hs, _, hz, hc, hzs⟩ := h.info
  obtain ⟨hl, hr⟩ := constL_R (W := W) (E := E) hc
  exact ⟨z, by simp [zeroValue, Go.run_typeInfo W hi, hz], hzs, by rw [hl]; simpa using hzs, fun j c v hj hv => hr j c v hj (by simpa using hv)⟩
theorem getAt_spec {cs : List GV} {off : Nat} {q : Option Stp} {g : GV} {cons : List Prop} (h : getAt i cs off q = some (g, cons)) (hc : allP cons) :
    (i.agg = true ∧ ∃ vs, g = .agg vs ∧ vs.length = i.size ∧ (cs.drop off).take i.size = vs) ∨ (i.agg = false ∧ cs[off]? = some g) := by
  unfold getAt at h
  split at h
  · split at h
    · rename_i ha
      split at h
      · injection h with h; injection h with h1 h2; subst h1; subst h2
        exact .inl ⟨ha, _, rfl, (hc : _ ∧ _).1, (hc : _ ∧ _).2⟩
      · simp at h
    · rename_i ha
      injection h with h; injection h with h1 h2; subst h1; subst h2
      exact .inr ⟨ha, hc⟩
  · split at h
    · rename_i ha
      split at h
      · rename_i hb
        injection h with h; injection h with h1 h2; subst h1; subst h2
        have := Nat.le_of_ble_eq_true hb
        exact .inl ⟨ha, _, rfl, by simp; omega, rfl⟩
      · simp at h
    · rename_i ha
      split at h
      · rename_i c hcs
        injection h with h; injection h with h1 h2; subst h1; subst h2
        exact .inr ⟨ha, hcs⟩
      · simp at h
theorem addr_add (b o j : Nat) : (⟨b, o, none⟩ : Addr).add j = ⟨b, o + j, none⟩ := by unfold Addr.add; split <;> simp_all
theorem run_loadVar_at (h : TIok P t i) {cs : List GV} {b o off : Nat} {vs : Nat → Value} (hc : ∀ (j : Nat) (c : GV), cs[j]? = some c → W.cell? ⟨b, o + j, none⟩ = some (vs j))
    (hr : ∀ (j : Nat) (c : GV), cs[j]? = some c → R W E c (vs j)) {q : Option Stp} {g : GV} {cons : List Prop} (hg : getAt i cs off q = some (g, cons)) (hcons : allP cons) :
    ∃ v, (loadVar t ⟨b, o + off, none⟩).run P W = .ok v W ∧ R W E g v := by
  rcases getAt_spec hg hcons with ⟨ha, gs, rfl, hl, hgs⟩ | ⟨ha, hcs⟩
  · let us : List Value := (List.range i.size).map fun j => vs (off + j)
    have hlen : ∀ j, j < i.size → off + j < cs.length := fun j hj => by
      have : ((cs.drop off).take i.size).length = i.size := by rw [hgs, hl]
      simp at this
      omega
    have hload : (loadCells ⟨b, o + off, none⟩ us.length).run P W = .ok us.toArray W := by
      refine run_loadCells_list W _ us fun j v hv => ?_
      have hj : j < i.size := by
        rcases Nat.lt_or_ge j i.size with h | h
        · exact h
        · simp [us, h] at hv
      rw [addr_add, Nat.add_assoc]
      have := hc (off + j) _ (List.getElem?_eq_getElem (hlen j hj))
      rw [this]
      simp [us, hj] at hv
      rw [hv]
    refine ⟨.agg us.toArray, ?_, .agg _ (by simp [us, hl]) fun j c v hj hv => ?_⟩
    · have : us.length = i.size := by simp [us]
      rw [this] at hload
      simp [loadVar, h.run_isAgg, ha, h.run_sizeOf, hload]
    · have hjl : j < i.size := by rw [← hl]; exact (List.getElem?_eq_some_iff.1 hj).1
      simp [us, hjl] at hv
      subst hv
      refine hr (off + j) c ?_
      rw [← hgs] at hj
      simp [hjl] at hj
      exact hj
  · refine ⟨vs off, ?_, hr off g hcs⟩
    simp [loadVar, h.run_isAgg, ha, hc off g hcs]
theorem EntSat.blk_inv {p : Nat} {cs : List GV} {ty : TypeId} {B : Nat → Prop} (h : EntSat W E p (.blk cs ty) B) :
    E.ok p ∧ (∀ k, B k ↔ k = E.bk p) ∧ ∃ arr : Array Value, W.heap[E.bk p]? = some (.cells arr ty (0, 0)) ∧ arr.size = E.tot p ∧ cs.length ≤ arr.size ∧
      ∃ vs : Nat → Value, (∀ j, j < arr.size → arr[j]? = some (vs j)) ∧ (∀ (j : Nat) (c : GV), cs[j]? = some c → W.cell? ⟨E.bk p, 0 + j, none⟩ = some (vs j)) ∧ (∀ (j : Nat) (c : GV), cs[j]? = some c → R W E c (vs j)) := by
  obtain ⟨hok, hB, arr, ha, ht, hl, hc⟩ := h
  refine ⟨hok, hB, arr, ha, ht, hl, fun j => arr.getD j undef, fun j hj => by simp [Array.getD, hj], fun j c hj => ?_, fun j c hj => ?_⟩
  · obtain ⟨v, hv, _⟩ := hc j c hj
    simp [World.cell?, ha, Nat.zero_add, hv, Array.getD_eq_getD_getElem?]
  · obtain ⟨v, hv, hr⟩ := hc j c hj
    simpa [Array.getD_eq_getD_getElem?, hv] using hr
theorem allP_cons {p : Prop} {ps : List Prop} : allP (p :: ps) ↔ p ∧ allP ps := by
  cases ps with
  | nil => simp [allP]
  | cons q ps => rfl
theorem BlkSat.of_ob {p : Nat} {cs : List GV} {ty : TypeId} {B : Nat → Prop} (h0 : cs ≠ []) (h : EntSat W E p (.ob cs ty) B) : EntSat W E p (.blk cs ty) B := by
  rcases h with ⟨h, _⟩ | h
  · exact absurd h h0
  · exact h
theorem Pre.ob_blk {Bs : Nat → Nat → Prop} {p : Nat} {cs : List GV} {ty : TypeId} (h0 : cs ≠ []) (h : Pre W E Bs [(p, .ob cs ty)]) : Pre W E Bs [(p, .blk cs ty)] where
  ent q e he := by
    simp at he
    obtain ⟨rfl, rfl⟩ := he
    exact BlkSat.of_ob h0 (h.ent q _ (by simp))
  disj q e r e' k he he' := by
    simp at he he'
    exact h.disj q (.ob cs ty) r (.ob cs ty) k (by simp [he.1]) (by simp [he'.1])
  notI q e k he := by
    simp at he
    exact h.notI q (.ob cs ty) k (by simp [he.1])
  Ilt := h.Ilt
theorem Post.blk_ob {W' : World} {E' : Env} {Bs Bs' : Nat → Nat → Prop} {p base : Nat} {cs : List GV} {ty : TypeId} (h : Post W E Bs W' E' Bs' [(p, .blk cs ty)] base []) : Post W E Bs W' E' Bs' [(p, .ob cs ty)] base [] := by
  have key : ∀ q, (∃ e, (q, e) ∈ [(p, Ent.ob cs ty)]) ↔ ∃ e, (q, e) ∈ [(p, Ent.blk cs ty)] := fun q => by simp
  refine ⟨h.size, h.os, h.tape, h.output, fun k hk hn => h.keep k hk fun q e he => ?_, h.Isub, fun k hk => ?_, h.Ilt, h.ok, h.okn, fun q e he => ?_, fun j e he => by simp at he, fun q k hq hb => ?_, fun q r k hq hr => h.disj q r k (hq.imp (key q).1 id) (hr.imp (key r).1 id), fun q hn => h.same q fun e he => ?_⟩
  · simp at he; exact hn q (.ob cs ty) (by simp [he.1])
  · rcases h.Inew k hk with h | ⟨q, e, he, hb⟩ | h
    · exact .inl h
    · simp at he; exact .inr (.inl ⟨q, .ob cs ty, by simp [he.1], hb⟩)
    · exact .inr (.inr h)
  · simp at he
    obtain ⟨rfl, rfl⟩ := he
    exact .inr (h.ent q (.blk cs ty) (by simp))
  · obtain ⟨h1, h2⟩ := h.own q k (hq.imp (key q).1 id) hb
    refine ⟨?_, h2⟩
    rcases h1 with ⟨r, e, he, hb⟩ | h
    · simp at he; exact .inl ⟨r, .ob cs ty, by simp [he.1], hb⟩
    · exact .inr h
  · simp at he; exact hn (.ob cs ty) (by simp [he.1])
theorem R.ol_inv {W : World} {E : Env} {p len es : Nat} {v : Value} (h : R W E (.ol p len es) v) : (len = 0 ∧ v = .slice none 0 0) ∨ (0 < len ∧ R W E (.sl p 0 len es) v) := by
  cases h with
  | ol0 => exact .inl ⟨rfl, rfl⟩
  | ol cap h h0 hl hm ht => exact .inr ⟨h0, .sl cap h hl hm ht⟩
theorem R.sl_ol {W : World} {E : Env} {p len es : Nat} {v : Value} (h : R W E (.sl p 0 len es) v) (h0 : 0 < len) : R W E (.ol p len es) v := by
  obtain ⟨cap, hok, hl, hm, ht, rfl⟩ := h.sl_inv
  exact .ol cap hok h0 hl hm ht
/-! ### Literals: 'fill' -/
theorem foldl_set (off : Nat) : ∀ (vs : List Value) (k : Nat) (cur : Array Value), off + k + vs.length ≤ cur.size →
    ((vs.zipIdx k).foldl (fun (cs : Array Value) (p : Value × Nat) => cs.setIfInBounds (off + p.2) p.1) cur).toList = cur.toList.take (off + k) ++ (vs ++ cur.toList.drop (off + k + vs.length))
  | [], k, cur, h => by simp
  | v :: vs, k, cur, h => by
    simp only [List.zipIdx_cons, List.foldl_cons]
    rw [foldl_set off vs (k + 1) _ (by simp at h ⊢; omega)]
    simp only [Array.toList_setIfInBounds, List.length_cons]
    simp only [List.length_cons] at h
    have hlt : off + k < cur.toList.length := by simp; omega
    rw [List.take_set, List.drop_set_of_lt (by omega)]
    rw [show off + (k + 1) = off + k + 1 by omega, show off + k + 1 + vs.length = off + k + (vs.length + 1) by omega]
    rw [List.take_succ_eq_append_getElem hlt]
    simp [List.set_append_right, Nat.min_eq_left (Nat.le_of_lt (by simpa using hlt))]
/-- Cells that are related one by one. -/
def Rl (W : World) (E : Env) (cs : List GV) (vs : List Value) : Prop := cs.length = vs.length ∧ ∀ (j : Nat) (c : GV) (v : Value), cs[j]? = some c → vs[j]? = some v → R W E c v
theorem Rl.nil : Rl W E [] [] := ⟨rfl, fun j c v h => by simp at h⟩
theorem Rl.append {cs cs' : List GV} {vs vs' : List Value} (h : Rl W E cs vs) (h' : Rl W E cs' vs') : Rl W E (cs ++ cs') (vs ++ vs') := by
  refine ⟨by simp [h.1, h'.1], fun j c v hc hv => ?_⟩
  by_cases hj : j < cs.length
  · rw [List.getElem?_append_left hj] at hc
    rw [List.getElem?_append_left (by rw [← h.1]; exact hj)] at hv
    exact h.2 j c v hc hv
  · rw [List.getElem?_append_right (by omega)] at hc
    rw [List.getElem?_append_right (by rw [← h.1]; omega)] at hv
    rw [← h.1] at hv
    exact h'.2 _ c v hc hv
theorem Rl.take {cs : List GV} {vs : List Value} (h : Rl W E cs vs) (n : Nat) : Rl W E (cs.take n) (vs.take n) := by
  refine ⟨by simp [h.1], fun j c v hc hv => ?_⟩
  by_cases hj : j < n
  · rw [List.getElem?_take_of_lt hj] at hc hv
    exact h.2 j c v hc hv
  · rw [List.getElem?_take_eq_none (by omega)] at hc
    simp at hc
theorem Rl.drop {cs : List GV} {vs : List Value} (h : Rl W E cs vs) (n : Nat) : Rl W E (cs.drop n) (vs.drop n) := by
  refine ⟨by simp [h.1], fun j c v hc hv => ?_⟩
  rw [List.getElem?_drop] at hc hv
  exact h.2 _ c v hc hv
theorem Rl.splice {cs us : List GV} {vs ws : List Value} (h : Rl W E cs vs) (h' : Rl W E us ws) (off : Nat) : Rl W E (splice cs off us) (vs.take off ++ (ws ++ vs.drop (off + ws.length))) := by
  unfold Go.Proofs.Ytalcipbagidbpaa.splice
  rw [h'.1]
  exact (h.take off).append (h'.append (h.drop _))
theorem Rl.later {W' : World} {E' : Env} (hL : Later W E W' E') {cs : List GV} {vs : List Value} (h : Rl W E cs vs) : Rl W' E' cs vs := ⟨h.1, fun j c v hc hv => (h.2 j c v hc hv).later hL⟩
theorem R.rl {g : GV} {v : Value} (h : R W E g v) (hs : (∃ cs, g = .agg cs) ∨ g.scalar = true) : Rl W E g.cells v.cells.toList := by
  obtain ⟨hl, hr⟩ := h.cells hs
  exact ⟨by simpa using hl, fun j c u hc hu => hr j c u hc (by simpa using hu)⟩
theorem GV.whole_or {g : GV} (h : g.whole = true) : (∃ cs, g = .agg cs) ∨ g.scalar = true := by
  cases g <;> first | (simp_all [GV.whole, GV.scalar]; done) | skip
  rename_i v
  cases v <;> simp_all [GV.whole, GV.scalar]
theorem fill_rel {place : Nat → Option (Nat × Nat)} {place' : Nat → Option (Nat × Nat)} (hp : ∀ j o s, place j = some (o, s) → place' j = some (o, s)) :
    ∀ (ps : List (Nat × GV)) (qs : List (Nat × Value)) (cs : List GV) (cur : Array Value) (cs' : List GV), gfill place cs ps = some cs' → Rl W E cs cur.toList →
      ps.length = qs.length → (∀ (j : Nat) (p : Nat × GV) (q : Nat × Value), ps[j]? = some p → qs[j]? = some q → p.1 = q.1 ∧ p.2.whole = true ∧ R W E p.2 q.2) →
      ∃ arr, Instr.fill place' cur qs = some arr ∧ Rl W E cs' arr.toList
  | [], qs, cs, cur, cs', h, hR, hl, _ => by
    simp at hl
    obtain rfl : qs = [] := List.eq_nil_of_length_eq_zero hl.symm
    simp [gfill] at h
    subst h
    exact ⟨cur, rfl, hR⟩
  | (i, g) :: ps, [], cs, cur, cs', h, hR, hl, _ => by simp at hl
  | (i, g) :: ps, (i', v) :: qs, cs, cur, cs', h, hR, hl, hall => by
    obtain ⟨hii, hw, hgv⟩ := hall 0 (i, g) (i', v) rfl rfl
    simp only at hii hw hgv
    subst hii
    simp only [gfill] at h
    split at h
    · simp at h
    · rename_i off size hpl
      split at h
      · rename_i hb
        simp only [Bool.and_eq_true] at hb
        have h1 := Nat.eq_of_beq_eq_true hb.1
        have h2 := Nat.le_of_ble_eq_true hb.2
        have hrl := hgv.rl (GV.whole_or hw)
        have hvs : v.cells.size = size := by have := hrl.1; simp at this; omega
        have hcur : cs.length = cur.size := by simpa using hR.1
        have hle : off + v.cells.size ≤ cur.size := by omega
        have hfold := foldl_set off v.cells.toList 0 cur (by simpa using hle)
        let cur' := v.cells.zipIdx.foldl (fun (cs : Array Value) (p : Value × Nat) => cs.setIfInBounds (off + p.2) p.1) cur
        have hcur' : cur'.toList = cur.toList.take off ++ (v.cells.toList ++ cur.toList.drop (off + v.cells.toList.length)) := by
          have e : cur' = (v.cells.toList.zipIdx 0).foldl (fun (cs : Array Value) (p : Value × Nat) => cs.setIfInBounds (off + p.2) p.1) cur := by
            simp only [cur', ← Array.foldl_toList, Array.toList_zipIdx]
          rw [e, hfold]
          simp
        have hR' : Rl W E (splice cs off g.cells) cur'.toList := by
          rw [hcur']
          exact hR.splice hrl off
        obtain ⟨arr, harr, hres⟩ := fill_rel hp ps qs _ cur' cs' h hR' (by simpa using hl) (fun j p q hj hq => hall (j + 1) p q (by simpa using hj) (by simpa using hq))
        refine ⟨arr, ?_, hres⟩
        simp only [Instr.fill, hp i off size hpl]
        rw [if_neg (by simp [hvs]; omega)]
        exact harr
      · simp at h
end
end Go.Proofs.Ytalcipbagidbpaa
end

section
set_option linter.unusedVariables false
namespace Go.Proofs.Ytalcipbagidbpaa
theorem run_mapM_list {P : Program} {W : World} {α β : Type} (f : α → Sem β) (g : α → β) : ∀ (l : List α), (∀ x ∈ l, (f x).run P W = .ok (g x) W) → (l.mapM f).run P W = .ok (l.map g) W
  | [], _ => by simp
  | x :: l, h => by
    simp only [List.mapM_cons, Sem.run_bind, h x (by simp), Result.andThen_ok, run_mapM_list f g l (fun y hy => h y (by simp [hy])), Sem.run_pure, List.map_cons]
theorem run_mapM_array {P : Program} {W : World} {α β : Type} (f : α → Sem β) (g : α → β) (l : Array α) (h : ∀ x ∈ l.toList, (f x).run P W = .ok (g x) W) : (l.mapM f).run P W = .ok (l.toList.map g).toArray W := by
  rw [Array.mapM_eq_mapM_toList, Sem.run_map, run_mapM_list f g _ h]
  rfl
theorem gparts_R {W : World} {E : Env} {ev : Operand → Option GV} {a : Act} (h : EvR W E ev a) : ∀ {xs : List (Nat × Operand)} {gs : List (Nat × GV)}, gparts ev xs = some gs →
    gs.length = xs.length ∧ ∀ (j : Nat) (g : Nat × GV) (x : Nat × Value), gs[j]? = some g → (xs.map fun p => (p.1, a.eval p.2))[j]? = some x → g.1 = x.1 ∧ g.2.whole = true ∧ R W E g.2 x.2
  | [], gs, hx => by simp [gparts] at hx; subst hx; simp
  | (i, x) :: xs, gs, hx => by
    simp only [gparts] at hx
    split at hx
    · rename_i g gs' hg hgs
      split at hx
      · rename_i hw
        injection hx with hx
        subst hx
        obtain ⟨hl, hr⟩ := gparts_R h hgs
        refine ⟨by simp [hl], fun j c u hc hu => ?_⟩
        cases j with
        | zero => simp at hc hu; subst hc; subst hu; exact ⟨rfl, hw, h _ _ hg⟩
        | succ j => simp only [List.getElem?_cons_succ, List.map_cons] at hc hu; exact hr j c u hc hu
      · simp at hx
    · simp at hx
section
variable {P : Program} {T : Tab} {ro : Option Nat} {o : Oper} {ev : Operand → Option GV} {hh : Nat → Option Ent} {base : Nat} {q : Option Stp} {dl : Dl}
variable {a : Act} {W : World} {E : Env} {Bs : Nat → Nat → Prop} {K : Act → World → Prop} {Q : Exit → Act → World → Prop}
/-- What an operation's theorem says. -/
def Sound (P : Program) (ro : Option Nat) (o : Oper) (dl : Dl) (base : Nat) (a : Act) (W : World) (E : Env) (Bs : Nat → Nat → Prop) : Prop :=
  allP dl.cons → Pre W E Bs dl.fp → (∀ p, base ≤ p → p < base + dl.new.length → ¬ E.ok p ∧ ∀ e, (p, e) ∉ dl.fp) →
    ∀ (K : Act → World → Prop) (Q : Exit → Act → World → Prop),
    (∀ v W' E' Bs', R W' E' dl.res v → Post W E Bs W' E' Bs' dl.upd base dl.new → K (a.put o.dst v) W') → o.wpIn (Fw ro) 0 P a W K Q
/-- Nothing is looked at, nothing is made. -/
theorem sound_plain {v : Value} {g : GV} {cons : List Prop} (hd : ∀ c, o.op ≠ .defer c) (h : allP cons → (execOp a.eval o).run P W = .ok (.value v) W ∧ R W E g v) :
    Sound P ro o { res := g, cons := cons } base a W E Bs := by
  intro hc hpre _ K Q hK
  obtain ⟨h1, h2⟩ := h hc
  exact wp_val hd h1 (hK v W E Bs h2 (Post.read hpre base))
theorem sound_move {x : Operand} (ho : o.op = .move x ∨ o.op = .assign x) {g : GV} (hev : EvR W E ev a) (hx : ev x = some g) : Sound P ro o { res := g } base a W E Bs :=
  sound_plain (v := a.eval x) (by rcases ho with ho | ho <;> simp [ho]) fun _ => ⟨by rcases ho with ho | ho <;> simp [execOp, ho], hev _ _ hx⟩
theorem sound_pick {c x y : Operand} (ho : o.op = .pick c x y) (hev : EvR W E ev a) (h : ostep P T ev hh base q o = some dl) : Sound P ro o dl base a W E Bs := by
  unfold ostep at h
  simp only [ho] at h
  have hd : ∀ c, o.op ≠ .defer c := by simp [ho]
  split at h
  · rename_i hc
    split at h <;> simp at h
    rename_i g hg
    subst h
    exact sound_plain (v := a.eval x) hd fun _ => ⟨by simp [execOp, ho, (hev _ _ hc).lit_inv, asBool], hev _ _ hg⟩
  · rename_i hc
    split at h <;> simp at h
    rename_i g hg
    subst h
    exact sound_plain (v := a.eval y) hd fun _ => ⟨by simp [execOp, ho, (hev _ _ hc).lit_inv, asBool], hev _ _ hg⟩
  · rename_i cb hc
    have hcv := (hev _ _ hc).bool_inv
    split at h <;> simp at h
    all_goals
      rename_i bx by_ hx hy
      subst h
      have e1 : a.eval x = .bool bx := by first | exact (hev _ _ hx).bool_inv | exact (hev _ _ hx).lit_inv
      have e2 : a.eval y = .bool by_ := by first | exact (hev _ _ hy).bool_inv | exact (hev _ _ hy).lit_inv
      refine sound_plain (v := .bool (bif cb then bx else by_)) hd fun _ => ⟨?_, .bool⟩
      cases cb <;> simp [execOp, ho, hcv, asBool, e1, e2]
  · simp at h
theorem sound_alloc {ty : TypeId} (hT : TabOK P T) (ho : o.op = .alloc ty) (h : ostep P T ev hh base q o = some dl) : Sound P ro o dl base a W E Bs := by
  unfold ostep at h
  simp only [ho] at h
  split at h <;> simp at h
  rename_i i hi
  subst h
  intro hc hpre hnew K Q hK
  obtain ⟨z, hz, hzs, hzl, hzr⟩ := (hT ty i hi).run_zero W E
  have hb := hnew base (Nat.le_refl _) (by simp)
  refine wp_val (W' := W.alloc (.cells z.cells ty)) (v := .pointer (some ⟨W.heap.size, 0, none⟩)) (by simp [ho]) ?_ (hK _ _ _ _ ?_ (Post.alloc hpre hb.1 hb.2 z.cells ty i.zero (by omega) fun j c hj => ?_))
  · simp [execOp, ho, Instr.alloc, hz, newVar, newRow, newObj, Sem.run]
  · have : (E.add base W.heap.size z.cells.size).bk base = W.heap.size := by simp [Env.add]
    have hr : R (W.alloc (.cells z.cells ty)) (E.add base W.heap.size z.cells.size) (.ptr base 0) (.pointer (some ⟨(E.add base W.heap.size z.cells.size).bk base, 0, none⟩)) := .ptr (Or.inr rfl)
    rw [this] at hr
    exact hr
  · have hj' : j < z.cells.size := by have := (List.getElem?_eq_some_iff.1 hj).1; omega
    exact ⟨z.cells[j], by simp [hj'], hzr j c _ hj (by simp [hj'])⟩
theorem sound_box {ty : TypeId} {x : Operand} (ho : o.op = .box ty x) (hev : EvR W E ev a) (h : ostep P T ev hh base q o = some dl) : Sound P ro o dl base a W E Bs := by
  unfold ostep at h
  simp only [ho] at h
  split at h
  · rename_i g hg
    split at h <;> simp at h
    rename_i hw
    subst h
    intro hc hpre hnew K Q hK
    have hb := hnew base (Nat.le_refl _) (by simp)
    have hrl := (hev _ _ hg).rl (GV.whole_or hw)
    have hl : g.cells.length = (a.eval x).cells.size := by simpa using hrl.1
    refine wp_val (W' := W.alloc (.cells (a.eval x).cells ty)) (v := .pointer (some ⟨W.heap.size, 0, none⟩)) (by simp [ho]) ?_ (hK _ _ _ _ ?_ (Post.alloc hpre hb.1 hb.2 (a.eval x).cells ty g.cells (by omega) fun j c hj => ?_))
    · simp [execOp, ho, Instr.box, newVar, newRow, newObj, Sem.run]
    · have : (E.add base W.heap.size (a.eval x).cells.size).bk base = W.heap.size := by simp [Env.add]
      have hr : R (W.alloc (.cells (a.eval x).cells ty)) (E.add base W.heap.size (a.eval x).cells.size) (.ptr base 0) (.pointer (some ⟨(E.add base W.heap.size (a.eval x).cells.size).bk base, 0, none⟩)) := .ptr (Or.inr rfl)
      rw [this] at hr
      exact hr
    · have hj' : j < (a.eval x).cells.size := by have := (List.getElem?_eq_some_iff.1 hj).1; omega
      exact ⟨_, by simp [hj'], hrl.2 j c (a.eval x).cells[j] hj (by simp [hj'])⟩
  · simp at h
theorem sound_load {t : TypeId} {x : Operand} (hT : TabOK P T) (ho : o.op = .load t x) (hev : EvR W E ev a) (h : ostep P T ev hh base q o = some dl) : Sound P ro o dl base a W E Bs := by
  unfold ostep at h
  simp only [ho] at h
  have hd : ∀ c, o.op ≠ .defer c := by simp [ho]
  split at h
  · rename_i i p off hi hx
    split at h
    · rename_i cs ty hp
      split at h <;> simp at h
      rename_i g cons hg
      subst h
      intro hc hpre hnew K Q hK
      obtain ⟨hok, hB, arr, ha, ht, hl, vs, hvs, hcell, hr⟩ := (hpre.ent p (.blk cs ty) (by simp)).blk_inv
      obtain ⟨v, hv, hR⟩ := run_loadVar_at (hT t i hi) hcell hr hg hc
      rw [Nat.zero_add] at hv
      refine wp_val hd ?_ (hK v W E Bs hR (Post.read hpre base))
      simp [execOp, ho, Instr.loadAt, Instr.sureAddr, (hev _ _ hx).ptr_inv.2, hv]
    · rename_i cs ty hp
      split at h <;> simp at h
      rename_i g cons hg
      subst h
      intro hc hpre hnew K Q hK
      obtain ⟨hc0, hc⟩ := allP_cons.1 hc
      obtain ⟨hok, hB, arr, ha, ht, hl, vs, hvs, hcell, hr⟩ := (BlkSat.of_ob hc0 (hpre.ent p (.ob cs ty) (by simp))).blk_inv
      obtain ⟨v, hv, hR⟩ := run_loadVar_at (hT t i hi) hcell hr hg hc
      rw [Nat.zero_add] at hv
      refine wp_val hd ?_ (hK v W E Bs hR (Post.read hpre base))
      simp [execOp, ho, Instr.loadAt, Instr.sureAddr, (hev _ _ hx).ptr_inv.2, hv]
    · simp at h
  · rename_i i cs hi hx
    split at h <;> simp at h
    rename_i g cons hg
    subst h
    intro hc hpre hnew K Q hK
    obtain ⟨b, off, vs, hI, hcell, hr, he⟩ := (hev _ _ hx).eptr_inv
    obtain ⟨v, hv, hR⟩ := run_loadVar_at (hT t i hi) hcell hr hg hc
    rw [Nat.add_zero] at hv
    refine wp_val hd ?_ (hK v W E Bs hR (Post.read hpre base))
    simp [execOp, ho, Instr.loadAt, Instr.sureAddr, he, hv]
  · simp at h
theorem sound_nilCheck {x : Operand} (ho : o.op = .nilCheck x) (hev : EvR W E ev a) (h : ostep P T ev hh base q o = some dl) : Sound P ro o dl base a W E Bs := by
  unfold ostep at h
  simp only [ho] at h
  have hd : ∀ c, o.op ≠ .defer c := by simp [ho]
  split at h <;> simp at h
  · rename_i p off hx
    subst h
    exact sound_plain (v := a.eval x) hd fun _ => ⟨by simp [execOp, ho, (hev _ _ hx).ptr_inv.2], hev _ _ hx⟩
  · rename_i cs hx
    subst h
    obtain ⟨b, off, vs, hI, hcell, hr, he⟩ := (hev _ _ hx).eptr_inv
    exact sound_plain (v := a.eval x) hd fun _ => ⟨by simp [execOp, ho, he], hev _ _ hx⟩
theorem sound_extract {x : Operand} {j : Nat} (ho : o.op = .extract x j) (hev : EvR W E ev a) (h : ostep P T ev hh base q o = some dl) : Sound P ro o dl base a W E Bs := by
  unfold ostep at h
  simp only [ho] at h
  have hd : ∀ c, o.op ≠ .defer c := by simp [ho]
  split at h
  · rename_i vs hx
    split at h <;> simp at h
    rename_i g hg
    subst h
    obtain ⟨us, he, hl, hr⟩ := (hev _ _ hx).tup_inv
    have hj : j < us.size := by have := (List.getElem?_eq_some_iff.1 hg).1; omega
    exact sound_plain (v := us[j]) hd fun _ => ⟨by simp [execOp, ho, Instr.extract, he, hj], hr j g _ hg (by simp [hj])⟩
  · simp at h
theorem sound_makeFunc {f : FuncId} {caps : Array Operand} (ho : o.op = .makeFunc (.func f) ⟨[]⟩ caps) (hev : EvR W E ev a) (h : ostep P T ev hh base q o = some dl) : Sound P ro o dl base a W E Bs := by
  unfold ostep at h
  simp only [ho] at h
  have hd : ∀ c, o.op ≠ .defer c := by simp [ho]
  split at h <;> simp at h
  rename_i gs hg
  subst h
  obtain ⟨hl, hr⟩ := evs_R hev hg
  refine sound_plain (v := .func (.func f) #[] (caps.map a.eval)) hd fun _ => ⟨by simp [execOp, ho, Instr.makeFunc], .fn _ (by simpa using hl) fun j c v hc hv => ?_⟩
  simp only [Array.getElem?_map, Option.map_eq_some_iff] at hv
  obtain ⟨x, hx, rfl⟩ := hv
  exact hr j c x hc (by simpa using hx)
theorem sound_unOp {op : UnOp} {t : TypeId} {x : Operand} (ho : o.op = .unOp op t x) (hev : EvR W E ev a) (h : ostep P T ev hh base q o = some dl) : Sound P ro o dl base a W E Bs := by
  unfold ostep at h
  simp only [ho] at h
  have hd : ∀ c, o.op ≠ .defer c := by simp [ho]
  split at h
  · rename_i g hx
    split at h <;> simp at h
    rename_i r hr
    subst h
    have hR := hev _ _ hx
    unfold gun at hr
    split at hr <;> simp at hr
    · subst hr
      exact sound_plain (v := .bool _) hd fun _ => ⟨by simp only [execOp, ho, hR.bool_inv]; rfl, .bool⟩
    · subst hr
      exact sound_plain (v := .bool _) hd fun _ => ⟨by simp only [execOp, ho, hR.lit_inv]; rfl, .lit⟩
    · subst hr
      exact sound_plain (v := .int _ _) hd fun _ => ⟨by simp [execOp, ho, hR.int_inv, Op.unary, Op.intArith], .int⟩
  · simp at h
theorem sound_convert {s d : TypeId} {x : Operand} (hT : TabOK P T) (ho : o.op = .convert s d x) (hev : EvR W E ev a) (h : ostep P T ev hh base q o = some dl) : Sound P ro o dl base a W E Bs := by
  unfold ostep at h
  simp only [ho] at h
  have hd : ∀ c, o.op ≠ .defer c := by simp [ho]
  split at h
  · rename_i i j k n hi hj hx
    split at h <;> simp at h
    rename_i k1 k2 h1 h2
    subst h
    have u1 := (hT _ _ hi).und
    have u2 := (hT _ _ hj).und
    rw [h1] at u1
    rw [h2] at u2
    simp only at u1 u2
    refine sound_plain (v := .int k2 (k2.wrap n)) hd fun _ => ⟨?_, .int⟩
    simp only [execOp, ho, convert, Sem.run_bind, run_underlying u1, run_underlying u2, Result.andThen_ok, (hev _ _ hx).int_inv, Conv.intToInt, Sem.run_pure]
  · simp at h
end
end Go.Proofs.Ytalcipbagidbpaa
end

section
set_option linter.unusedVariables false
namespace Go.Proofs.Ytalcipbagidbpaa
theorem take_splice {α : Type} (L ws : List α) (off n : Nat) (h : off + ws.length ≤ n) (hn : n ≤ L.length) :
    (L.take n).take off ++ (ws ++ (L.take n).drop (off + ws.length)) = (L.take off ++ (ws ++ L.drop (off + ws.length))).take n := by
  have h1 : (L.take off).length = off := by rw [List.length_take]; omega
  rw [List.take_append, List.take_append, h1, List.take_of_length_le (by omega : (L.take off).length ≤ n), List.take_of_length_le (by omega : ws.length ≤ n - off),
    List.take_take, Nat.min_eq_left (by omega), List.drop_take]
  congr 3
  omega
section
variable {P : Program} {T : Tab} {ro : Option Nat} {o : Oper} {ev : Operand → Option GV} {hh : Nat → Option Ent} {base : Nat} {q : Option Stp} {dl : Dl}
variable {a : Act} {W : World} {E : Env} {Bs : Nat → Nat → Prop} {K : Act → World → Prop} {Q : Exit → Act → World → Prop}
theorem store_core {t : TypeId} {x y : Operand} {i : TI} {p off : Nat} {g : GV} {cs : List GV} {ty : TypeId} (hT : TabOK P T) (ho : o.op = .store t x y) (hev : EvR W E ev a) (hi : T t = some i) (hx : ev x = some (.ptr p off)) (hy : ev y = some g) :
    Sound P ro o { res := .tup [], fp := [(p, .blk cs ty)], upd := [(p, .blk (splice cs off g.cells) ty)], cons := [g.cells.length = i.size, g.cells.all GV.scalar = true, off + i.size ≤ cs.length] } base a W E Bs := by
  intro hc hpre hnew K Q hK
  obtain ⟨c1, c2, c3⟩ := hc
  have c3 : off + i.size ≤ cs.length := c3

  rw [List.all_eq_true] at c2
  obtain ⟨hok, hB, arr, ha, ht, hl, hcs⟩ := hpre.ent p (.blk cs ty) (by simp)
  have hw : (∃ cs, g = .agg cs) ∨ g.scalar = true := by
    cases g <;> first | exact .inl ⟨_, rfl⟩ | (right; rfl) | (simp [GV.cells, GV.scalar] at c2; done) | (rename_i v; cases v <;> first | (right; rfl) | (simp [GV.cells, GV.scalar] at c2))
  have hrl := (hev _ _ hy).rl hw
  have hvl : (a.eval y).cells.toList.length = i.size := by rw [← hrl.1, c1]
  have hsc : ∀ v ∈ (a.eval y).cells.toList, v.oneCell' = true := by
    intro v hv
    obtain ⟨j, hj⟩ := List.getElem?_of_mem hv
    have hj' : j < g.cells.length := by rw [hrl.1]; exact (List.getElem?_eq_some_iff.1 hj).1
    have := hrl.2 j _ v (List.getElem?_eq_getElem hj') hj
    exact this.scalar (c2 _ (List.getElem_mem hj'))
  have hle : off + 0 + (a.eval y).cells.toList.length ≤ arr.size := by omega
  have hst := run_storeCells_at (P := P) (E.bk p) off ty (a.eval y).cells.toList 0 arr W ha hle hsc
  rw [Nat.add_zero] at hst
  let arr' : Array Value := (arr.toList.take off ++ (a.eval y).cells.toList ++ arr.toList.drop (off + (a.eval y).cells.toList.length)).toArray
  have harr' : arr'.toList = arr.toList.take off ++ ((a.eval y).cells.toList ++ arr.toList.drop (off + (a.eval y).cells.toList.length)) := by simp [arr']
  have hsz : arr'.size = arr.size := by
    have : arr'.toList.length = arr.toList.length := by
      rw [harr']
      simp only [List.length_append, List.length_take, List.length_drop, Array.length_toList] at hle ⊢
      omega
    simpa using this
  -- the prefix that is known, and its new reading
  have hpre' : Rl W E cs (arr.toList.take cs.length) := ⟨by simp; omega, fun j c v hj hv => by
    obtain ⟨u, hu, hr⟩ := hcs j c hj
    rw [List.getElem?_take_of_lt (List.getElem?_eq_some_iff.1 hj).1] at hv
    have : arr.toList[j]? = some u := by simpa using hu
    rw [this] at hv
    injection hv with hv
    exact hv ▸ hr⟩
  have hnewl := hpre'.splice hrl off
  have hcl : cs.length ≤ arr.size := hl
  have hlen' : (splice cs off g.cells).length = cs.length := by
    have := hrl.1
    simp only [splice, List.length_append, List.length_take, List.length_drop]
    omega
  have hnewarr : (arr.toList.take cs.length).take off ++ ((a.eval y).cells.toList ++ (arr.toList.take cs.length).drop (off + (a.eval y).cells.toList.length)) = arr'.toList.take cs.length := by
    rw [harr']
    exact take_splice _ _ off cs.length (by omega) (by simpa using hcl)
  rw [hnewarr] at hnewl
  have hpost := Post.store (cs' := splice cs off g.cells) hpre base arr arr' ha hsz (by rw [hlen', hsz]; exact hl) fun j c hj => by
    have hjl : j < cs.length := by rw [← hlen']; exact (List.getElem?_eq_some_iff.1 hj).1
    have hja : j < arr'.size := by omega
    exact ⟨arr'[j], by simp [hja], hnewl.2 j c _ hj (by rw [List.getElem?_take_of_lt hjl]; simp [hja])⟩
  refine wp_skip_ (W' := W.setRow (E.bk p) arr') (by simp [ho]) ?_ (hK undef _ E Bs (.tup _ (by simp) fun j c v hc => by simp at hc) hpost)
  have hsv : (a.eval y).cells.size = i.size := by simpa using hvl
  simp only [execOp, ho, Instr.storeAt, Instr.sureAddr, (hev _ _ hx).ptr_inv.2, storeVar, Sem.run_bind, Sem.run_pure, Result.andThen_ok, (hT t i hi).run_sizeOf]
  simp only [hsv, ne_eq, not_true_eq_false, if_false, Sem.run_bind, Sem.run_pure, Result.andThen_ok]
  simp only [hst, Result.andThen_ok]
  rfl
theorem sound_store {t : TypeId} {x y : Operand} (hT : TabOK P T) (ho : o.op = .store t x y) (hev : EvR W E ev a) (h : ostep P T ev hh base q o = some dl) (hdst : o.dst = none ∨ True) : Sound P ro o dl base a W E Bs := by
  unfold ostep at h
  simp only [ho] at h
  split at h
  · rename_i i p off g hi hx hy
    split at h <;> simp only [Option.some.injEq, reduceCtorEq] at h
    · rename_i cs ty hp
      subst h
      exact store_core hT ho hev hi hx hy
    · rename_i cs ty hp
      subst h
      intro hc hpre hnew K Q hK
      obtain ⟨c1, c2, c3, c4⟩ := hc
      exact store_core hT ho hev hi hx hy ⟨c1, c2, c3⟩ (hpre.ob_blk c4) (fun p h1 h2 => by simp at h2; omega) K Q fun v W' E' Bs' h1 h2 => hK v W' E' Bs' h1 h2.blk_ob
  · simp at h
end
end Go.Proofs.Ytalcipbagidbpaa
end

section
set_option linter.unusedVariables false
namespace Go.Proofs.Ytalcipbagidbpaa
section
variable {P : Program} {T : Tab} {ro : Option Nat} {o : Oper} {ev : Operand → Option GV} {hh : Nat → Option Ent} {base : Nat} {q : Option Stp} {dl : Dl}
variable {a : Act} {W : World} {E : Env} {Bs : Nat → Nat → Prop} {K : Act → World → Prop} {Q : Exit → Act → World → Prop}
theorem TIok.field {t : TypeId} {i : TI} {fs : List (Nat × Nat)} (h : TIok P t i) (hk : i.kind = .struct fs) {f o ty : Nat} (hf : fs[f]? = some (o, ty)) :
    ∃ (fields : Array Field) (fl : Field), P.underlying t = some (.struct fields) ∧ fields[f]? = some fl ∧ fl.offset = o ∧ fl.type = ty := by
  have hu := h.und
  rw [hk] at hu
  obtain ⟨fields, hu, hl, _⟩ := hu
  rw [← hl, List.getElem?_map, Option.map_eq_some_iff] at hf
  obtain ⟨fl, hfl, he⟩ := hf
  simp only [Prod.mk.injEq] at he
  exact ⟨fields, fl, hu, by simpa using hfl, he.1, he.2⟩
theorem sound_fieldAddr {t : TypeId} {x : Operand} {f : Nat} (hT : TabOK P T) (ho : o.op = .fieldAddr t x f) (hev : EvR W E ev a) (h : ostep P T ev hh base q o = some dl) : Sound P ro o dl base a W E Bs := by
  unfold ostep at h
  simp only [ho] at h
  have hd : ∀ c, o.op ≠ .defer c := by simp [ho]
  split at h
  · rename_i i g hi hx
    split at h
    · rename_i fs hk
      split at h
      · rename_i off ty hf
        split at h
        · rename_i fi hfi
          obtain ⟨fields, fl, hu, hfl, rfl, rfl⟩ := (hT t i hi).field hk hf
          split at h <;> simp only [Option.some.injEq, reduceCtorEq] at h
          · rename_i p off' hb
            have hpos := Nat.le_of_ble_eq_true hb
            subst h
            have hR := (hev _ _ hx).ptr_inv
            refine sound_plain (v := .pointer (some ⟨E.bk p, off' + fl.offset, none⟩)) hd fun _ => ⟨?_, .ptr hR.1⟩
            simp only [execOp, ho, Instr.fieldAt, Sem.run_bind, run_underlying hu, Result.andThen_ok, hfl, hR.2, Instr.sureAddr, Sem.run_pure, fieldPlace, (hT _ _ hfi).run_sizeOf]
            rw [if_neg (by omega)]
            simp [addr_add]
          · rename_i cs hb
            have hpos := Nat.le_of_ble_eq_true hb
            subst h
            obtain ⟨b, off', vs, hI, hc, hr, he⟩ := (hev _ _ hx).eptr_inv
            refine sound_plain (v := .pointer (some ⟨b, off' + fl.offset, none⟩)) hd fun _ => ⟨?_, .eptr b (off' + fl.offset) (fun j => vs (fl.offset + j)) hI (fun j c hj => ?_) (fun j c hj => ?_)⟩
            · simp only [execOp, ho, Instr.fieldAt, Sem.run_bind, run_underlying hu, Result.andThen_ok, hfl, he, Instr.sureAddr, Sem.run_pure, fieldPlace, (hT _ _ hfi).run_sizeOf]
              rw [if_neg (by omega)]
              simp [addr_add]
            · rw [List.getElem?_drop] at hj
              rw [Nat.add_assoc]
              exact hc _ _ hj
            · rw [List.getElem?_drop] at hj
              exact hr _ _ hj
        · simp at h
      · simp at h
    · simp at h
  · simp at h
theorem run_part {t : TypeId} {i : TI} (h : TIok P t i) {cs : List GV} {vs : Array Value} {off : Nat} (hc : Rl W E cs vs.toList) {q : Option Stp} {g : GV} {cons : List Prop} (hg : getAt i cs off q = some (g, cons)) (hcons : allP cons) :
    ∃ v, (part t vs off).run P W = .ok v W ∧ R W E g v := by
  rcases getAt_spec hg hcons with ⟨ha, gs, rfl, hl, hgs⟩ | ⟨ha, hcs⟩
  · refine ⟨.agg (vs.extract off (off + i.size)), by simp [part, h.run_isAgg, ha, h.run_sizeOf], ?_⟩
    have := (hc.drop off).take i.size
    rw [hgs] at this
    have e : (vs.extract off (off + i.size)).toList = (vs.toList.drop off).take i.size := by
      rw [Array.toList_extract, List.extract_eq_take_drop, Nat.add_sub_cancel_left]
    rw [← e] at this
    exact .agg _ (by rw [this.1, Array.length_toList]) fun j c v hj hv => this.2 j c v hj (by rw [Array.getElem?_toList]; exact hv)
  · have hj : off < vs.size := by have := (List.getElem?_eq_some_iff.1 hcs).1; rw [hc.1] at this; simpa using this
    exact ⟨vs[off], by simp [part, h.run_isAgg, ha, hj], hc.2 off g _ hcs (by simp [hj])⟩
theorem sound_field {t : TypeId} {x : Operand} {f : Nat} (hT : TabOK P T) (ho : o.op = .field t x f) (hev : EvR W E ev a) (h : ostep P T ev hh base q o = some dl) : Sound P ro o dl base a W E Bs := by
  unfold ostep at h
  simp only [ho] at h
  have hd : ∀ c, o.op ≠ .defer c := by simp [ho]
  split at h
  · rename_i i cs hi hx
    split at h
    · rename_i fs hk
      split at h
      · rename_i off ty hf
        split at h
        · rename_i fi hfi
          obtain ⟨fields, fl, hu, hfl, rfl, rfl⟩ := (hT t i hi).field hk hf
          split at h <;> simp only [Option.some.injEq, reduceCtorEq] at h
          rename_i g cons hg
          subst h
          intro hc hpre hnew K Q hK
          obtain ⟨vs, he, hl, hr⟩ := (hev _ _ hx).agg_inv
          obtain ⟨v, hv, hR⟩ := run_part (W := W) (E := E) (hT _ _ hfi) (vs := vs) ⟨by simpa using hl, fun j c u hj hu => hr j c u hj (by simpa using hu)⟩ hg hc
          refine wp_val hd ?_ (hK v W E Bs hR (Post.read hpre base))
          simp [execOp, ho, Instr.field, run_underlying hu, hfl, he, asAgg, hv]
        · simp at h
      · simp at h
    · simp at h
  · simp at h
theorem sound_index {t : TypeId} {x ix : Operand} (hT : TabOK P T) (ho : o.op = .index t x ix) (hev : EvR W E ev a) (h : ostep P T ev hh base q o = some dl) : Sound P ro o dl base a W E Bs := by
  unfold ostep at h
  simp only [ho] at h
  have hd : ∀ c, o.op ≠ .defer c := by simp [ho]
  split at h
  · rename_i i cs k n hi hx hix
    have hin := (hev _ _ hix).int_inv
    split at h
    · rename_i len e hk
      have hu := (hT t i hi).und
      rw [hk] at hu
      split at h
      · rename_i ie hie
        split at h <;> simp only [Option.some.injEq, reduceCtorEq] at h
        rename_i g cons hg
        subst h
        intro hc hpre hnew K Q hK
        obtain ⟨hc0, hc⟩ := allP_cons.1 hc
        obtain ⟨vs, he, hl, hr⟩ := (hev _ _ hx).agg_inv
        obtain ⟨v, hv, hR⟩ := run_part (W := W) (E := E) (hT _ _ hie) (vs := vs) ⟨by simpa using hl, fun j c u hj hu => hr j c u hj (by simpa using hu)⟩ hg hc
        refine wp_val hd ?_ (hK v W E Bs hR (Post.read hpre base))
        simp [execOp, ho, Instr.index, hin, asIntOf, run_underlying hu, he, hc0.1, hc0.2, (hT _ _ hie).run_sizeOf, hv]
      · simp at h
    · simp at h
  · simp at h
theorem sound_indexAddr {t : TypeId} {x ix : Operand} (hT : TabOK P T) (ho : o.op = .indexAddr t x ix) (hev : EvR W E ev a) (h : ostep P T ev hh base q o = some dl) : Sound P ro o dl base a W E Bs := by
  unfold ostep at h
  simp only [ho] at h
  have hd : ∀ c, o.op ≠ .defer c := by simp [ho]
  split at h
  · rename_i i g k n hi hx hix
    have hin := (hev _ _ hix).int_inv
    split at h
    · rename_i e hk
      have hu := (hT t i hi).und
      rw [hk] at hu
      split at h
      · rename_i ie hie
        split at h
        · rename_i p off len es
          split at h <;> simp only [Option.some.injEq, reduceCtorEq] at h
          rename_i hb
          have hes := Nat.eq_of_beq_eq_true hb
          subst hes
          subst h
          obtain ⟨cap, hok, hlc, hm, ht, he⟩ := (hev _ _ hx).sl_inv
          refine sound_plain (v := .pointer (some ⟨E.bk p, off + n.toNat * ie.size, none⟩)) hd fun hc => ⟨?_, .ptr hok⟩
          have hc : 0 ≤ n ∧ n < len := hc
          simp only [execOp, ho, Instr.indexAt, hin, he, asIntOf, Sem.run_bind, Sem.run_pure, Result.andThen_ok, run_underlying hu, Sem.run_ite]
          rw [if_pos hc]
          simp [(hT _ _ hie).run_sizeOf, addr_add]
        · rename_i p off len es _ _
          split at h <;> simp only [Option.some.injEq, reduceCtorEq] at h
          rename_i hb
          have hes := Nat.eq_of_beq_eq_true hb
          subst hes
          subst h
          obtain ⟨cap, hok, hlc, hm, ht, he⟩ := (hev _ _ hx).slc_sl.sl_inv
          refine sound_plain (v := .pointer (some ⟨E.bk p, off + n.toNat * ie.size, none⟩)) hd fun hc => ⟨?_, .ptr hok⟩
          have hc : 0 ≤ n ∧ n < len := hc
          simp only [execOp, ho, Instr.indexAt, hin, he, asIntOf, Sem.run_bind, Sem.run_pure, Result.andThen_ok, run_underlying hu, Sem.run_ite]
          rw [if_pos hc]
          simp [(hT _ _ hie).run_sizeOf, addr_add]
        · rename_i p len es
          split at h <;> simp only [Option.some.injEq, reduceCtorEq] at h
          rename_i hb
          have hes := Nat.eq_of_beq_eq_true hb
          subst hes
          subst h
          rcases (hev _ _ hx).ol_inv with ⟨rfl, _⟩ | ⟨h0, hR2⟩
          · intro hc
            have hc : 0 ≤ n ∧ n < (0 : Nat) := hc
            omega
          · obtain ⟨cap, hok, hlc, hm, ht, he⟩ := hR2.sl_inv
            refine sound_plain (v := .pointer (some ⟨E.bk p, 0 + n.toNat * ie.size, none⟩)) hd fun hc => ⟨?_, .ptr hok⟩
            have hc : 0 ≤ n ∧ n < len := hc
            simp only [execOp, ho, Instr.indexAt, hin, he, asIntOf, Sem.run_bind, Sem.run_pure, Result.andThen_ok, run_underlying hu, Sem.run_ite]
            rw [if_pos hc]
            simp [(hT _ _ hie).run_sizeOf, addr_add]
        · rename_i len cs
          simp only [Option.some.injEq] at h
          subst h
          rcases (hev _ _ hx).im_inv with ⟨rfl, rfl, _⟩ | ⟨b, off, cap, vs, hI, hlc, hcell, hr, he⟩
          · intro hc
            obtain ⟨⟨h1, h2⟩, _⟩ := hc
            simp at h2
            omega
          · refine sound_plain (v := .pointer (some ⟨b, off + n.toNat * ie.size, none⟩)) hd fun hc => ⟨?_, .eptr b _ (fun j => vs (n.toNat * ie.size + j)) hI (fun j c hj => ?_) (fun j c hj => ?_)⟩
            · obtain ⟨hc, _⟩ := hc
              simp only [execOp, ho, Instr.indexAt, hin, he, asIntOf, Sem.run_bind, Sem.run_pure, Result.andThen_ok, run_underlying hu, Sem.run_ite]
              rw [if_pos hc]
              simp [(hT _ _ hie).run_sizeOf, addr_add]
            · rw [List.getElem?_drop] at hj
              rw [Nat.add_assoc]
              exact hcell _ _ hj
            · rw [List.getElem?_drop] at hj
              exact hr _ _ hj
        · simp at h
      · simp at h
    · rename_i len e hk
      have hu := (hT t i hi).und
      rw [hk] at hu
      split at h
      · rename_i ie hie
        split at h <;> simp only [Option.some.injEq, reduceCtorEq] at h
        rename_i p off
        subst h
        have hR := (hev _ _ hx).ptr_inv
        refine sound_plain (v := .pointer (some ⟨E.bk p, off + n.toNat * ie.size, none⟩)) hd fun hc => ⟨?_, .ptr hR.1⟩
        have hc : 0 ≤ n ∧ n < len := hc
        simp only [execOp, ho, Instr.indexAt, hin, hR.2, Instr.sureAddr, asIntOf, Sem.run_bind, Sem.run_pure, Result.andThen_ok, run_underlying hu, Sem.run_ite]
        rw [if_pos hc]
        simp [(hT _ _ hie).run_sizeOf, addr_add]
      · simp at h
    · simp at h
  · simp at h
theorem run_binInt {op : BinOp} {k : IntKind} {m n : Int} {g : GV} {cons : List Prop} (h : gint op k m n = some (g, cons)) (hc : allP cons) (t : TypeId) (hne : op ≠ .shl ∧ op ≠ .shr) :
    ∃ v, (binOp op t (.int k m) (.int k n)).run P W = .ok v W ∧ R W E g v := by
  cases op <;> simp only [gint, gcmp, Option.some.injEq, Prod.mk.injEq, reduceCtorEq] at h
  all_goals try (obtain ⟨rfl, rfl⟩ := h)
  all_goals first
    | (exfalso; first | exact hne.1 rfl | exact hne.2 rfl)
    | (refine ⟨_, ?_, .bool⟩; simp only [binOp, ne_eq, not_true_eq_false, if_false]; rfl)
    | (refine ⟨_, ?_, .int⟩; simp only [binOp, ne_eq, not_true_eq_false, if_false]; rfl)
    | (have hc : n ≠ 0 := hc; refine ⟨_, ?_, .int⟩; simp only [binOp, ne_eq, not_true_eq_false, if_false, Op.intDiv]; rw [if_neg hc]; rfl)
theorem eqGuard_int {op : BinOp} {t : TypeId} {x y : Operand} {k : IntKind} {m : Int} {v : Value} : eqGuard op t x y (.int k m) v = pure () := by cases op <;> rfl
theorem eqGuard_bool {op : BinOp} {t : TypeId} {x y : Operand} {b : Bool} {v : Value} : eqGuard op t x y (.bool b) v = pure () := by cases op <;> rfl
theorem eqGuard_str {op : BinOp} {t : TypeId} {x y : Operand} {b : ByteArray} {v : Value} : eqGuard op t x y (.string b) v = pure () := by cases op <;> rfl
theorem eqGuard_slice {op : BinOp} {t : TypeId} {x y : Operand} {b : Option Addr} {n c : Nat} {v : Value} : eqGuard op t x y (.slice b n c) v = pure () := by cases op <;> rfl
theorem equal_slice_nil {t e : TypeId} (hu : P.underlying t = some (.slice e)) (b : Option Addr) (n c : Nat) : (Op.equal t (.slice b n c) (.slice none 0 0)).run P W = .ok b.isNone W := by
  simp only [Op.equal, Op.maxDepth]
  rw [show (10000 : Nat) = 9999 + 1 from rfl, Op.equalIn]
  simp only [Sem.run_bind, run_underlying hu, Result.andThen_ok]
  cases b <;> rfl
theorem equal_bool {t : TypeId} (hu : P.underlying t = some .bool) (b c : Bool) : (Op.equal t (.bool b) (.bool c)).run P W = .ok (b == c) W := by
  simp only [Op.equal, Op.maxDepth]
  rw [show (10000 : Nat) = 9999 + 1 from rfl, Op.equalIn]
  simp only [Sem.run_bind, run_underlying hu, Result.andThen_ok]
  rfl
theorem ints_R {cs : List GV} {l : List Int} {vs : List Value} (h : ints cs = some l) (hR : Rl W E cs vs) : vs = l.map (Value.int .i64) := by
  induction cs generalizing l vs with
  | nil =>
    simp [ints] at h
    subst h
    have := hR.1
    simp at this
    simpa using this.symm
  | cons c cs ih =>
    cases vs with
    | nil => have := hR.1; simp at this
    | cons v vs =>
      unfold ints at h
      split at h
      · simp at *
      · rename_i n r heq
        split at h <;> simp only [Option.some.injEq, reduceCtorEq] at h
        rename_i l' hl'
        simp only [List.cons.injEq] at heq
        obtain ⟨rfl, rfl⟩ := heq
        subst h
        have h0 := (hR.2 0 _ v rfl rfl).int_inv
        have := ih hl' ⟨by simpa using hR.1, fun j c v hc hv => hR.2 (j + 1) c v (by simpa using hc) (by simpa using hv)⟩
        simp [h0, this]
      · simp at h
theorem asB_R {g : GV} {b : Bool} {v : Value} (h : asB g = some b) (hR : R W E g v) : v = .bool b := by
  cases g <;> simp only [asB, Option.some.injEq, reduceCtorEq] at h
  · subst h; exact hR.bool_inv
  · subst h; exact hR.lit_inv
theorem gnil_R {g : GV} {b : Bool} {v : Value} (h : gnil g = some b) (hR : R W E g v) : ∃ A n c, v = .slice A n c ∧ A.isNone = b := by
  unfold gnil at h
  split at h <;> simp only [Option.some.injEq, reduceCtorEq] at h
  · subst h; exact ⟨none, 0, 0, hR.nils_inv, rfl⟩
  · subst h; obtain ⟨cap, _, _, _, _, he⟩ := hR.sl_inv; exact ⟨_, _, _, he, rfl⟩
  · subst h
    rcases hR.im_inv with ⟨_, h, _⟩ | ⟨b, off, cap, vs, _, _, _, _, he⟩
    · simp at h
    · exact ⟨_, _, _, he, rfl⟩
theorem run_gbin {op : BinOp} {t : TypeId} {x y : Operand} {g g' r : GV} {u v : Value} {cons : List Prop} (hT : TabOK P T) (h : gbin op (T t) g g' = some (r, cons)) (hc : allP cons)
    (hx : R W E g u) (hy : R W E g' v) : ∃ z, (eqGuard op t x y u v).run P W = .ok () W ∧ (binOp op t u v).run P W = .ok z W ∧ R W E r z := by
  unfold gbin at h
  split at h
  · -- shl
    simp only [Option.some.injEq, Prod.mk.injEq] at h
    obtain ⟨rfl, rfl⟩ := h
    have hc : _ ≤ _ := hc
    rw [hx.int_inv, hy.int_inv]
    refine ⟨_, by rw [eqGuard_int]; rfl, ?_, .int⟩
    simp only [binOp, Op.shift]
    rw [if_neg (by omega)]
    rfl
  · simp only [Option.some.injEq, Prod.mk.injEq] at h
    obtain ⟨rfl, rfl⟩ := h
    have hc : _ ≤ _ := hc
    rw [hx.int_inv, hy.int_inv]
    refine ⟨_, by rw [eqGuard_int]; rfl, ?_, .int⟩
    simp only [binOp, Op.shift]
    rw [if_neg (by omega)]
    rfl
  · rename_i hns1 hns2
    split at h
    · rename_i hk
      have hk := of_decide_eq_true hk
      subst hk
      rw [hx.int_inv, hy.int_inv]
      obtain ⟨z, hz, hR⟩ := run_binInt (W := W) (E := E) h hc t ⟨hns1, hns2⟩
      exact ⟨z, by rw [eqGuard_int]; rfl, hz, hR⟩
    · simp at h
  · rename_i xs ys _ _ _
    split at h
    · rename_i i hi
      split at h
      · rename_i l m he hl hm
        split at h <;> simp only [Option.some.injEq, Prod.mk.injEq, reduceCtorEq] at h
        rename_i hs
        simp only [Bool.and_eq_true] at hs
        have h1 := Nat.eq_of_beq_eq_true hs.1
        have h2 := Nat.eq_of_beq_eq_true hs.2
        obtain ⟨rfl, rfl⟩ := h
        obtain ⟨us, rfl, hl1, hr1⟩ := hx.agg_inv
        obtain ⟨ws, rfl, hl2, hr2⟩ := hy.agg_inv
        have e1 := ints_R hl (vs := us.toList) ⟨by simpa using hl1, fun j c v hc hv => hr1 j c v hc (by simpa using hv)⟩
        have e2 := ints_R hm (vs := ws.toList) ⟨by simpa using hl2, fun j c v hc hv => hr2 j c v hc (by simpa using hv)⟩
        have e1' : us = (l.map (Value.int .i64)).toArray := by rw [← e1]
        have e2' : ws = (m.map (Value.int .i64)).toArray := by rw [← e2]
        obtain ⟨hg, heq⟩ := (hT t i hi).eq he l m W .eql x y h1 h2
        rw [← e1', ← e2'] at hg heq
        exact ⟨_, hg, by simp [binOp, heq], .bool⟩
      · simp at h
    · simp at h
  · rename_i xs ys _ _ _
    split at h
    · rename_i i hi
      split at h
      · rename_i l m he hl hm
        split at h <;> simp only [Option.some.injEq, Prod.mk.injEq, reduceCtorEq] at h
        rename_i hs
        simp only [Bool.and_eq_true] at hs
        have h1 := Nat.eq_of_beq_eq_true hs.1
        have h2 := Nat.eq_of_beq_eq_true hs.2
        obtain ⟨rfl, rfl⟩ := h
        obtain ⟨us, rfl, hl1, hr1⟩ := hx.agg_inv
        obtain ⟨ws, rfl, hl2, hr2⟩ := hy.agg_inv
        have e1 := ints_R hl (vs := us.toList) ⟨by simpa using hl1, fun j c v hc hv => hr1 j c v hc (by simpa using hv)⟩
        have e2 := ints_R hm (vs := ws.toList) ⟨by simpa using hl2, fun j c v hc hv => hr2 j c v hc (by simpa using hv)⟩
        have e1' : us = (l.map (Value.int .i64)).toArray := by rw [← e1]
        have e2' : ws = (m.map (Value.int .i64)).toArray := by rw [← e2]
        obtain ⟨hg, heq⟩ := (hT t i hi).eq he l m W .neq x y h1 h2
        rw [← e1', ← e2'] at hg heq
        exact ⟨_, hg, by simp [binOp, heq], .bool⟩
      · simp at h
    · simp at h
  · simp only [Option.some.injEq, Prod.mk.injEq] at h
    obtain ⟨rfl, rfl⟩ := h
    rw [hx.str_inv, hy.str_inv]
    exact ⟨_, by rw [eqGuard_str]; rfl, by simp only [binOp, Op.stringOp]; rfl, .bool⟩
  · simp only [Option.some.injEq, Prod.mk.injEq] at h
    obtain ⟨rfl, rfl⟩ := h
    rw [hx.str_inv, hy.str_inv]
    exact ⟨_, by rw [eqGuard_str]; rfl, by simp only [binOp, Op.stringOp]; rfl, .bool⟩
  · split at h
    · rename_i i hi
      split at h
      · rename_i hk
        have hu := (hT t i hi).und
        rw [hk] at hu
        split at h <;> simp only [Option.some.injEq, Prod.mk.injEq, reduceCtorEq] at h
        · obtain ⟨rfl, rfl⟩ := h
          rw [asB_R ‹asB g = some _› hx, asB_R ‹asB g' = some _› hy]
          exact ⟨_, by rw [eqGuard_bool]; rfl, by simp [binOp, equal_bool hu], .bool⟩
        · obtain ⟨rfl, rfl⟩ := h
          rw [asB_R ‹asB g = some _› hx, asB_R ‹asB g' = some _› hy]
          exact ⟨_, by rw [eqGuard_bool]; rfl, by simp [binOp, equal_bool hu], .bool⟩
      · rename_i e hk
        have hu := (hT t i hi).und
        rw [hk] at hu
        split at h <;> simp only [Option.some.injEq, Prod.mk.injEq, reduceCtorEq] at h
        · obtain ⟨rfl, rfl⟩ := h
          obtain ⟨A, n, c, rfl, rfl⟩ := gnil_R ‹gnil g = some _› hx
          rw [hy.nils_inv]
          exact ⟨_, by rw [eqGuard_slice]; rfl, by simp [binOp, equal_slice_nil hu], .lit⟩
        · obtain ⟨rfl, rfl⟩ := h
          obtain ⟨A, n, c, rfl, rfl⟩ := gnil_R ‹gnil g = some _› hx
          rw [hy.nils_inv]
          exact ⟨_, by rw [eqGuard_slice]; rfl, by simp [binOp, equal_slice_nil hu], .lit⟩
      · simp at h
    · simp at h
theorem sound_binOp {op : BinOp} {t t' : TypeId} {x y : Operand} (hT : TabOK P T) (ho : o.op = .binOp op t x y t') (hev : EvR W E ev a) (h : ostep P T ev hh base q o = some dl) : Sound P ro o dl base a W E Bs := by
  unfold ostep at h
  simp only [ho] at h
  have hd : ∀ c, o.op ≠ .defer c := by simp [ho]
  split at h
  · rename_i g g' hx hy
    split at h <;> simp only [Option.some.injEq, reduceCtorEq] at h
    rename_i r cons hr
    subst h
    intro hc hpre hnew K Q hK
    obtain ⟨z, h1, h2, hR⟩ := run_gbin (x := x) (y := y) hT hr hc (hev _ _ hx) (hev _ _ hy)
    refine wp_val hd ?_ (hK z W E Bs hR (Post.read hpre base))
    simp [execOp, ho, h1, h2]
  · simp at h
end
end Go.Proofs.Ytalcipbagidbpaa
end

section
set_option linter.unusedVariables false
namespace Go.Proofs.Ytalcipbagidbpaa
section
variable {P : Program} {T : Tab} {ro : Option Nat} {o : Oper} {ev : Operand → Option GV} {hh : Nat → Option Ent} {base : Nat} {q : Option Stp} {dl : Dl}
variable {a : Act} {W : World} {E : Env} {Bs : Nat → Nat → Prop} {K : Act → World → Prop} {Q : Exit → Act → World → Prop}
theorem TIok.rl_zero {t : TypeId} {i : TI} (h : TIok P t i) (W : World) (E : Env) : ∃ z, (zeroValue t).run P W = .ok z W ∧ z.cells.size = i.size ∧ Rl W E i.zero z.cells.toList := by
  obtain ⟨z, hz, hs, hl, hr⟩ := h.run_zero W E
  exact ⟨z, hz, hs, by simp [hs, hl], fun j c v hc hv => hr j c v hc (by simpa using hv)⟩
theorem repeatL_get (z : List GV) : ∀ n, (repeatL n z).length = n * z.length ∧ ∀ j, j < n * z.length → (repeatL n z)[j]? = z[j % z.length]?
  | 0 => by simp [repeatL]
  | n + 1 => by
    obtain ⟨hl, hg⟩ := repeatL_get z n
    refine ⟨by simp [repeatL, hl, Nat.add_mul, Nat.add_comm], fun j hj => ?_⟩
    simp only [repeatL]
    by_cases h : j < z.length
    · rw [List.getElem?_append_left h, Nat.mod_eq_of_lt h]
    · rw [List.getElem?_append_right (by omega), hg _ (by rw [Nat.add_mul] at hj; omega), ← Nat.mod_eq_sub_mod (by omega)]
theorem rl_zeros {z : List GV} {zs : Array Value} (h : Rl W E z zs.toList) (n : Nat) (zs' : Array Value) (hz : n * z.length = 0 → zs' = #[]) (hz' : n * z.length ≠ 0 → zs' = zs) :
    Rl W E (repeatL n z) ((Array.range (n * z.length)).map (zs'[· % zs'.size]!)).toList := by
  obtain ⟨hl, hg⟩ := repeatL_get z n
  refine ⟨by simp [hl], fun j c v hc hv => ?_⟩
  have hj : j < n * z.length := by have := (List.getElem?_eq_some_iff.1 hc).1; omega
  rw [hz' (by omega)] at hv
  have hzs : zs.size = z.length := by have := h.1; simp at this; exact this.symm
  have hpos : 0 < z.length := Nat.pos_of_ne_zero fun e => by rw [e] at hj; simp at hj
  rw [hg j hj] at hc
  simp [hj, hzs] at hv
  have hlt : j % z.length < zs.size := by rw [hzs]; exact Nat.mod_lt _ hpos
  rw [getElem!_pos zs _ hlt] at hv
  exact h.2 _ c v hc (by rw [Array.getElem?_toList, Array.getElem?_eq_getElem hlt, hv])
theorem splice_length {cs us : List GV} {off : Nat} (h : off + us.length ≤ cs.length) : (splice cs off us).length = cs.length := by
  simp only [splice, List.length_append, List.length_take, List.length_drop]
  omega
theorem gfill_length {place : Nat → Option (Nat × Nat)} : ∀ {ps : List (Nat × GV)} {cs cs' : List GV}, gfill place cs ps = some cs' → cs'.length = cs.length
  | [], cs, cs', h => by simp [gfill] at h; rw [h]
  | (i, g) :: ps, cs, cs', h => by
    simp only [gfill] at h
    split at h
    · simp at h
    · split at h
      · rename_i hb
        simp only [Bool.and_eq_true] at hb
        have h1 := Nat.eq_of_beq_eq_true hb.1
        have h2 := Nat.le_of_ble_eq_true hb.2
        rw [gfill_length h, splice_length (by omega)]
      · simp at h
theorem sound_build {t : TypeId} {ps : Array (Nat × Operand)} (hT : TabOK P T) (ho : o.op = .build t ps) (hev : EvR W E ev a) (h : ostep P T ev hh base q o = some dl) : Sound P ro o dl base a W E Bs := by
  unfold ostep at h
  simp only [ho] at h
  have hd : ∀ c, o.op ≠ .defer c := by simp [ho]
  split at h
  · rename_i i gs hi hgs
    obtain ⟨hpl, hpr⟩ := gparts_R hev hgs
    obtain ⟨z, hz, hzs, hzr⟩ := (hT t i hi).rl_zero W E
    have hu := (hT t i hi).und
    split at h
    · rename_i fs hk
      rw [hk] at hu
      obtain ⟨fields, hu, hfs, hall⟩ := hu
      split at h <;> simp only [Option.some.injEq, reduceCtorEq] at h
      rename_i cs hf
      subst h
      let sz : TypeId → Nat := fun ty => match P.info? ty with | some ti => ti.size | none => 0
      have hplaces : (fields.mapM fun f => do pure (f.offset, ← sizeOf f.type) : Sem (Array (Nat × Nat))).run P W = .ok (fields.toList.map fun f => (f.offset, sz f.type)).toArray W := by
        refine run_mapM_array (fun f => do pure (f.offset, ← sizeOf f.type)) (fun f : Field => (f.offset, sz f.type)) fields fun f hf => ?_
        obtain ⟨ti, hti⟩ := Option.isSome_iff_exists.1 (hall f hf)
        simp [sizeOf, Go.run_typeInfo W hti, sz, hti]
      obtain ⟨arr, harr, hres⟩ := fill_rel (W := W) (E := E) (place' := fun j => (fields.toList.map fun f => (f.offset, sz f.type)).toArray[j]?) (fun j o' s hp => by
          split at hp
          · rename_i o'' ty hfj
            split at hp <;> simp only [Option.some.injEq, Prod.mk.injEq, reduceCtorEq] at hp
            rename_i fi hfi
            obtain ⟨rfl, rfl⟩ := hp
            rw [← hfs, List.getElem?_map, Option.map_eq_some_iff] at hfj
            obtain ⟨fl, hfl, he⟩ := hfj
            simp only [Prod.mk.injEq] at he
            obtain ⟨ti, _, hti, hs, _⟩ := (hT _ _ hfi).info
            have : (fields.toList.map fun f => (f.offset, sz f.type)).toArray[j]? = some (fl.offset, sz fl.type) := by
              simp only [List.getElem?_toArray, List.getElem?_map, hfl, Option.map_some]
            rw [this]
            simp [sz, he.1, he.2, hti, hs]
          · simp at hp) gs _ i.zero z.cells cs hf hzr (by simpa using hpl) hpr
      refine sound_plain (v := .agg arr) hd fun _ => ⟨?_, .agg _ (by simpa using hres.1) fun j c v hc hv => hres.2 j c v hc (by simpa using hv)⟩
      have e : (ps.map fun x => match x with | (i, x) => (i, a.eval x)).toList = ps.toList.map fun p => (p.1, a.eval p.2) := by simp
      simp only [execOp, ho, Instr.build, Sem.run_bind, hz, Result.andThen_ok, run_underlying hu, hplaces, e]
      rw [harr]
      rfl
    · rename_i n e hk
      rw [hk] at hu
      split at h
      · rename_i ie hie
        split at h <;> simp only [Option.some.injEq, reduceCtorEq] at h
        rename_i cs hf
        subst h
        obtain ⟨arr, harr, hres⟩ := fill_rel (W := W) (E := E) (place' := fun j => some (j * ie.size, ie.size)) (fun j o' s hp => hp) gs _ i.zero z.cells cs hf hzr (by simpa using hpl) hpr
        refine sound_plain (v := .agg arr) hd fun _ => ⟨?_, .agg _ (by simpa using hres.1) fun j c v hc hv => hres.2 j c v hc (by simpa using hv)⟩
        have e : (ps.map fun x => match x with | (i, x) => (i, a.eval x)).toList = ps.toList.map fun p => (p.1, a.eval p.2) := by simp
        simp only [execOp, ho, Instr.build, Sem.run_bind, hz, Result.andThen_ok, run_underlying hu, (hT _ _ hie).run_sizeOf, e]
        rw [harr]
        rfl
      · simp at h
    · simp at h
  · simp at h
theorem sound_buildSlice {t : TypeId} {len : Nat} {ps : Array (Nat × Operand)} (hT : TabOK P T) (ho : o.op = .buildSlice t len ps) (hev : EvR W E ev a) (h : ostep P T ev hh base q o = some dl) : Sound P ro o dl base a W E Bs := by
  unfold ostep at h
  simp only [ho] at h
  have hd : ∀ c, o.op ≠ .defer c := by simp [ho]
  split at h
  · rename_i i gs hi hgs
    obtain ⟨hpl, hpr⟩ := gparts_R hev hgs
    have hu := (hT t i hi).und
    split at h
    · rename_i e hk
      rw [hk] at hu
      split at h
      · rename_i ie hie
        split at h <;> simp only [Option.some.injEq, reduceCtorEq] at h
        rename_i cs hf hb
        simp only [Bool.and_eq_true] at hb
        have hbl := Nat.le_of_ble_eq_true hb.2
        have hb := Nat.le_of_ble_eq_true hb.1
        subst h
        intro hc hpre hnew K Q hK
        obtain ⟨z, hz, hzs, hzr⟩ := (hT e ie hie).rl_zero W E
        have hzl : ie.zero.length = ie.size := by have := hzr.1; simp at this; omega
        let zs' : Array Value := if len * ie.size = 0 then #[] else z.cells
        have hzz := rl_zeros hzr len zs' (fun h => by simp only [zs']; rw [hzl] at h; rw [if_pos h]) (fun h => by simp only [zs']; rw [hzl] at h; rw [if_neg h])
        rw [hzl] at hzz
        obtain ⟨arr, harr, hres⟩ := fill_rel (W := W) (E := E) (place' := fun j => some (j * ie.size, ie.size)) (fun j o' s hp => hp) gs _ (repeatL len ie.zero) _ cs hf hzz (by simpa using hpl) hpr
        have hbn := hnew base (Nat.le_refl _) (by simp)
        have hcl : cs.length = arr.size := by simpa using hres.1
        -- the literal is as long as its zeros
        have hal : arr.size = len * ie.size := by
          have h1 : cs.length = (repeatL len ie.zero).length := gfill_length hf
          rw [(repeatL_get ie.zero len).1, hzl] at h1
          omega
        refine wp_val (W' := W.alloc (.cells arr e)) (v := .slice (some ⟨W.heap.size, 0, none⟩) len len) hd ?_ (hK _ _ _ _ ?_ (Post.alloc hpre hbn.1 hbn.2 arr e cs (by omega) fun j c hj => ?_))
        · have e1 : (ps.map fun x => match x with | (i, x) => (i, a.eval x)).toList = ps.toList.map fun p => (p.1, a.eval p.2) := by simp
          simp only [execOp, ho, Instr.buildSlice, Sem.run_bind, Result.andThen_ok, run_underlying hu, (hT _ _ hie).run_sizeOf, Sem.run_ite, e1]
          rw [if_neg (by omega)]
          by_cases h0 : len * ie.size = 0
          · have hz0 : zs' = #[] := by simp only [zs']; rw [if_pos h0]
            rw [hz0] at harr
            simp only [Sem.run_pure, Result.andThen_ok, h0, if_true]
            rw [h0] at harr
            rw [harr]
            simp [newRow, newObj, Sem.run]
          · have hz0 : zs' = z.cells := by simp only [zs']; rw [if_neg h0]
            rw [hz0] at harr
            rw [if_neg h0]
            simp only [hz, Sem.run_bind, Sem.run_pure, Result.andThen_ok]
            rw [harr]
            simp [newRow, newObj, Sem.run]
        · have hbk : (E.add base W.heap.size arr.size).bk base = W.heap.size := by simp [Env.add]
          have hr : R (W.alloc (.cells arr e)) (E.add base W.heap.size arr.size) (.sl base 0 len ie.size) (.slice (some ⟨(E.add base W.heap.size arr.size).bk base, 0, none⟩) len len) :=
            .sl len (Or.inr rfl) (Nat.le_refl _) (by
              unfold maxLen
              omega) (by simp [Env.add, hal])
          rw [hbk] at hr
          exact hr
        · have hj' : j < arr.size := by have := (List.getElem?_eq_some_iff.1 hj).1; omega
          exact ⟨arr[j], by simp [hj'], hres.2 j c _ hj (by simp [hj'])⟩
      · simp at h
    · simp at h
  · simp at h
end
end Go.Proofs.Ytalcipbagidbpaa
end

section
set_option linter.unusedVariables false
namespace Go.Proofs.Ytalcipbagidbpaa
section
variable {P : Program} {T : Tab} {ro : Option Nat} {o : Oper} {ev : Operand → Option GV} {hh : Nat → Option Ent} {base : Nat} {q : Option Stp} {dl : Dl}
variable {a : Act} {W : World} {E : Env} {Bs : Nat → Nat → Prop} {K : Act → World → Prop} {Q : Exit → Act → World → Prop}
theorem gbound_R {x : Option GV} {y : Option Operand} {d : Nat} {n : Int} {b : Bool} (hev : EvR W E ev a) (hx : (match y with | none => some none | some y => (match ev y with | some g => some (some g) | none => none)) = some x)
    (h : gbound x d = some (n, b)) : (b = false ∧ y = none ∧ n = d) ∨ (b = true ∧ ∃ z k, y = some z ∧ a.eval z = .int k n) := by
  cases y with
  | none =>
    simp only [Option.some.injEq] at hx
    subst hx
    simp [gbound] at h
    exact .inl ⟨h.2, rfl, h.1.symm⟩
  | some z =>
    simp only at hx
    split at hx <;> simp only [Option.some.injEq, reduceCtorEq] at hx
    rename_i g hg
    subst hx
    cases g <;> simp [gbound] at h
    obtain ⟨rfl, rfl⟩ := h
    exact .inr ⟨rfl, z, _, rfl, (hev _ _ hg).int_inv⟩
theorem run_sliceBound {v : Value} {k : IntKind} {n : Int} {y : Nat} {c : BoundsCode} (hv : v = .int k n) (h : 0 ≤ n ∧ n ≤ y) : (Instr.sliceBound v y c).run P W = .ok n.toNat W := by
  subst hv
  simp only [Instr.sliceBound, asIntOf, Sem.run_bind, Sem.run_pure, Result.andThen_ok, Sem.run_ite]
  rw [if_pos h]
theorem run_sliceBounds {lo hi : Option Operand} {len cap : Nat} {l h : Int}
    (hl : (lo = none ∧ l = 0) ∨ ∃ z k, lo = some z ∧ a.eval z = .int k l) (hh : (hi = none ∧ h = len) ∨ ∃ z k, hi = some z ∧ a.eval z = .int k h)
    (h0 : 0 ≤ l) (h1 : l ≤ h) (h2 : h ≤ cap) : (Instr.sliceBounds true len cap (lo.map a.eval) (hi.map a.eval) none).run P W = .ok (l.toNat, h.toNat, cap) W := by
  rcases hh with ⟨rfl, rfl⟩ | ⟨z, k, rfl, hz⟩
  · rcases hl with ⟨rfl, rfl⟩ | ⟨y, k', rfl, hy⟩
    · simp [Instr.sliceBounds]
    · simp only [Instr.sliceBounds, Option.map_none, Option.map_some, Sem.run_bind, Sem.run_pure, Result.andThen_ok]
      rw [run_sliceBound hy ⟨h0, h1⟩]
      simp
  · have e1 : ∀ c, (Instr.sliceBound (a.eval z) cap c).run P W = .ok h.toNat W := fun c => run_sliceBound hz ⟨by omega, h2⟩
    rcases hl with ⟨rfl, rfl⟩ | ⟨y, k', rfl, hy⟩
    · simp only [Instr.sliceBounds, Option.map_none, Option.map_some, Sem.run_bind, Sem.run_pure, Result.andThen_ok, e1]
      simp
    · have e2 : ∀ c, (Instr.sliceBound (a.eval y) h.toNat c).run P W = .ok l.toNat W := fun c => run_sliceBound hy ⟨h0, by omega⟩
      simp only [Instr.sliceBounds, Option.map_some, Sem.run_bind, Sem.run_pure, Result.andThen_ok, e1, e2]
theorem sound_slice {t : TypeId} {x : Operand} {lo hi : Option Operand} (hT : TabOK P T) (ho : o.op = .slice t x lo hi none) (hev : EvR W E ev a) (h : ostep P T ev hh base q o = some dl) : Sound P ro o dl base a W E Bs := by
  unfold ostep at h
  simp only [ho] at h
  have hd : ∀ c, o.op ≠ .defer c := by simp [ho]
  split at h
  · rename_i i g hi' hx
    have hR := hev _ _ hx
    split at h
    · rename_i e hk
      have hu := (hT t i hi').und
      rw [hk] at hu
      split at h
      · rename_i ie hie
        split at h
        · rename_i l' h' hlo hhi
          split at h <;> simp only [Option.some.injEq, reduceCtorEq] at h
          rename_i r cons hg
          subst h
          -- the run, once the bounds are known
          have run : ∀ (A : Option Addr) (len cap : Nat) (l n : Int), a.eval x = .slice A len cap → ((lo = none ∧ l = 0) ∨ ∃ z k, lo = some z ∧ a.eval z = .int k l) →
              ((hi = none ∧ n = len) ∨ ∃ z k, hi = some z ∧ a.eval z = .int k n) → 0 ≤ l → l ≤ n → n ≤ cap →
              (execOp a.eval o).run P W = .ok (.value (.slice (if cap = l.toNat then A else A.map (·.add (l.toNat * ie.size))) (n.toNat - l.toNat) (cap - l.toNat))) W := by
            intro A len cap l n hv h1 h2 h3 h4 h5
            simp only [execOp, ho, Instr.sliceAt, Sem.run_bind, run_underlying hu, Result.andThen_ok, Instr.slice, hv, Option.map_none, run_sliceBounds h1 h2 h3 h4 h5, (hT _ _ hie).run_sizeOf, Sem.run_pure]
          unfold gslice at hg
          split at hg
          · rename_i p off len es
            obtain ⟨cap, hok, hlc, hm, ht, he⟩ := hR.sl_inv
            split at hg <;> simp only [Option.some.injEq, Prod.mk.injEq, reduceCtorEq] at hg
            · rename_i l n bn hes hbl hbh
              obtain ⟨rfl, rfl⟩ := hg
              have hes := Nat.eq_of_beq_eq_true hes
              obtain ⟨_, hlo', rfl⟩ : false = false ∧ lo = none ∧ l = ((0 : Nat) : Int) := by
                rcases gbound_R hev hlo hbl with h | ⟨h, _⟩
                · exact h
                · simp at h
              have hn := gbound_R hev hhi hbh
              refine sound_plain (v := .slice (some ⟨E.bk p, off, none⟩) n.toNat cap) hd fun hc => ?_
              have hc : 0 ≤ n ∧ n ≤ len := hc
              have := run (some ⟨E.bk p, off, none⟩) len cap 0 n he (.inl ⟨hlo', rfl⟩) (hn.elim (fun h => .inl ⟨h.2.1, h.2.2⟩) fun h => .inr h.2) (by omega) hc.1 (by omega)
              refine ⟨?_, .sl cap hok (by omega) hm (by rw [hes]; exact ht)⟩
              rw [this]
              simp [Addr.add]
            · rename_i l n bn hes hbl hbh
              obtain ⟨rfl, rfl⟩ := hg
              have hes := Nat.eq_of_beq_eq_true hes
              have hl := gbound_R hev hlo hbl
              have hn := gbound_R hev hhi hbh
              refine sound_plain (v := .slice (some ⟨E.bk p, off + l.toNat * ie.size, none⟩) (n - l).toNat (cap - l.toNat)) hd fun hc => ?_
              have hc : 0 ≤ l ∧ l < n ∧ n ≤ len := hc
              have := run (some ⟨E.bk p, off, none⟩) len cap l n he (hl.elim (fun h => by simp at h) fun h => .inr h.2) (hn.elim (fun h => .inl ⟨h.2.1, h.2.2⟩) fun h => .inr h.2) (by omega) (by omega) (by omega)
              refine ⟨?_, .sl (cap - l.toNat) hok (by omega) (by omega) ?_⟩
              · rw [this, if_neg (by omega)]
                have e1 : n.toNat - l.toNat = (n - l).toNat := by omega
                simp [addr_add, e1]
              · rw [Nat.sub_mul, ← ht, hes]
                have : l.toNat * es ≤ cap * es := Nat.mul_le_mul_right _ (by omega)
                omega
          · rename_i p off len es b z
            obtain ⟨cap, hok, hlc, hm, ht, hb0, hz0, he⟩ := hR.slc_inv
            split at hg <;> simp only [Option.some.injEq, Prod.mk.injEq, reduceCtorEq] at hg
            · rename_i l n bn hes hbl hbh
              obtain ⟨rfl, rfl⟩ := hg
              have hes := Nat.eq_of_beq_eq_true hes
              obtain ⟨_, hlo', rfl⟩ : false = false ∧ lo = none ∧ l = ((0 : Nat) : Int) := by
                rcases gbound_R hev hlo hbl with h | ⟨h, _⟩
                · exact h
                · simp at h
              have hn := gbound_R hev hhi hbh
              refine sound_plain (v := .slice (some ⟨b, off, none⟩) n.toNat cap) hd fun hc => ?_
              obtain ⟨hc0, hc1⟩ := hc
              have hc0 : 0 ≤ n := hc0
              have hncap : n ≤ cap := by
                rcases hn with ⟨hf, _, hn⟩ | ⟨htr, _⟩
                · omega
                · subst htr
                  rcases (hc1 : n.toNat ≤ len ∨ (n.toNat ≤ (z - off) / ie.size ∧ 0 < ie.size)) with h1 | ⟨h1, h2⟩
                  · omega
                  have : (z - off) / ie.size = cap := by rw [← ht, hes, Nat.add_sub_cancel_left]; exact Nat.mul_div_cancel _ (by omega)
                  omega
              have := run (some ⟨b, off, none⟩) len cap 0 n he (.inl ⟨hlo', rfl⟩) (hn.elim (fun h => .inl ⟨h.2.1, h.2.2⟩) fun h => .inr h.2) (by omega) hc0 (by omega)
              refine ⟨?_, .slc cap hok (by omega) hm (by rw [hes]; exact ht) hb0 hz0⟩
              rw [this]
              simp [Addr.add]
            · rename_i l n bn hes hbl hbh
              obtain ⟨rfl, rfl⟩ := hg
              have hes := Nat.eq_of_beq_eq_true hes
              have hl := gbound_R hev hlo hbl
              have hn := gbound_R hev hhi hbh
              refine sound_plain (v := .slice (some ⟨b, off + l.toNat * ie.size, none⟩) (n - l).toNat (cap - l.toNat)) hd fun hc => ?_
              obtain ⟨hc0, hc1⟩ := hc
              have hc0 : 0 ≤ l ∧ l < n := hc0
              have hncap : n ≤ cap := by
                rcases hn with ⟨hf, _, hn⟩ | ⟨htr, _⟩
                · omega
                · subst htr
                  rcases (hc1 : n.toNat ≤ len ∨ (n.toNat ≤ (z - off) / ie.size ∧ 0 < ie.size)) with h1 | ⟨h1, h2⟩
                  · omega
                  have : (z - off) / ie.size = cap := by rw [← ht, hes, Nat.add_sub_cancel_left]; exact Nat.mul_div_cancel _ (by omega)
                  omega
              have := run (some ⟨b, off, none⟩) len cap l n he (hl.elim (fun h => by simp at h) fun h => .inr h.2) (hn.elim (fun h => .inl ⟨h.2.1, h.2.2⟩) fun h => .inr h.2) (by omega) (by omega) (by omega)
              refine ⟨?_, .slc (cap - l.toNat) hok (by omega) (by omega) ?_ hb0 hz0⟩
              · rw [this, if_neg (by omega)]
                have e1 : n.toNat - l.toNat = (n - l).toNat := by omega
                simp [addr_add, e1]
              · rw [Nat.sub_mul, ← ht, hes]
                have : l.toNat * es ≤ cap * es := Nat.mul_le_mul_right _ (by omega)
                omega
          · rename_i p len es
            split at hg <;> simp only [Option.some.injEq, Prod.mk.injEq, reduceCtorEq] at hg
            rename_i l bl n bn hbl hbh
            obtain ⟨rfl, rfl⟩ := hg
            have hl := gbound_R hev hlo hbl
            have hn := gbound_R hev hhi hbh
            have hsl : ∃ A cap, a.eval x = .slice A len cap ∧ len ≤ cap := by
              rcases hR.ol_inv with ⟨rfl, he⟩ | ⟨h0, hR2⟩
              · exact ⟨_, _, he, Nat.le_refl _⟩
              · obtain ⟨cap, _, h1, _, _, he⟩ := hR2.sl_inv
                exact ⟨_, _, he, h1⟩
            obtain ⟨A, cap, he, hlc⟩ := hsl
            intro hc hpre hnew K Q hK
            have hc : 0 ≤ l ∧ l ≤ n ∧ n ≤ len := hc
            have := run A len cap l n he (hl.elim (fun h => .inl ⟨h.2.1, h.2.2⟩) fun h => .inr h.2) (hn.elim (fun h => .inl ⟨h.2.1, h.2.2⟩) fun h => .inr h.2) (by omega) (by omega) (by omega)
            exact wp_val hd this (hK _ W E Bs .any (Post.read hpre base))
          · rename_i len cs
            split at hg <;> simp only [Option.some.injEq, Prod.mk.injEq, reduceCtorEq] at hg
            rename_i l bl n bn hbl hbh
            obtain ⟨rfl, rfl⟩ := hg
            have hl := gbound_R hev hlo hbl
            have hn := gbound_R hev hhi hbh
            intro hc hpre hnew K Q hK
            obtain ⟨hc, hcl⟩ := hc
            have hcl : cs.length = len * ie.size := hcl
            have hl' : (lo = none ∧ l = 0) ∨ ∃ z k, lo = some z ∧ a.eval z = .int k l := hl.elim (fun h => .inl ⟨h.2.1, h.2.2⟩) fun h => .inr h.2
            have hn' : (hi = none ∧ n = len) ∨ ∃ z k, hi = some z ∧ a.eval z = .int k n := hn.elim (fun h => .inl ⟨h.2.1, h.2.2⟩) fun h => .inr h.2
            have hcut : (n - l).toNat = 0 → (GV.im (n - l).toNat ((cs.drop (l.toNat * ie.size)).take ((n - l).toNat * ie.size))) = .im 0 [] := fun h => by rw [h]; simp
            rcases hR.im_inv with ⟨rfl, rfl, A, cap, he⟩ | ⟨b, off, cap, vs, hI, hlc, hcell, hr, he⟩
            · have hr0 := run A 0 cap l n he hl' hn' (by omega) (by omega) (by omega)
              refine wp_val hd hr0 (hK _ W E Bs ?_ (Post.read hpre base))
              rw [hcut (by omega)]
              have : n.toNat - l.toNat = 0 := by omega
              rw [this]
              exact .im0 _ _
            · have hr0 := run (some ⟨b, off, none⟩) len cap l n he hl' hn' (by omega) (by omega) (by omega)
              refine wp_val hd hr0 (hK _ W E Bs ?_ (Post.read hpre base))
              rcases Nat.eq_zero_or_pos (n - l).toNat with h0 | h0
              · rw [hcut h0]
                have : n.toNat - l.toNat = 0 := by omega
                rw [this]
                exact .im0 _ _
              · rw [if_neg (by omega)]
                have e1 : n.toNat - l.toNat = (n - l).toNat := by omega
                rw [e1]
                simp only [Option.map_some, addr_add]
                refine .im b (off + l.toNat * ie.size) (cap - l.toNat) (fun j => vs (l.toNat * ie.size + j)) hI (by omega) (fun j c hj => ?_) (fun j c hj => ?_)
                · have hlt : j < (n - l).toNat * ie.size := by
                    rcases Nat.lt_or_ge j ((n - l).toNat * ie.size) with h | h
                    · exact h
                    · rw [List.getElem?_take_eq_none h] at hj
                      simp at hj
                  rw [List.getElem?_take_of_lt hlt, List.getElem?_drop] at hj
                  rw [Nat.add_assoc]
                  exact hcell _ _ hj
                · have hlt : j < (n - l).toNat * ie.size := by
                    rcases Nat.lt_or_ge j ((n - l).toNat * ie.size) with h | h
                    · exact h
                    · rw [List.getElem?_take_eq_none h] at hj
                      simp at hj
                  rw [List.getElem?_take_of_lt hlt, List.getElem?_drop] at hj
                  exact hr _ _ hj
          · split at hg <;> simp only [Option.some.injEq, Prod.mk.injEq, reduceCtorEq] at hg
            rename_i l bl n bn hbl hbh
            obtain ⟨rfl, rfl⟩ := hg
            have hl := gbound_R hev hlo hbl
            have hn := gbound_R hev hhi hbh
            have he := hR.nils_inv
            refine sound_plain (v := .slice none 0 0) hd fun hc => ⟨?_, .nils⟩
            have hc : l = 0 ∧ n = 0 := hc
            have hl' : (lo = none ∧ l = 0) ∨ ∃ z k, lo = some z ∧ a.eval z = .int k l := hl.elim (fun h => .inl ⟨h.2.1, by simpa using h.2.2⟩) fun h => .inr h.2
            have hn' : (hi = none ∧ n = ((0 : Nat) : Int)) ∨ ∃ z k, hi = some z ∧ a.eval z = .int k n := hn.elim (fun h => .inl ⟨h.2.1, h.2.2⟩) fun h => .inr h.2
            rw [run none 0 0 l n he hl' hn' (by omega) (by omega) (by omega)]
            simp [hc.1, hc.2]
          · simp at hg
        · simp at h
      · simp at h
    · simp at h
  · simp at h
theorem run_max2 {k : IntKind} : ∀ {xs : List GV} {m : Int} {g : GV} {vs : List Value}, gmax k m xs = some g → Rl W E xs vs → ∃ v, (vs.foldlM Builtin.max2 (.int k m)).run P W = .ok v W ∧ R W E g v
  | [], m, g, vs, h, hr => by
    simp [gmax] at h
    subst h
    obtain rfl : vs = [] := List.eq_nil_of_length_eq_zero (by rw [← hr.1]; rfl)
    exact ⟨_, by simp, .int⟩
  | x :: xs, m, g, vs, h, hr => by
    cases vs with
    | nil => have := hr.1; simp at this
    | cons v vs =>
      cases x <;> simp only [gmax, reduceCtorEq] at h
      rename_i k' b
      split at h
      · rename_i hk
        have hk := of_decide_eq_true hk
        subst hk
        have hv := (hr.2 0 _ v rfl rfl).int_inv
        subst hv
        obtain ⟨u, hu, hR⟩ := run_max2 h (vs := vs) ⟨by simpa using hr.1, fun j c w hc hw => hr.2 (j + 1) c w (by simpa using hc) (by simpa using hw)⟩
        exact ⟨u, by simp [List.foldlM_cons, Builtin.max2, hu], hR⟩
      · simp at h
theorem run_min2 {k : IntKind} : ∀ {xs : List GV} {m : Int} {g : GV} {vs : List Value}, gmin k m xs = some g → Rl W E xs vs → ∃ v, (vs.foldlM Builtin.min2 (.int k m)).run P W = .ok v W ∧ R W E g v
  | [], m, g, vs, h, hr => by
    simp [gmin] at h
    subst h
    obtain rfl : vs = [] := List.eq_nil_of_length_eq_zero (by rw [← hr.1]; rfl)
    exact ⟨_, by simp, .int⟩
  | x :: xs, m, g, vs, h, hr => by
    cases vs with
    | nil => have := hr.1; simp at this
    | cons v vs =>
      cases x <;> simp only [gmin, reduceCtorEq] at h
      rename_i k' b
      split at h
      · rename_i hk
        have hk := of_decide_eq_true hk
        subst hk
        have hv := (hr.2 0 _ v rfl rfl).int_inv
        subst hv
        obtain ⟨u, hu, hR⟩ := run_min2 h (vs := vs) ⟨by simpa using hr.1, fun j c w hc hw => hr.2 (j + 1) c w (by simpa using hc) (by simpa using hw)⟩
        exact ⟨u, by simp [List.foldlM_cons, Builtin.min2, hu], hR⟩
      · simp at h
end
end Go.Proofs.Ytalcipbagidbpaa
end

section
set_option linter.unusedVariables false
namespace Go.Proofs.Ytalcipbagidbpaa
section
variable {P : Program} {T : Tab} {ro : Option Nat} {o : Oper} {ev : Operand → Option GV} {hh : Nat → Option Ent} {base : Nat} {q : Option Stp} {dl : Dl}
variable {a : Act} {W : World} {E : Env} {Bs : Nat → Nat → Prop} {K : Act → World → Prop} {Q : Exit → Act → World → Prop}
/-- Entries that an operation takes away, and one new entry. -/
theorem Post.move {fpA fpx : List (Nat × Ent)} (h : Pre W E Bs (fpA ++ fpx)) (hdis : ∀ p e e', (p, e) ∈ fpA → (p, e') ∉ fpx) {base : Nat} (hok : ¬ E.ok base) (hb : ∀ e, (base, e) ∉ fpA ++ fpx)
    {W' : World} (hsize : W.heap.size ≤ W'.heap.size) (hos : W'.os = W.os) (htape : W'.tape = W.tape) (hout : W'.output = W.output)
    (hkeep : ∀ k, k < W.heap.size → (∀ p e, (p, e) ∈ fpA → ¬ Bs p k) → W'.heap[k]? = W.heap[k]?)
    {g : Nat} (hg : (∃ p e, (p, e) ∈ fpA ∧ Bs p g) ∨ W.heap.size ≤ g) {cur : Array Value} {ty : TypeId} {cs : List GV} (hcur : W'.heap[g]? = some (.cells cur ty (0, 0))) (hl : cs.length ≤ cur.size)
    (hR : ∀ (j : Nat) (c : GV), cs[j]? = some c → ∃ v, cur[j]? = some v ∧ R W E c v) :
    ∃ Bs', Post W E Bs W' (E.add base g cur.size) Bs' (fpA.map (fun x => (x.1, Ent.emp)) ++ fpx) base [.blk cs ty] := by
  let B1 : Nat → Nat → Prop := fun p k => Bs p k ∧ ∀ e, (p, e) ∉ fpA
  have hI : ∀ k, E.I k → W'.heap[k]? = W.heap[k]? := fun k hk => hkeep k (h.Ilt k hk) fun p e he hbk => (h.notI p e k (by simp [he]) hbk).1 hk
  have hL : Later W E W' (E.add base g cur.size) := .add hok hI
  have hglt : g < W'.heap.size := (Array.getElem?_eq_some_iff.1 hcur).1
  have mem : ∀ p, (∃ e, (p, e) ∈ fpA.map (fun x => (x.1, Ent.emp)) ++ fpx) ↔ (∃ e, (p, e) ∈ fpA) ∨ ∃ e, (p, e) ∈ fpx := by
    intro p
    constructor
    · rintro ⟨e, he⟩
      rcases List.mem_append.1 he with he | he
      · obtain ⟨x, hx, hxe⟩ := List.mem_map.1 he
        simp only [Prod.mk.injEq] at hxe
        exact .inl ⟨x.2, by rw [← hxe.1]; exact hx⟩
      · exact .inr ⟨e, he⟩
    · rintro (⟨e, he⟩ | ⟨e, he⟩)
      · exact ⟨.emp, List.mem_append_left _ (List.mem_map.2 ⟨_, he, rfl⟩)⟩
      · exact ⟨e, List.mem_append_right _ he⟩
  have hneb : ∀ p, (∃ e, (p, e) ∈ fpA.map (fun x => (x.1, Ent.emp)) ++ fpx) → p ≠ base := by
    rintro p hp rfl
    rcases (mem p).1 hp with ⟨e, he⟩ | ⟨e, he⟩
    · exact hb e (List.mem_append_left _ he)
    · exact hb e (List.mem_append_right _ he)
  have old : ∀ p, (∃ e, (p, e) ∈ fpA.map (fun x => (x.1, Ent.emp)) ++ fpx) ∨ (base ≤ p ∧ p < base + [Ent.blk cs ty].length) → p ≠ base → ∀ k, putB B1 base (· = g) p k →
      ∃ e, (p, e) ∈ fpx ∧ Bs p k := by
    intro p hp hpb k hk
    rw [putB_ne hpb] at hk
    rcases hp with hp | hp
    · rcases (mem p).1 hp with ⟨e, he⟩ | ⟨e, he⟩
      · exact absurd he (hk.2 e)
      · exact ⟨e, he, hk.1⟩
    · simp at hp; omega
  have gne : ∀ p e, (p, e) ∈ fpx → ¬ Bs p g := by
    intro p e he hbg
    rcases hg with ⟨p', e', he', hbg'⟩ | hg
    · exact h.disj p e p' e' g (by simp [he]) (by simp [he']) (fun eq => hdis p' e' e he' (eq ▸ he)) hbg hbg'
    · have := (h.notI p e g (by simp [he]) hbg).2; omega
  refine ⟨putB B1 base (· = g), hsize, hos, htape, hout, ?_, fun _ h => h, fun _ h => .inl h, fun k hk => Nat.lt_of_lt_of_le (h.Ilt k hk) hsize, fun p hp => ⟨hL.ok p hp, hL.bk p hp, hL.tot p hp⟩, ?_, ?_, ?_, ?_, ?_, ?_⟩
  · intro k hk hn
    exact hkeep k hk fun p e he => hn p .emp (List.mem_append_left _ (List.mem_map.2 ⟨_, he, rfl⟩))
  · rintro p (hp | rfl)
    · exact .inl hp
    · exact .inr ⟨Nat.le_refl _, by simp⟩
  · intro p e he
    rw [putB_ne (hneb p ⟨e, he⟩)]
    rcases List.mem_append.1 he with he | he
    · obtain ⟨x, hx, hxe⟩ := List.mem_map.1 he
      simp only [Prod.mk.injEq] at hxe
      obtain ⟨rfl, rfl⟩ := hxe
      exact fun k hk => hk.2 x.2 hx
    · have hB1 : B1 p = Bs p := by
        funext k
        exact propext ⟨fun h => h.1, fun hk => ⟨hk, fun e' he' => hdis p e' e he' he⟩⟩
      rw [hB1]
      refine (h.ent p e (by simp [he])).later hL fun k hk => hkeep k (h.notI p e k (by simp [he]) hk).2 fun p' e' he' hk' => ?_
      exact h.disj p e p' e' k (by simp [he]) (by simp [he']) (fun eq => hdis p' e' e he' (eq ▸ he)) hk hk'
  · intro j e he
    obtain ⟨rfl, rfl⟩ : j = 0 ∧ e = .blk cs ty := by
      cases j with
      | zero => simp at he; exact ⟨rfl, he.symm⟩
      | succ j => simp at he
    rw [Nat.add_zero, putB_same]
    refine ⟨.inr rfl, fun k => by simp [Env.add], cur, by simp only [Env.add, if_true]; exact hcur, by simp [Env.add], hl, fun j c hj => ?_⟩
    obtain ⟨v, hv, hr⟩ := hR j c hj
    exact ⟨v, hv, hr.later hL⟩
  · intro p k hp hk
    by_cases hpb : p = base
    · subst hpb
      rw [putB_same] at hk
      subst hk
      refine ⟨?_, hglt, fun hI => ?_⟩
      · rcases hg with ⟨p', e', he', hbg'⟩ | hg
        · exact .inl ⟨p', .emp, List.mem_append_left _ (List.mem_map.2 ⟨_, he', rfl⟩), hbg'⟩
        · exact .inr hg
      · rcases hg with ⟨p', e', he', hbg'⟩ | hg
        · exact (h.notI p' e' _ (by simp [he']) hbg').1 hI
        · have := h.Ilt _ hI; omega
    · obtain ⟨e, he, hbk⟩ := old p hp hpb k hk
      have := h.notI p e k (by simp [he]) hbk
      exact ⟨.inl ⟨p, e, List.mem_append_right _ he, hbk⟩, by omega, this.1⟩
  · intro p r k hp hr hpr hk hk'
    by_cases hpb : p = base
    · subst hpb
      rw [putB_same] at hk
      subst hk
      obtain ⟨e, he, hbk⟩ := old r hr (Ne.symm hpr) _ hk'
      exact gne r e he hbk
    · by_cases hrb : r = base
      · subst hrb
        rw [putB_same] at hk'
        subst hk'
        obtain ⟨e, he, hbk⟩ := old p hp hpb _ hk
        exact gne p e he hbk
      · obtain ⟨e, he, hbk⟩ := old p hp hpb _ hk
        obtain ⟨e', he', hbk'⟩ := old r hr hrb _ hk'
        exact h.disj p e r e' k (by simp [he]) (by simp [he']) hpr hbk hbk'
  · intro p hp hn
    have hpb : p ≠ base := fun e => hn ⟨by omega, by simp; omega⟩
    rw [putB_ne hpb]
    funext k
    exact propext ⟨fun h => h.1, fun hk => ⟨hk, fun e he => hp .emp (List.mem_append_left _ (List.mem_map.2 ⟨_, he, rfl⟩))⟩⟩
/-- What the source of an append holds. -/
theorem gsrc_R {es : Nat} {g : GV} {v : Value} {new : List GV} {m : Nat} {fpx : List (Nat × Ent)} {cx : List Prop} (h : gsrc hh es g = some (new, m, fpx, cx)) (hc : allP cx) (hR : R W E g v)
    (hpre : ∀ p e, (p, e) ∈ fpx → EntSat W E p e (Bs p)) :
    new.length = m * es ∧ (m = 0 ∧ (∃ A c, v = .slice A 0 c) ∨ ∃ b off c, v = .slice (some ⟨b, off, none⟩) m c ∧ ∃ news : List Value, Rl W E new news ∧ ∀ (j : Nat) (u : Value), news[j]? = some u → W.cell? ⟨b, off + j, none⟩ = some u) := by
  unfold gsrc at h
  split at h
  · simp only [Option.some.injEq, Prod.mk.injEq] at h
    obtain ⟨rfl, rfl, rfl, rfl⟩ := h
    exact ⟨by simp, .inl ⟨rfl, none, 0, hR.nils_inv⟩⟩
  · rename_i len cs
    simp only [Option.some.injEq, Prod.mk.injEq] at h
    obtain ⟨rfl, rfl, rfl, rfl⟩ := h
    have hc : cs.length = len * es := hc
    refine ⟨hc, ?_⟩
    rcases hR.im_inv with ⟨rfl, rfl, A, cap, he⟩ | ⟨b, off, cap, vs, hI, hlc, hcell, hr, he⟩
    · exact .inl ⟨rfl, A, cap, he⟩
    · refine .inr ⟨b, off, cap, he, (List.range cs.length).map vs, ⟨by simp, fun j c u hj hu => ?_⟩, fun j u hu => ?_⟩
      · have hlt := (List.getElem?_eq_some_iff.1 hj).1
        simp [hlt] at hu
        subst hu
        exact hr j c hj
      · have hlt : j < cs.length := by have := (List.getElem?_eq_some_iff.1 hu).1; simpa using this
        simp [hlt] at hu
        subst hu
        exact hcell j _ (List.getElem?_eq_getElem hlt)
  · rename_i p off len es'
    split at h <;> simp only [Option.some.injEq, Prod.mk.injEq, reduceCtorEq] at h
    rename_i cs ty hb hp
    have hb := Nat.eq_of_beq_eq_true hb
    obtain ⟨rfl, rfl, rfl, rfl⟩ := h
    have hc : off + len * es ≤ cs.length := hc
    obtain ⟨cap, hok, hlc, hm, ht, he⟩ := hR.sl_inv
    obtain ⟨_, hB, arr, ha, htot, hl, vs, hvs, hcell, hr⟩ := (hpre p (.blk cs ty) (by simp)).blk_inv
    have hlen : ((cs.drop off).take (len * es)).length = len * es := by rw [List.length_take, List.length_drop]; omega
    refine ⟨hlen, .inr ⟨E.bk p, off, cap, he, (List.range (len * es)).map fun j => vs (off + j), ⟨by simp [hlen], fun j c u hj hu => ?_⟩, fun j u hu => ?_⟩⟩
    · have hlt : j < len * es := by have := (List.getElem?_eq_some_iff.1 hj).1; omega
      simp [hlt] at hu
      subst hu
      rw [List.getElem?_take_of_lt hlt, List.getElem?_drop] at hj
      exact hr _ _ hj
    · have hlt : j < len * es := by have := (List.getElem?_eq_some_iff.1 hu).1; simpa using this
      simp [hlt] at hu
      subst hu
      have := hcell (off + j) _ (List.getElem?_eq_getElem (by omega))
      rw [Nat.zero_add] at this
      exact this
  · simp at h
theorem run_append_zero {t ty e : TypeId} {ie : TI} {A B : Option Addr} {n c c' : Nat} (ht : P.underlying t = some (.slice e)) (hie : TIok P e ie) (hn : n ≤ c) :
    (Builtin.append_ #[t, t] ty #[.slice A n c, .slice B 0 c']).run P W = .ok (.slice A n c) W := by
  cases A <;> cases B <;> simp [Builtin.append_, run_underlying ht, hie.run_sizeOf, Builtin.lenOf, Builtin.firstCells, hn, loadCells, loadCellsFrom, storeCells]
theorem GV.scalar_oneCell {new : List GV} {news : List Value} (h : Rl W E new news) (hs : new.all GV.scalar = true) : ∀ u ∈ news, u.oneCell' = true := by
  intro u hu
  rw [List.all_eq_true] at hs
  obtain ⟨j, hj⟩ := List.getElem?_of_mem hu
  have hlt : j < new.length := by rw [h.1]; exact (List.getElem?_eq_some_iff.1 hj).1
  exact (h.2 j _ u (List.getElem?_eq_getElem hlt) hj).scalar (hs _ (List.getElem_mem hlt))
theorem append_core {t e : TypeId} {ie : TI} {s x : GV} {sv xv : Value} (hd : ∀ c, o.op ≠ .defer c) (hu : P.underlying t = some (.slice e)) (hie' : TIok P e ie) (hRs : R W E s sv) (hRx : R W E x xv)
    (hrunE : ∀ v W', (Builtin.append_ #[t, t] o.type #[sv, xv]).run P W = .ok v W' → (execOp a.eval o).run P W = .ok (.value v) W')
    (h : gappend hh base e ie.size ie.bytes s x = some dl) (hol : ∀ p len es, s ≠ .ol p len es) : Sound P ro o dl base a W E Bs := by
  unfold gappend at h
  split at h
  · simp at h
  · rename_i new m fpx cx hsrc
    obtain ⟨ti, z, hti, hsz, hby, htz, hzc, hzs⟩ := hie'.info
    split at h
    · -- onto nil
      have hsv := hRs.nils_inv
      split at h <;> simp only [Option.some.injEq] at h
      · subst h
        intro hc hpre hnew K Q hK
        obtain ⟨hnl, hx⟩ := gsrc_R hsrc hc hRx hpre.ent
        refine wp_val hd (hrunE (.slice none 0 0) W ?_) (hK _ W E Bs .nils (Post.read hpre base))
        rw [hsv]
        rcases hx with ⟨_, A, c', hx⟩ | ⟨b, off, c', hx, _⟩
        · rw [hx]; exact run_append_zero hu hie' (Nat.le_refl _)
        · rw [hx]; exact run_append_zero hu hie' (Nat.le_refl _)
      · rename_i m
        subst h
        intro hc hpre hnew K Q hK
        have hcx : allP cx ∧ m + 1 ≤ room ∧ new.all GV.scalar = true ∧ 0 < ie.size ∧ ie.bytes ≤ 65536 := hc
        obtain ⟨hcx, hroom, hsc, hpos, hbytes⟩ := hcx
        obtain ⟨hnl, hx⟩ := gsrc_R hsrc hcx hRx hpre.ent
        have hnl : new.length = (m + 1) * ie.size := hnl
        rcases hx with ⟨h0, _⟩ | ⟨b, off, c', hx, news, hrl, hcell⟩
        · omega
        have hnews : news.length = (m + 1) * ie.size := by rw [← hrl.1, hnl]
        have hb64 : (0 + (m + 1)) * ie.bytes ≤ 140737488355328 := by
          unfold room at hroom
          calc (0 + (m + 1)) * ie.bytes ≤ 2 ^ 30 * 65536 := Nat.mul_le_mul (by omega) hbytes
            _ ≤ _ := by decide
        obtain ⟨v', W', hrun, hown, hgr, hnil, hat⟩ := run_append_own_at (P := P) W 0 t o.type e ti z ie.size ie.bytes hu hti htz hsz hby hzs hpos (.slice none 0 0) 0 [] ⟨by simp, .inl ⟨rfl, rfl⟩⟩
          ⟨b, off, none⟩ (m + 1) c' news hnews (fun j u hj => by rw [addr_add]; exact hcell j u hj) (GV.scalar_oneCell hrl hsc) (by unfold maxLen; unfold room at hroom; omega) hb64 (by omega)
        have hv'ne : v' ≠ .slice none 0 0 := fun e => by have := (hnil.1 e).2; omega
        obtain ⟨hxl, hown⟩ := hown
        rcases hown with ⟨h, _⟩ | ⟨g, cap, cur, rfl, _, hcur, hncap, hcapm, hcs, htake⟩
        · exact absurd h hv'ne
        have hgs : W.heap.size ≤ g := by
          rcases hat with hat | hat
          · simp [Value.ownBlock] at hat
          · simp [Value.ownBlock] at hat; omega
        have hbn := hnew base (Nat.le_refl _) (by simp)
        simp only [List.nil_append, Nat.zero_add] at htake hxl
        obtain ⟨Bs', hpost⟩ := Post.move (fpA := []) (fpx := fpx) (by simpa using hpre) (fun p e e' he => by simp at he) hbn.1 (by simpa using hbn.2) hgr.size hgr.os hgr.tape hgr.output
          (fun k hk _ => hgr.block k hk (by simp [Value.ownBlock])) (.inr hgs) hcur (cs := new) (by rw [hnl, hcs]; exact Nat.mul_le_mul_right _ (by omega)) (fun j c hj => by
            have hlt : j < (m + 1) * ie.size := by have := (List.getElem?_eq_some_iff.1 hj).1; omega
            have hltn : j < news.length := by omega
            refine ⟨news[j], ?_, hrl.2 j c _ hj (by simp [hltn])⟩
            have : (cur.toList.take ((m + 1) * ie.size))[j]? = some news[j] := by rw [htake]; simp [hltn]
            rw [List.getElem?_take_of_lt hlt] at this
            simpa using this)
        refine wp_val hd (hrunE _ W' (by rw [hsv, hx]; exact hrun)) (hK _ W' _ Bs' ?_ (by simpa using hpost))
        have hbk : (E.add base g cur.size).bk base = g := by simp [Env.add]
        have hr : R W' (E.add base g cur.size) (.sl base 0 (m + 1) ie.size) (.slice (some ⟨(E.add base g cur.size).bk base, 0, none⟩) (m + 1) cap) :=
          .sl cap (Or.inr rfl) (by omega) hcapm (by simp [Env.add, hcs])
        rw [hbk] at hr
        simpa using hr
    · -- onto an own slice
      rename_i _ p len es'
      split at h <;> simp only [Option.some.injEq, reduceCtorEq] at h
      rename_i cs ty hb hp
      have hb := Nat.eq_of_beq_eq_true hb
      subst hb
      subst h
      intro hc hpre hnew K Q hK
      have hcx : allP cx ∧ ty = e ∧ len * ie.size ≤ cs.length ∧ len + m ≤ room ∧ new.all GV.scalar = true ∧ noKey p fpx = true ∧ 0 < ie.size ∧ ie.bytes ≤ 65536 := hc
      obtain ⟨hcx, hty, hlen, hroom, hsc, hne', hpos, hbytes⟩ := hcx
      have hne := noKey_spec hne'
      subst hty
      have hpre' : Pre W E Bs ([(p, .blk cs ty)] ++ fpx) := hpre
      obtain ⟨hnl, hx⟩ := gsrc_R hsrc hcx hRx (fun p e he => hpre'.ent p e (by simp [he]))
      obtain ⟨cap, hok, hlc, hm, htot, hsv⟩ := hRs.sl_inv
      obtain ⟨_, hB, arr, ha, hsize, hl, hcells⟩ := hpre'.ent p (.blk cs ty) (by simp)
      have hbn := hnew base (Nat.le_refl _) (by simp)
      have hBp : Bs p (E.bk p) := (hB _).2 rfl
      have hcap : arr.size = cap * ie.size := by omega
      let xs : List Value := arr.toList.take (len * ie.size)
      have hxs : xs.length = len * ie.size := by
        have := Nat.mul_le_mul_right ie.size hlc
        simp only [xs, List.length_take, Array.length_toList]; omega
      have hrlx : Rl W E (cs.take (len * ie.size)) xs := ⟨by rw [hxs, List.length_take]; omega, fun j c v hj hv => by
        have hlt : j < len * ie.size := by have := (List.getElem?_eq_some_iff.1 hj).1; rw [List.length_take] at this; omega
        rw [List.getElem?_take_of_lt hlt] at hj
        simp only [xs] at hv
        rw [List.getElem?_take_of_lt hlt] at hv
        obtain ⟨u, hu, hr⟩ := hcells j c hj
        have : arr.toList[j]? = some u := by simpa using hu
        rw [this] at hv
        injection hv with hv
        exact hv ▸ hr⟩
      -- the run
      have key : ∃ g cap' cur W' news, (Builtin.append_ #[t, t] o.type #[sv, xv]).run P W = .ok (.slice (some ⟨g, 0, none⟩) (len + m) cap') W' ∧
          W.grownBy W' (some (E.bk p)) ∧ W'.heap[g]? = some (.cells cur ty (0, 0)) ∧ len + m ≤ cap' ∧ cap' ≤ maxLen ∧ cur.size = cap' * ie.size ∧ cur.toList.take ((len + m) * ie.size) = xs ++ news ∧
          (g = E.bk p ∨ W.heap.size ≤ g) ∧ Rl W E new news := by
        rcases hx with ⟨rfl, A, c', hx⟩ | ⟨b, off, c', hx, news, hrl, hcell⟩
        · refine ⟨E.bk p, cap, arr, W, [], by rw [hsv, hx]; simpa using run_append_zero hu hie' hlc, ⟨rfl, rfl, rfl, Nat.le_refl _, fun _ _ _ => rfl⟩, ha, by omega, hm, hcap, by simp [xs], .inl rfl, ?_⟩
          have : new = [] := List.eq_nil_of_length_eq_zero (by rw [hnl]; simp)
          rw [this]
          exact .nil
        · have hnews : news.length = m * ie.size := by rw [← hrl.1, hnl]
          have hb64 : (len + m) * ie.bytes ≤ 140737488355328 := by
            unfold room at hroom
            calc (len + m) * ie.bytes ≤ 2 ^ 30 * 65536 := Nat.mul_le_mul (by omega) hbytes
              _ ≤ _ := by decide
          obtain ⟨v', W', hrun, hown, hgr, hnil, hat⟩ := run_append_own_at (P := P) W 0 t o.type ty ti z ie.size ie.bytes hu hti htz hsz hby hzs hpos (.slice (some ⟨E.bk p, 0, none⟩) len cap) len xs
            ⟨hxs, .inr ⟨E.bk p, cap, arr, rfl, by omega, ha, hlc, hm, hcap, rfl⟩⟩
            ⟨b, off, none⟩ m c' news hnews (fun j u hj => by rw [addr_add]; exact hcell j u hj) (GV.scalar_oneCell hrl hsc) (by unfold maxLen; unfold room at hroom; omega) hb64 (by omega)
          obtain ⟨hxl, hown⟩ := hown
          rcases hown with ⟨h, _⟩ | ⟨g, cap', cur, rfl, _, hcur, hncap, hcapm, hcs, htake⟩
          · have := (hnil.1 h).1
            simp at this
          refine ⟨g, cap', cur, W', news, by rw [hsv, hx]; exact hrun, hgr, hcur, hncap, hcapm, hcs, htake, ?_, hrl⟩
          rcases hat with hat | hat
          · simp [Value.ownBlock] at hat; exact .inl hat
          · simp [Value.ownBlock] at hat; exact .inr (by omega)
      obtain ⟨g, cap', cur, W', news, hrun, hgr, hcur, hncap, hcapm, hcs, htake, hg, hrl⟩ := key
      have hall := hrlx.append hrl
      obtain ⟨Bs', hpost⟩ := Post.move (fpA := [(p, .blk cs ty)]) (fpx := fpx) hpre' (fun p' e e' he he' => by simp at he; exact hne _ he' he.1) hbn.1 (by simpa using hbn.2) hgr.size hgr.os hgr.tape hgr.output
        (fun k hk hn => hgr.block k hk (fun e => hn p _ (by simp; rfl) (by injection e with e; rw [e]; exact hBp))) (hg.elim (fun h => .inl ⟨p, _, by simp; rfl, h ▸ hBp⟩) .inr) hcur
        (cs := cs.take (len * ie.size) ++ new) (by
          rw [List.length_append, List.length_take, hnl, hcs, Nat.min_eq_left hlen, ← Nat.add_mul]
          exact Nat.mul_le_mul_right _ hncap) (fun j c hj => by
            have hlt : j < (len + m) * ie.size := by
              have := (List.getElem?_eq_some_iff.1 hj).1
              rw [List.length_append, List.length_take, hnl, Nat.min_eq_left hlen, ← Nat.add_mul] at this
              exact this
            have hltn : j < (xs ++ news).length := by rw [← hall.1]; exact (List.getElem?_eq_some_iff.1 hj).1
            refine ⟨(xs ++ news)[j], ?_, hall.2 j c _ hj (List.getElem?_eq_getElem hltn)⟩
            have : (cur.toList.take ((len + m) * ie.size))[j]? = some (xs ++ news)[j] := by rw [htake]; exact List.getElem?_eq_getElem hltn
            rw [List.getElem?_take_of_lt hlt] at this
            simpa using this)
      refine wp_val hd (hrunE _ W' hrun) (hK _ W' _ Bs' ?_ (by simpa using hpost))
      have hbk : (E.add base g cur.size).bk base = g := by simp [Env.add]
      have hr : R W' (E.add base g cur.size) (.sl base 0 (len + m) ie.size) (.slice (some ⟨(E.add base g cur.size).bk base, 0, none⟩) (len + m) cap') :=
        .sl cap' (Or.inr rfl) hncap hcapm (by simp [Env.add, hcs])
      rw [hbk] at hr
      exact hr
    · rename_i _ p len es; exact absurd rfl (hol p len es)
    · simp at h
theorem Post.weaken {W W' : World} {E E' : Env} {Bs Bs' : Nat → Nat → Prop} {upd1 upd2 : List (Nat × Ent)} {base : Nat} {new1 new2 : List Ent} (h : Post W E Bs W' E' Bs' upd1 base new1) (Bs2 : Nat → Nat → Prop)
    (hB : ∀ q k, Bs2 q k → Bs' q k) (hkeys : ∀ p, (∃ e, (p, e) ∈ upd1) → ∃ e, (p, e) ∈ upd2) (hlen : new1.length ≤ new2.length)
    (hent : ∀ p e, (p, e) ∈ upd2 → EntSat W' E' p e (Bs2 p)) (hentn : ∀ (j : Nat) (e : Ent), new2[j]? = some e → EntSat W' E' (base + j) e (Bs2 (base + j)))
    (hpos : ∀ p k, Bs2 p k → ((∃ e, (p, e) ∈ upd2) ∨ (base ≤ p ∧ p < base + new2.length)) → ((∃ e, (p, e) ∈ upd1) ∨ (base ≤ p ∧ p < base + new1.length)))
    (hsame : ∀ p, (∀ e, (p, e) ∉ upd2) → ¬ (base ≤ p ∧ p < base + new2.length) → Bs2 p = Bs' p) : Post W E Bs W' E' Bs2 upd2 base new2 where
  size := h.size
  os := h.os
  tape := h.tape
  output := h.output
  keep k hk hn := h.keep k hk fun p e he hb => by
    obtain ⟨e', he'⟩ := hkeys p ⟨e, he⟩
    exact hn p e' he' hb
  Isub := h.Isub
  Inew k hk := by
    rcases h.Inew k hk with h | ⟨p, e, he, hb⟩ | h
    · exact .inl h
    · obtain ⟨e', he'⟩ := hkeys p ⟨e, he⟩
      exact .inr (.inl ⟨p, e', he', hb⟩)
    · exact .inr (.inr h)
  Ilt := h.Ilt
  ok := h.ok
  okn p hp := by
    rcases h.okn p hp with h | h
    · exact .inl h
    · exact .inr ⟨h.1, by omega⟩
  ent := hent
  entn := hentn
  own p k hp hb := by
    obtain ⟨h1, h2⟩ := h.own p k (hpos p k hb hp) (hB p k hb)
    refine ⟨?_, h2⟩
    rcases h1 with ⟨q, e, he, hq⟩ | h1
    · obtain ⟨e', he'⟩ := hkeys q ⟨e, he⟩
      exact .inl ⟨q, e', he', hq⟩
    · exact .inr h1
  disj p q k hp hq hne hb hb' := h.disj p q k (hpos p k hb hp) (hpos q k hb' hq) hne (hB p k hb) (hB q k hb')
  same p hn hr := by
    rw [hsame p hn hr]
    exact h.same p (fun e he => by obtain ⟨e', he'⟩ := hkeys p ⟨e, he⟩; exact hn e' he') fun h => hr ⟨h.1, by omega⟩
theorem append_all {t e : TypeId} {ie : TI} {s x : GV} {sv xv : Value} (hd : ∀ c, o.op ≠ .defer c) (hu : P.underlying t = some (.slice e)) (hie' : TIok P e ie) (hRs : R W E s sv) (hRx : R W E x xv)
    (hrunE : ∀ v W', (Builtin.append_ #[t, t] o.type #[sv, xv]).run P W = .ok v W' → (execOp a.eval o).run P W = .ok (.value v) W')
    (h : gappend hh base e ie.size ie.bytes s x = some dl) : Sound P ro o dl base a W E Bs := by
  by_cases hol : ∃ p len es, s = .ol p len es
  case neg => exact append_core hd hu hie' hRs hRx hrunE h fun p len es e => hol ⟨p, len, es, e⟩
  obtain ⟨p, len, es', rfl⟩ := hol
  unfold gappend at h
  split at h
  · simp at h
  rename_i new m fpx cx hsrc
  simp only at h
  split at h <;> simp only [Option.some.injEq, reduceCtorEq] at h
  rename_i cs ty hb hp
  have hb := Nat.eq_of_beq_eq_true hb
  subst hb
  subst h
  intro hc hpre hnew K Q hK
  have hcx : allP cx ∧ ty = e ∧ cs.length = len * ie.size ∧ len + m ≤ room ∧ new.all GV.scalar = true ∧ noKey p fpx = true ∧ 0 < ie.size ∧ ie.bytes ≤ 65536 := hc
  obtain ⟨hcx, rfl, hlen, hroom, hsc, hne', hpos, hbytes⟩ := hcx
  have hne := noKey_spec hne'
  have hpre' : Pre W E Bs ([(p, .ob cs ty)] ++ fpx) := hpre
  have hprex : Pre W E Bs fpx := ⟨fun q e he => hpre'.ent q e (by simp [he]), fun q e q' e' k he he' => hpre'.disj q e q' e' k (by simp [he]) (by simp [he']), fun q e k he => hpre'.notI q e k (by simp [he]), hpre'.Ilt⟩
  have hbn := hnew base (Nat.le_refl _) (by simp)
  have hpb : p ≠ base := fun e => hbn.2 (.ob cs ty) (by simp [e])
  have hxb : ∀ e, (base, e) ∉ fpx := fun e he => hbn.2 e (by simp [he])
  rcases hRs.ol_inv with ⟨rfl, rfl⟩ | ⟨h0, hRs'⟩
  · -- nil
    have hcs : cs = [] := List.eq_nil_of_length_eq_zero (by omega)
    subst hcs
    cases m with
    | zero =>
      have hn0 : new = [] := by
        obtain ⟨hnl, _⟩ := gsrc_R hsrc hcx hRx hprex.ent
        exact List.eq_nil_of_length_eq_zero (by rw [hnl]; simp)
      subst hn0
      refine append_core (base := base) (s := .nils) (dl := { res := .nils, fp := fpx, upd := fpx, cons := cx }) hd hu hie' .nils hRx hrunE (by unfold gappend; rw [hsrc]) (fun _ _ _ e => by simp at e) hcx hprex (fun q h1 h2 => by simp at h2; omega) K Q fun v W' E' Bs' hR hpost => ?_
      refine hK v W' E' (fun q k => q ≠ p ∧ q ≠ base ∧ Bs' q k) (by rw [hR.nils_inv]; exact .ol0) ?_
      refine Post.weaken hpost _ (fun q k h => h.2.2) (fun q ⟨e, he⟩ => ⟨e, by simp [he]⟩) (by simp) ?_ ?_ ?_ ?_
      · intro q e he
        rcases List.mem_cons.1 he with he | he
        · injection he with h1 h2; subst h1; subst h2; exact fun k hk => hk.1 rfl
        · have : (fun k => q ≠ p ∧ q ≠ base ∧ Bs' q k) = Bs' q := by funext k; exact propext ⟨fun h => h.2.2, fun h => ⟨hne _ he, fun e' => hxb _ (e' ▸ he), h⟩⟩
          rw [this]; exact hpost.ent q e he
      · intro j e he
        cases j with
        | zero => simp at he; subst he; exact .inl ⟨rfl, fun k hk => hk.2.1 rfl⟩
        | succ j => simp at he
      · intro q k hk hq
        rcases hq with ⟨e, he⟩ | ⟨h1, h2⟩
        · rcases List.mem_cons.1 he with he | he
          · injection he with h1 h2; exact absurd h1 hk.1
          · exact .inl ⟨e, he⟩
        · simp at h2; exact absurd (by omega) hk.2.1
      · intro q hn hr
        funext k
        exact propext ⟨fun h => h.2.2, fun h => ⟨fun e => hn .emp (by simp [e]), fun e => hr (by subst e; simp), h⟩⟩
    | succ m =>
      refine append_core (base := base) (s := .nils) (dl := { res := .sl base 0 (m + 1) ie.size, fp := fpx, upd := fpx, new := [.blk new ty], cons := allP cx :: [m + 1 ≤ room, new.all GV.scalar = true, 0 < ie.size ∧ ie.bytes ≤ 65536] }) hd hu hie' .nils hRx hrunE (by unfold gappend; rw [hsrc]) (fun _ _ _ e => by simp at e)
        ⟨hcx, by omega, hsc, hpos, hbytes⟩ hprex (fun q h1 h2 => by simp at h2; obtain rfl : q = base := (by omega); exact ⟨hbn.1, hxb⟩) K Q fun v W' E' Bs' hR hpost => ?_
      have hR : R W' E' (.sl base 0 (m + 1) ie.size) v := hR
      refine hK v W' E' (fun q k => q ≠ p ∧ Bs' q k) (by have := hR.sl_ol (by omega); simpa using this) ?_
      refine Post.weaken hpost _ (fun q k h => h.2) (fun q ⟨e, he⟩ => ⟨e, by simp [he]⟩) (by simp) ?_ ?_ ?_ ?_
      · intro q e he
        rcases List.mem_cons.1 he with he | he
        · injection he with h1 h2; subst h1; subst h2; exact fun k hk => hk.1 rfl
        · have : (fun k => q ≠ p ∧ Bs' q k) = Bs' q := by funext k; exact propext ⟨fun h => h.2, fun h => ⟨hne _ he, h⟩⟩
          rw [this]; exact hpost.ent q e he
      · intro j e he
        cases j with
        | zero =>
          simp at he; subst he
          have h1 := hpost.entn 0 _ rfl
          have : (fun k => base + 0 ≠ p ∧ Bs' (base + 0) k) = Bs' (base + 0) := by funext k; exact propext ⟨fun h => h.2, fun h => ⟨fun e => hpb (by omega), h⟩⟩
          rw [this]
          exact .inr h1
        | succ j => simp at he
      · intro q k hk hq
        rcases hq with ⟨e, he⟩ | h2
        · rcases List.mem_cons.1 he with he | he
          · injection he with h1 h2; exact absurd h1 hk.1
          · exact .inl ⟨e, he⟩
        · exact .inr h2
      · intro q hn hr
        funext k
        exact propext ⟨fun h => h.2, fun h => ⟨fun e => hn .emp (by simp [e]), h⟩⟩
  · -- own
    have hcs : cs ≠ [] := fun e => by subst e; have := Nat.mul_pos h0 hpos; simp at hlen; omega
    have hpreb : Pre W E Bs ([(p, .blk cs ty)] ++ fpx) := by
      refine ⟨fun q e he => ?_, fun q e q' e' k he he' => ?_, fun q e k he => ?_, hpre'.Ilt⟩
      · rcases List.mem_cons.1 he with he | he
        · injection he with h1 h2; subst h1; subst h2
          rcases hpre'.ent q (.ob cs ty) (by simp) with h | h
          · exact absurd h.1 hcs
          · exact h
        · exact hprex.ent q e he
      · have f : ∀ q e, (q, e) ∈ [(p, Ent.blk cs ty)] ++ fpx → ∃ e', (q, e') ∈ [(p, Ent.ob cs ty)] ++ fpx := by
          intro q e he
          rcases List.mem_cons.1 he with he | he
          · injection he with h1 h2; subst h1; exact ⟨_, by simp; exact .inl rfl⟩
          · exact ⟨e, List.mem_cons_of_mem _ he⟩
        obtain ⟨_, h1⟩ := f q e he
        obtain ⟨_, h2⟩ := f q' e' he'
        exact hpre'.disj q _ q' _ k h1 h2
      · rcases List.mem_cons.1 he with he | he
        · injection he with h1 h2; subst h1; exact hpre'.notI q (.ob cs ty) k (by simp)
        · exact hprex.notI q e k he
    refine append_core (base := base) (s := .sl p 0 len ie.size) (hh := fun q => if q = p then some (.blk cs ty) else hh q) (dl := { res := .sl base 0 (len + m) ie.size, fp := (p, .blk cs ty) :: fpx, upd := (p, .emp) :: fpx, new := [.blk (cs.take (len * ie.size) ++ new) ty], cons := allP cx :: [ty = ty, len * ie.size ≤ cs.length, len + m ≤ room, new.all GV.scalar = true, noKey p fpx = true, 0 < ie.size ∧ ie.bytes ≤ 65536] })
      hd hu hie' hRs' hRx hrunE ?_ (fun _ _ _ e => by simp at e) ⟨hcx, rfl, by omega, hroom, hsc, hne', hpos, hbytes⟩ hpreb (fun q h1 h2 => by simp at h2; obtain rfl : q = base := (by omega); exact ⟨hbn.1, fun e he => by rcases List.mem_cons.1 he with he | he; exact hpb (by injection he with h1 h2; exact h1.symm); exact hxb e he⟩) K Q fun v W' E' Bs' hR hpost => ?_
    · have hs2 : gsrc (fun q => if q = p then some (.blk cs ty) else hh q) ie.size x = some (new, m, fpx, cx) := by
        rw [← hsrc]
        cases x <;> first | rfl | skip
        rename_i q off l es2
        simp only [gsrc] at hsrc ⊢
        by_cases hq : q = p
        · subst hq
          rw [hp] at hsrc
          cases hbb : Nat.beq ie.size es2 <;> simp [hbb] at hsrc
        · rw [if_neg hq]
      unfold gappend
      rw [hs2]
      have hbe : Nat.beq ie.size ie.size = true := Nat.beq_refl _
      simp only [hbe, if_true]
    · have hR : R W' E' (.sl base 0 (len + m) ie.size) v := hR
      refine hK v W' E' Bs' (hR.sl_ol (by omega)) ?_
      refine Post.weaken hpost Bs' (fun q k h => h) (fun q h => h) (by simp) hpost.ent ?_ (fun q k _ h => h) fun _ _ _ => rfl
      intro j e he
      cases j with
      | zero => simp at he; subst he; exact .inr (hpost.entn 0 _ rfl)
      | succ j => simp at he
theorem zeroCells_rl {e : TypeId} {ie : TI} {ti : TypeInfo} {z : Value} (hpos : 0 < ie.size) (hzc : constL z.cells.toList = some ie.zero) (hzs : z.cells.size = ie.size) (n : Nat) :
    Rl W E (repeatL n ie.zero) (Builtin.zeroCells z.cells n).toList := by
  obtain ⟨hl, hr⟩ := constL_R (W := W) (E := E) hzc
  have hl' : ie.zero.length = ie.size := by rw [hl]; simpa using hzs
  obtain ⟨h1, h2⟩ := repeatL_get ie.zero n
  refine ⟨by rw [h1]; simp [Builtin.zeroCells, hzs, hl'], fun j c v hj hv => ?_⟩
  have hj' : j < n * ie.zero.length := by rw [← h1]; exact (List.getElem?_eq_some_iff.1 hj).1
  rw [h2 j hj'] at hj
  have hv' : (Builtin.zeroCells z.cells n)[j]? = some v := by simpa using hv
  have hjs : j < n * z.cells.size := by rw [hzs, ← hl']; exact hj'
  simp only [Builtin.zeroCells, Array.getElem?_map, Array.getElem?_range, if_pos hjs, Option.map_some, Option.some.injEq] at hv'
  have hm : j % z.cells.size < z.cells.size := Nat.mod_lt _ (by omega)
  refine hr (j % ie.zero.length) c v hj ?_
  rw [← hv', hl', ← hzs]
  simp [getElem!_pos, hm]
theorem appz_core {t t' e : TypeId} {ie : TI} {kn : IntKind} {s : GV} {sv : Value} {k : Int} (hd : ∀ c, o.op ≠ .defer c) (hu : P.underlying t = some (.slice e)) (hu' : P.underlying t' = some (.int kn)) (hie' : TIok P e ie) (hRs : R W E s sv)
    (hrunE : ∀ v W', (Builtin.append_ #[t, t'] o.type #[sv, .int .i64 k]).run P W = .ok v W' → (execOp a.eval o).run P W = .ok (.value v) W')
    (h : gappz hh base e ie.size ie.bytes ie.zero s k = some dl) : Sound P ro o dl base a W E Bs := by
  unfold gappz at h
  obtain ⟨ti, z, hti, hsz, hby, htz, hzc, hzs⟩ := hie'.info
  split at h
  · rename_i p off len es' b zz
    split at h <;> simp only [Option.some.injEq, reduceCtorEq] at h
    rename_i cs ty hb hp
    have hes := Nat.eq_of_beq_eq_true hb
    subst hes
    subst h
    intro hc hpre hnew K Q hK
    have hc : 0 < k ∧ (zz - off) / ie.size < len + k.toNat ∧ off + len * ie.size ≤ cs.length ∧ len + k.toNat ≤ room ∧ 0 < ie.size ∧ ie.bytes ≤ 65536 := hc
    obtain ⟨hk, hfull, hlen, hroom, hpos, hbytes⟩ := hc
    obtain ⟨cap, hok, hlc, hm, ht, hbk, htot, rfl⟩ := hRs.slc_inv
    have hcap : (zz - off) / ie.size = cap := by rw [← ht, Nat.add_sub_cancel_left]; exact Nat.mul_div_cancel _ hpos
    rw [hcap] at hfull
    obtain ⟨_, hB, arr, ha, htot', hcl, vs, hvs, hcell, hr⟩ := EntSat.blk_inv (hpre.ent p (.blk cs ty) (by simp))
    let olds : List Value := (List.range (len * ie.size)).map fun j => vs (off + j)
    have holdl : olds.length = len * ie.size := by simp [olds]
    have hold : (Builtin.firstCells ti.size len (.slice (some ⟨b, off, none⟩) len cap)).run P W.drew = .ok olds.toArray W.drew := by
      refine run_firstCells_some W.drew ti.size len ⟨b, off, none⟩ len cap olds (by rw [holdl, hsz]) fun j v hj => ?_
      have hjl : j < len * ie.size := by rw [← holdl]; exact (List.getElem?_eq_some_iff.1 hj).1
      simp only [olds, List.getElem?_map, List.getElem?_range hjl, Option.map_some, Option.some.injEq] at hj
      rw [addr_add, ← hj]
      have := hcell (off + j) _ (List.getElem?_eq_getElem (by omega))
      rw [Nat.zero_add, hbk] at this
      exact this
    have hkz : ((k.toNat : Nat) : Int) = k := by omega
    have hb64 : (len + k.toNat) * ti.bytes ≤ 140737488355328 := by
      unfold room at hroom
      calc (len + k.toNat) * ti.bytes ≤ 2 ^ 30 * 65536 := Nat.mul_le_mul (by omega) (by omega)
        _ ≤ _ := by decide
    have hmx : len + k.toNat ≤ maxLen := by unfold maxLen; unfold room at hroom; omega
    have hrun := Lib.run_append_grow_zeros (P := P) W t t' o.type e ti z .i64 kn hu hu' hti htz (some ⟨b, off, none⟩) len cap olds hold k.toNat (by omega) (by omega) hfull (by unfold room at hroom; omega)
      (Nat.le_trans (Nat.mul_le_mul_right _ (by omega)) (Nat.le_trans hb64 (by decide))) (growslice_fits hfull hb64)
    rw [hkz] at hrun
    have hge := grownCap_ge W (len + k.toNat) cap e
    have hcm := grownCap_le_maxLen W (len + k.toNat) cap e hmx
    have hbn := hnew base (Nat.le_refl _) (by simp)
    have hzrl := zeroCells_rl (W := W) (E := E) (e := e) (ti := ti) hpos hzc hzs k.toNat
    have hzl : ∀ n, (Builtin.zeroCells z.cells n).size = n * ie.size := fun n => by simp [Builtin.zeroCells, hzs]
    have hold_rl : Rl W E ((cs.drop off).take (len * ie.size)) olds := by
      refine ⟨by simp [holdl]; omega, fun j c v hj hv => ?_⟩
      have hjl : j < len * ie.size := by rw [← holdl]; exact (List.getElem?_eq_some_iff.1 hv).1
      simp only [olds, List.getElem?_map, List.getElem?_range hjl, Option.map_some, Option.some.injEq] at hv
      rw [List.getElem?_take_of_lt hjl, List.getElem?_drop] at hj
      rw [← hv]; exact hr _ _ hj
    have hall := hold_rl.append hzrl
    generalize hcur : (olds.toArray ++ Builtin.zeroCells z.cells k.toNat ++ Builtin.zeroCells z.cells (grownCap W (len + k.toNat) cap e - (len + k.toNat))) = cur at hrun
    have hcs : cur.size = grownCap W (len + k.toNat) cap e * ie.size := by
      rw [← hcur]
      simp only [Array.size_append, List.size_toArray, holdl, hzl]
      rw [← Nat.add_mul, ← Nat.add_mul]
      congr 1; omega
    have hcsl : ((cs.drop off).take (len * ie.size) ++ repeatL k.toNat ie.zero).length ≤ cur.size := by
      rw [hall.1, hcs]
      simp only [List.length_append, holdl, Array.length_toList, hzl]
      rw [← Nat.add_mul]
      exact Nat.mul_le_mul_right _ hge
    obtain ⟨Bs', hpost⟩ := Post.move (W := W) (E := E) (Bs := Bs) (fpA := []) (fpx := [(p, .blk cs ty)]) (by simpa using hpre) (fun p e e' he => by simp at he) hbn.1 (by simpa using hbn.2) (W' := W.drew.alloc (.cells cur e)) (by show W.heap.size ≤ (W.heap.push _).size; rw [Array.size_push]; omega) rfl rfl rfl
      (fun k hk _ => heap_alloc_lt W.drew _ hk) (g := W.heap.size) (.inr (Nat.le_refl _)) (cur := cur) (ty := e) (heap_alloc_new W.drew _) hcsl (fun j c hj => by
        have hlt := (List.getElem?_eq_some_iff.1 hj).1
        rw [hall.1] at hlt
        refine ⟨_, ?_, hall.2 j c _ hj (List.getElem?_eq_getElem hlt)⟩
        rw [← hcur, ← Array.getElem?_toList]
        simp only [Array.toList_append]
        rw [List.getElem?_append_left (by simpa using hlt)]
        simp)
    refine wp_val hd (hrunE _ _ hrun) (hK _ _ _ Bs' ?_ (by simpa using hpost))
    have hbk' : (E.add base W.heap.size cur.size).bk base = W.heap.size := by simp [Env.add]
    have hr : R (W.drew.alloc (.cells cur e)) (E.add base W.heap.size cur.size) (.sl base 0 (len + k.toNat) ie.size) (.slice (some ⟨(E.add base W.heap.size cur.size).bk base, 0, none⟩) (len + k.toNat) (grownCap W (len + k.toNat) cap e)) :=
      .sl _ (Or.inr rfl) hge hcm (by simp [Env.add, hcs])
    rw [hbk'] at hr
    exact hr
  · simp at h
theorem sound_append {c : Call} (hT : TabOK P T) (ho : o.op = .call c) (hcal : c.callee = .builtin .append) (hev : EvR W E ev a) (h : ostep P T ev hh base q o = some dl) : Sound P ro o dl base a W E Bs := by
  unfold ostep at h
  simp only [ho] at h
  unfold gcall at h
  simp only [hcal] at h
  have hd : ∀ c, o.op ≠ .defer c := by simp [ho]
  split at h
  · rename_i s x t t' hargs htys
    split at h
    · rename_i i hbt hi
      have hbt := Nat.eq_of_beq_eq_true hbt
      subst hbt
      split at h
      · rename_i e hk
        have hu := (hT t i hi).und
        rw [hk] at hu
        split at h
        · rename_i ie hie
          have hie' := hT e ie hie
          -- the operands
          obtain ⟨hal, har⟩ := evs_R hev hargs
          match hca : c.args.toList, hal with
          | [os, ox], _ =>
          rw [hca] at har
          have hRs : R W E s (a.eval os) := har 0 s os rfl rfl
          have hRx : R W E x (a.eval ox) := har 1 x ox rfl rfl
          have hrunE : ∀ v W', (Builtin.append_ #[t, t] o.type #[a.eval os, a.eval ox]).run P W = .ok v W' → (execOp a.eval o).run P W = .ok (.value v) W' := by
            intro v W' hr
            have e1 : c.argTypes = #[t, t] := by rw [← Array.toList_inj]; simpa using htys
            have e2 : c.args.map a.eval = #[a.eval os, a.eval ox] := by rw [← Array.toList_inj]; simp [hca]
            simp only [execOp, ho, resolve, hcal, Sem.run_bind, Sem.run_pure, Result.andThen_ok, invoke, builtin, e1, e2, hr]
          exact append_all hd hu hie' hRs hRx hrunE h
        · simp at h
      · simp at h
    · rename_i i hbt hi
      split at h
      · rename_i i' k hi'
        split at h
        · rename_i e k2 hk hk'
          have hu := (hT t i hi).und
          rw [hk] at hu
          have hu' := (hT t' i' hi').und
          rw [hk'] at hu'
          split at h
          · rename_i ie hie
            have hie' := hT e ie hie
            obtain ⟨hal, har⟩ := evs_R hev hargs
            match hca : c.args.toList, hal with
            | [os, ox], _ =>
            rw [hca] at har
            have hRs : R W E s (a.eval os) := har 0 s os rfl rfl
            have hRx := (har 1 (.int .i64 k) ox rfl rfl).int_inv
            have hrunE : ∀ v W', (Builtin.append_ #[t, t'] o.type #[a.eval os, .int .i64 k]).run P W = .ok v W' → (execOp a.eval o).run P W = .ok (.value v) W' := by
              intro v W' hr
              have e1 : c.argTypes = #[t, t'] := by rw [← Array.toList_inj]; simpa using htys
              have e2 : c.args.map a.eval = #[a.eval os, .int .i64 k] := by rw [← Array.toList_inj]; simp [hca, hRx]
              simp only [execOp, ho, resolve, hcal, Sem.run_bind, Sem.run_pure, Result.andThen_ok, invoke, builtin, e1, e2, hr]
            exact appz_core hd hu hu' hie' hRs hrunE h
          · simp at h
        · simp at h
      · simp at h
    · simp at h
  · simp at h
end
end Go.Proofs.Ytalcipbagidbpaa
end

section
set_option linter.unusedVariables false
namespace Go.Proofs.Ytalcipbagidbpaa
section
variable {P : Program} {T : Tab} {ro : Option Nat} {o : Oper} {ev : Operand → Option GV} {hh : Nat → Option Ent} {base : Nat} {q : Option Stp} {dl : Dl}
variable {a : Act} {W : World} {E : Env} {Bs : Nat → Nat → Prop} {K : Act → World → Prop} {Q : Exit → Act → World → Prop}
theorem litC_R {g : GV} {v : Value} (h : R W E g v) : R W E (litC g) v := by
  cases g <;> first | exact h | skip
  · rw [h.lit_inv]; exact .bool
  · obtain ⟨h1, rfl, _, rfl⟩ := h.at_inv; exact .ptr h1
theorem litL_get : ∀ (gs : List GV) (j : Nat), (litL gs)[j]? = (gs[j]?).map litC
  | [], j => by simp [litL]
  | g :: gs, 0 => by simp [litL]
  | g :: gs, j + 1 => by simp [litL, litL_get gs j]
theorem litL_length : ∀ (gs : List GV), (litL gs).length = gs.length
  | [] => rfl
  | g :: gs => by simp [litL, litL_length gs]
theorem litG_R {g : GV} {v : Value} (h : R W E g v) : R W E (litG g) v := by
  cases g <;> first | exact h | exact litC_R h | exact h.slc_sl | skip
  obtain ⟨vs, rfl, hl, hr⟩ := h.fn_inv
  refine .fn vs (by rw [litL_length]; exact hl) fun j c u hj hu => ?_
  rw [litL_get, Option.map_eq_some_iff] at hj
  obtain ⟨c', hc', rfl⟩ := hj
  exact litC_R (hr j c' u hc' hu)
theorem litA_get : ∀ (gs : List GV) (j : Nat), (litA gs)[j]? = (gs[j]?).map litG
  | [], j => by simp [litA]
  | g :: gs, 0 => by simp [litA]
  | g :: gs, j + 1 => by simp [litA, litA_get gs j]
theorem litA_length : ∀ (gs : List GV), (litA gs).length = gs.length
  | [] => rfl
  | g :: gs => by simp [litA, litA_length gs]
theorem litE_sat {p : Nat} {e : Ent} {B : Nat → Prop} (h : EntSat W E p e B) : EntSat W E p (litE e) B := by
  cases e with
  | blk cs ty =>
    simp only [litE]
    split
    · obtain ⟨hok, hb, arr, ha, ht, hl, hc⟩ := h
      refine ⟨hok, hb, arr, ha, ht, by rw [litL_length]; exact hl, fun j c hj => ?_⟩
      rw [litL_get, Option.map_eq_some_iff] at hj
      obtain ⟨c', hc', rfl⟩ := hj
      obtain ⟨v, hv, hr⟩ := hc j c' hc'
      exact ⟨v, hv, litC_R hr⟩
    · exact h
  | _ => exact h
theorem litF_mem : ∀ {fp : List (Nat × Ent)} {p : Nat} {e : Ent}, (p, e) ∈ litF fp → ∃ e', (p, e') ∈ fp ∧ e = litE e'
  | [], p, e, h => by simp [litF] at h
  | q :: qs, p, e, h => by
    simp only [litF, List.mem_cons, Prod.mk.injEq] at h
    rcases h with ⟨rfl, rfl⟩ | h
    · exact ⟨q.2, by simp, rfl⟩
    · obtain ⟨e', h1, h2⟩ := litF_mem h
      exact ⟨e', List.mem_cons_of_mem _ h1, h2⟩
theorem litF_pre {fp : List (Nat × Ent)} (h : Pre W E Bs fp) : Pre W E Bs (litF fp) where
  ent p e he := by
    obtain ⟨e', h1, rfl⟩ := litF_mem he
    exact litE_sat (h.ent p e' h1)
  disj p e q e' k he he' := by
    obtain ⟨e1, h1, rfl⟩ := litF_mem he
    obtain ⟨e2, h2, rfl⟩ := litF_mem he'
    exact h.disj p e1 q e2 k h1 h2
  notI p e k he := by
    obtain ⟨e1, h1, rfl⟩ := litF_mem he
    exact h.notI p e1 k h1
  Ilt := h.Ilt
theorem sound_callValue {c : Call} {x : Operand} {f : FuncId} {caps args : List GV} {fp upd : List (Nat × Ent)} {new : List Ent} {res : GV}
    (ho : o.op = .call c) (hcal : c.callee = .value x) (hev : EvR W E ev a) (hx : ev x = some (.fn f caps)) (hargs : evs ev c.args.toList = some args) :
    Sound P ro o { res := res, fp := fp, upd := upd, new := new, cons := [CallSem P f (litA (args ++ caps)) (litF fp) base res upd new] } base a W E Bs := by
  intro hc hpre hnew K Q hK
  have hc : CallSem P f (litA (args ++ caps)) (litF fp) base res upd new := hc
  obtain ⟨⟨fn, hfn, hbody, hname⟩, hcall⟩ := hc
  obtain ⟨us, hv, hcl, hcr⟩ := (hev _ _ hx).fn_inv
  obtain ⟨hal, har⟩ := evs_R hev hargs
  have hrl : Rl W E args (c.args.map a.eval).toList := ⟨by simp [hal], fun j g v hg hv => by
    simp only [Array.toList_map, List.getElem?_map, Option.map_eq_some_iff] at hv
    obtain ⟨y, hy, rfl⟩ := hv
    exact har j g y hg hy⟩
  have hrl2 := hrl.append (cs' := caps) (vs' := us.toList) ⟨by simpa using hcl, fun j g v hg hv => hcr j g v hg (by simpa using hv)⟩
  have hcalls := hcall W E Bs (c.args.map a.eval ++ us) (by have := hrl2.1; rw [litA_length]; simpa using this) (fun j g v hg hv => by
    rw [litA_get, Option.map_eq_some_iff] at hg
    obtain ⟨g', hg', rfl⟩ := hg
    exact litG_R (hrl2.2 j g' v hg' (by rw [← Array.toList_append, Array.getElem?_toList]; exact hv))) (litF_pre hpre) (fun p h1 h2 => (hnew p h1 h2).1)
  refine wp_enter (f := f) (args := c.args.map a.eval ++ us) (W' := W) (by simp [ho]) ?_ (hcalls.mono ?_)
  · have hprog : (program).run P W = .ok P W := rfl
    have hbn : fn.body.isNone = false := by cases h : fn.body <;> simp_all
    simp only [execOp, ho, resolve, hcal, hv, Deferred.ofValue, Sem.run_bind, Sem.run_pure, Result.andThen_ok, invoke, callFunc, hprog, hfn, hname, hbn, Bool.false_eq_true, if_false, Array.empty_append]
  · rintro e w ⟨v, E', Bs', rfl, hR, hpost⟩
    exact ⟨v, rfl, hK v w E' Bs' hR hpost⟩
theorem sound_callExt {c : Call} {x : Operand} {f : FuncId} {caps args : List GV} {fp : List (Nat × Ent)} {res : GV}
    (ho : o.op = .call c) (hcal : c.callee = .value x) (hev : EvR W E ev a) (hx : ev x = some (.fn f caps)) (hargs : evs ev c.args.toList = some args) :
    Sound P ro o { res := res, fp := fp, upd := fp, cons := [ExtSem P f (litA (args ++ caps)) (litF fp) res] } base a W E Bs := by
  intro hc hpre hnew K Q hK
  have hc : ExtSem P f (litA (args ++ caps)) (litF fp) res := hc
  obtain ⟨us, hv, hcl, hcr⟩ := (hev _ _ hx).fn_inv
  obtain ⟨hal, har⟩ := evs_R hev hargs
  have hrl : Rl W E args (c.args.map a.eval).toList := ⟨by simp [hal], fun j g v hg hv => by
    simp only [Array.toList_map, List.getElem?_map, Option.map_eq_some_iff] at hv
    obtain ⟨y, hy, rfl⟩ := hv
    exact har j g y hg hy⟩
  have hrl2 := hrl.append (cs' := caps) (vs' := us.toList) ⟨by simpa using hcl, fun j g v hg hv => hcr j g v hg (by simpa using hv)⟩
  obtain ⟨v, hrun, hR⟩ := hc.run W E Bs (c.args.map a.eval ++ us) (by have := hrl2.1; rw [litA_length]; simpa using this) (fun j g v hg hv => by
    rw [litA_get, Option.map_eq_some_iff] at hg
    obtain ⟨g', hg', rfl⟩ := hg
    exact litG_R (hrl2.2 j g' v hg' (by rw [← Array.toList_append, Array.getElem?_toList]; exact hv))) (litF_pre hpre)
  refine wp_val (v := v) (W' := W) (by simp [ho]) ?_ (hK v W E Bs hR (Post.read hpre base))
  simp only [execOp, ho, resolve, hcal, hv, Deferred.ofValue, Sem.run_bind, Sem.run_pure, Result.andThen_ok, invoke, hrun, Array.empty_append]
theorem R.raw_inv {u v : Value} (h : R W E (.raw u) v) : v = u := by cases h; rfl
theorem yieldOf_spec {g : GV} {l : Nat} (h : yieldOf g = some l) : g = .raw (.func (.yield l) #[] #[]) := by
  unfold yieldOf at h
  split at h <;> simp at h
  subst h; rfl
theorem sound_yield {c : Call} {x : Operand} {l : Nat} {args : List GV} {fp upd : List (Nat × Ent)} {new : List Ent} {res : GV}
    (ho : o.op = .call c) (hcal : c.callee = .value x) (hev : EvR W E ev a) (hx : ev x = some (.raw (.func (.yield l) #[] #[]))) (hargs : evs ev c.args.toList = some args) :
    Sound P ro o { res := res, fp := fp, upd := upd, new := new, cons := [RoundSem P l (litA args) (litF fp) base res upd new] } base a W E Bs := by
  intro hc hpre hnew K Q hK
  have hc : RoundSem P l (litA args) (litF fp) base res upd new := hc
  have hv : a.eval x = .func (.yield l) #[] #[] := (hev _ _ hx).raw_inv
  obtain ⟨hal, har⟩ := evs_R hev hargs
  obtain ⟨fn, tmps, assign, body, hy, hround⟩ := hc.run W E Bs (c.args.map a.eval) (by rw [litA_length]; simpa using hal) (fun j g v hg hv => by
    rw [litA_get, Option.map_eq_some_iff] at hg
    obtain ⟨g', hg', rfl⟩ := hg
    simp only [Array.getElem?_map, Option.map_eq_some_iff] at hv
    obtain ⟨y, hy, rfl⟩ := hv
    exact litG_R (har j g' y hg' (by simpa using hy))) (litF_pre hpre) (fun p h1 h2 => (hnew p h1 h2).1)
  refine wp_round (W' := W) (by simp [ho]) ?_ (hround.mono ?_)
  · simp only [execOp, ho, resolve, hcal, hv, Deferred.ofValue, Sem.run_bind, Sem.run_pure, Result.andThen_ok, invoke, Array.empty_append]
    exact hy
  · rintro e w ⟨v, E', Bs', rfl, hR, hpost⟩
    exact ⟨v, rfl, hK v w E' Bs' hR hpost⟩
theorem asSl_R {g : GV} {p off len es : Nat} {v : Value} (h : asSl g = some (p, off, len, es)) (hR : R W E g v) : ∃ cap, E.ok p ∧ len ≤ cap ∧ cap ≤ maxLen ∧ off + cap * es = E.tot p ∧ v = .slice (some ⟨E.bk p, off, none⟩) len cap := by
  cases g <;> simp only [asSl, Option.some.injEq, Prod.mk.injEq, reduceCtorEq] at h
  · obtain ⟨rfl, rfl, rfl, rfl⟩ := h; exact hR.sl_inv
  · obtain ⟨rfl, rfl, rfl, rfl⟩ := h; exact hR.slc_sl.sl_inv
/-- The run of 'copy' into an own block. -/
theorem run_copy_own {t t' ty e : TypeId} {ie : TI} (hu : P.underlying t = some (.slice e)) (hie : TIok P e ie) {g off dLen dCap sLen sCap : Nat} {A : Option Addr} {cur : Array Value} {tc : TypeId} {vs : List Value}
    (hg : W.heap[g]? = some (.cells cur tc (0, 0))) (hn : vs.length = min sLen dLen * ie.size) (hsrc : ∀ A', A = some A' → ∀ j v, vs[j]? = some v → W.cell? (A'.add j) = some v) (hA : A = none → vs = []) (hfit : off + vs.length ≤ cur.size) (h1 : ∀ v ∈ vs, v.oneCell' = true) :
    (Builtin.copy_ #[t, t'] ty #[.slice (some ⟨g, off, none⟩) dLen dCap, .slice A sLen sCap]).run P W = .ok (goInt (min sLen dLen)) (W.setRow g (cur.toList.take off ++ vs ++ cur.toList.drop (off + vs.length)).toArray) := by
  have hst := run_storeCells_at P g off tc vs 0 cur W hg (by simpa using hfit) h1
  rw [Nat.add_zero] at hst
  have hf : (Builtin.firstCells ie.size (min sLen dLen) (.slice A sLen sCap)).run P W = .ok vs.toArray W := by
    cases A with
    | none => rw [hA rfl]; simp [Builtin.firstCells]
    | some A' => exact run_firstCells_some W ie.size _ A' sLen sCap vs hn fun j v hj => hsrc A' rfl j v hj
  have hmin : Nat.min sLen dLen = min sLen dLen := rfl
  simp only [Builtin.copy_, List.getElem?_toArray, List.getElem?_cons_zero, List.getElem?_cons_succ, Sem.run_bind, run_underlying hu, Result.andThen_ok, Builtin.lenOf, Sem.run_pure, hie.run_sizeOf, hmin, hf, hst]
  congr 2; first | rfl | omega
theorem copy_core {t t' e : TypeId} {ie : TI} {d s : GV} {dv sv : Value} (hd : ∀ c, o.op ≠ .defer c) (hu : P.underlying t = some (.slice e)) (hie : TIok P e ie) (hRd : R W E d dv) (hRs : R W E s sv)
    (hrunE : ∀ v W', (Builtin.copy_ #[t, t'] o.type #[dv, sv]).run P W = .ok v W' → (execOp a.eval o).run P W = .ok (.value v) W')
    (h : gcopy hh ie.size d s = some dl) : Sound P ro o dl base a W E Bs := by
  -- the store, once the source's values are known
  have key : ∀ {K : Act → World → Prop} {Q : Exit → Act → World → Prop} {p off len len2 : Nat} {cs src : List GV} {ty : TypeId} {A : Option Addr} {sCap dCap : Nat} {vs : List Value}, Pre W E Bs [(p, .blk cs ty)] → dv = .slice (some ⟨E.bk p, off, none⟩) len dCap → len ≤ dCap → off + dCap * ie.size = E.tot p → sv = .slice A len2 sCap →
      Rl W E src vs → src.length = min len2 len * ie.size → src.all GV.scalar = true → off ≤ cs.length → (∀ A', A = some A' → ∀ j v, vs[j]? = some v → W.cell? (A'.add j) = some v) → (A = none → vs = []) →
      (∀ v W' E' Bs', R W' E' GV.any v → Post W E Bs W' E' Bs' [(p, .blk (splice cs off src) ty)] base [] → K (a.put o.dst v) W') → o.wpIn (Fw ro) 0 P a W K Q := by
    intro K Q p off len len2 cs src ty A sCap dCap vs hpre hdv hlc ht hsv hrl hsl hsc hoff hcell hA hK
    subst hdv; subst hsv
    obtain ⟨hok, hB, arr, ha, htot, hcl, _⟩ := hpre.ent p (.blk cs ty) (by simp)
    have hvl : vs.length = min len2 len * ie.size := by rw [← hrl.1, hsl]
    have hfit : off + vs.length ≤ arr.size := by
      rw [hvl, htot, ← ht]
      have : min len2 len * ie.size ≤ dCap * ie.size := Nat.mul_le_mul_right _ (by omega)
      omega
    have hrun := run_copy_own (P := P) (t := t) (t' := t') (ty := o.type) (dCap := dCap) (sCap := sCap) hu hie ha hvl hcell hA hfit (GV.scalar_oneCell hrl hsc)
    obtain ⟨arrv, hcells⟩ : ∃ arrv : List Value, arrv = (arr.toList.take off ++ vs ++ arr.toList.drop (off + vs.length)) := ⟨_, rfl⟩
    rw [← hcells] at hrun
    have hlen : arrv.toArray.size = arr.size := by rw [hcells]; simp; omega
    refine wp_val hd (hrunE _ _ hrun) (hK _ _ E Bs .any (Post.store hpre base arr arrv.toArray ha hlen ?_ ?_))
    · rw [hlen]
      unfold splice
      simp
      rw [hrl.1]
      omega
    · intro j c hj
      obtain ⟨_, _, arr2, ha2, _, _, hc2⟩ := hpre.ent p (.blk cs ty) (by simp)
      rw [ha] at ha2; injection ha2 with ha2; injection ha2 with ha2; subst ha2
      unfold splice at hj
      have e1 : (arrv.toArray)[j]? = (arr.toList.take off ++ (vs ++ arr.toList.drop (off + vs.length)))[j]? := by rw [hcells]; simp
      rw [e1]
      by_cases h1 : j < off
      · rw [List.getElem?_append_left (by simp; omega)] at hj
        rw [List.getElem?_append_left (by simp; omega)]
        rw [List.getElem?_take_of_lt h1] at hj ⊢
        obtain ⟨v, hv, hr⟩ := hc2 j c hj
        exact ⟨v, by simpa using hv, hr⟩
      · rw [List.getElem?_append_right (by simp; omega)] at hj
        rw [List.getElem?_append_right (by simp; omega)]
        have l1 : (cs.take off).length = off := by simp; omega
        have l2 : (arr.toList.take off).length = off := by simp; omega
        rw [l1] at hj; rw [l2]
        by_cases h2 : j - off < vs.length
        · rw [List.getElem?_append_left (by rw [hrl.1]; exact h2)] at hj
          rw [List.getElem?_append_left h2]
          exact ⟨_, List.getElem?_eq_getElem h2, hrl.2 _ c _ hj (List.getElem?_eq_getElem h2)⟩
        · rw [List.getElem?_append_right (by rw [hrl.1]; omega)] at hj
          rw [List.getElem?_append_right (by omega)]
          rw [List.getElem?_drop, hrl.1] at hj
          rw [List.getElem?_drop]
          obtain ⟨v, hv, hr⟩ := hc2 _ c hj
          exact ⟨v, by simpa using hv, hr⟩
  unfold gcopy at h
  split at h
  · rename_i p off len es' hds
    obtain ⟨dCap, hokd, hld, hmd, htd, hdv⟩ := asSl_R hds hRd
    split at h
    · rename_i cs ty hb hp
      have hes := Nat.eq_of_beq_eq_true hb
      subst hes
      split at h
      · rename_i q off2 len2 es2 hss
        obtain ⟨sCap, hoks, hls, hms, hts, hsv⟩ := asSl_R hss hRs
        split at h <;> simp only [Option.some.injEq, reduceCtorEq] at h
        rename_i hpq hb2
        have := Nat.eq_of_beq_eq_true hpq
        subst this
        subst h
        intro hc hpre hnew K Q hK
        have hc : off ≤ cs.length ∧ off2 + min len2 len * ie.size ≤ cs.length ∧ ((cs.drop off2).take (min len2 len * ie.size)).all GV.scalar = true := hc
        obtain ⟨h1, h2, h3⟩ := hc
        obtain ⟨_, hB, arr, ha, htot', hcl, vs, hvs, hcell, hr⟩ := EntSat.blk_inv (hpre.ent p (.blk cs ty) (by simp))
        have hl0 : ((cs.drop off2).take (min len2 len * ie.size)).length = min len2 len * ie.size := by simp; omega
        refine key (vs := (List.range (min len2 len * ie.size)).map fun j => vs (off2 + j)) hpre hdv hld htd hsv ⟨by rw [hl0]; simp, fun j c v hj hv => ?_⟩ hl0 h3 h1 (fun A' hA' j v hj => ?_) (fun h => by simp at h) hK
        · have hjl : j < min len2 len * ie.size := by rw [← hl0]; exact (List.getElem?_eq_some_iff.1 hj).1
          simp only [List.getElem?_map, List.getElem?_range hjl, Option.map_some, Option.some.injEq] at hv
          rw [List.getElem?_take_of_lt hjl, List.getElem?_drop] at hj
          rw [← hv]; exact hr _ _ hj
        · injection hA' with hA'; subst hA'
          have hjl : j < min len2 len * ie.size := by have := (List.getElem?_eq_some_iff.1 hj).1; simpa using this
          simp only [List.getElem?_map, List.getElem?_range hjl, Option.map_some, Option.some.injEq] at hj
          rw [addr_add, ← hj]
          have := hcell (off2 + j) _ (List.getElem?_eq_getElem (by omega))
          rwa [Nat.zero_add] at this
      · split at h <;> simp only [Option.some.injEq, reduceCtorEq] at h
        rename_i len2 cs2 _
        subst h
        intro hc hpre hnew K Q hK
        have hc : off ≤ cs.length ∧ cs2.length = len2 * ie.size ∧ (cs2.take (min len2 len * ie.size)).all GV.scalar = true := hc
        obtain ⟨h1, h2, h3⟩ := hc
        have hl0 : (cs2.take (min len2 len * ie.size)).length = min len2 len * ie.size := by
          simp only [List.length_take, h2]
          have : min len2 len * ie.size ≤ len2 * ie.size := Nat.mul_le_mul_right _ (by omega)
          omega
        rcases hRs.im_inv with ⟨rfl, rfl, A, sCap, hsv⟩ | ⟨b, off2, sCap, vs, hI, hlc, hcell, hr, hsv⟩
        · refine key (vs := []) hpre hdv hld htd hsv (by simpa using Rl.nil) hl0 h3 h1 (fun A' _ j v hj => by simp at hj) (fun _ => rfl) hK
        · refine key (vs := (List.range (min len2 len * ie.size)).map vs) hpre hdv hld htd hsv ⟨by rw [hl0]; simp, fun j c v hj hv => ?_⟩ hl0 h3 h1 (fun A' hA' j v hj => ?_) (fun h => by simp at h) hK
          · have hjl : j < min len2 len * ie.size := by rw [← hl0]; exact (List.getElem?_eq_some_iff.1 hj).1
            simp only [List.getElem?_map, List.getElem?_range hjl, Option.map_some, Option.some.injEq] at hv
            rw [List.getElem?_take_of_lt hjl] at hj
            rw [← hv]; exact hr _ _ hj
          · injection hA' with hA'; subst hA'
            have hjl : j < min len2 len * ie.size := by have := (List.getElem?_eq_some_iff.1 hj).1; simpa using this
            simp only [List.getElem?_map, List.getElem?_range hjl, Option.map_some, Option.some.injEq] at hj
            rw [addr_add, ← hj]
            have hj2 : j < cs2.length := by simp only [List.length_take] at hl0; omega
            exact hcell j _ (List.getElem?_eq_getElem hj2)
    · simp at h
  · simp at h
theorem sound_call {c : Call} (hT : TabOK P T) (ho : o.op = .call c) (hev : EvR W E ev a) (h : ostep P T ev hh base q o = some dl) : Sound P ro o dl base a W E Bs := by
  by_cases hap : c.callee = .builtin .append
  · exact sound_append hT ho hap hev h
  unfold ostep at h
  simp only [ho] at h
  unfold gcall at h
  have hd : ∀ c, o.op ≠ .defer c := by simp [ho]
  split at h
  · rename_i x hcal
    split at h
    · rename_i f caps args hx hargs
      split at h
      · split at h <;> simp only [Option.some.injEq, reduceCtorEq] at h
        subst h
        exact sound_callValue ho hcal hev hx hargs
      · simp only [Option.some.injEq] at h
        subst h
        exact sound_callValue ho hcal hev hx hargs
      · split at h <;> simp only [Option.some.injEq, reduceCtorEq] at h
        subst h
        exact sound_callExt ho hcal hev hx hargs
      · simp at h
    · rename_i g args _ hx hargs
      split at h
      · rename_i l hl
        rw [yieldOf_spec hl] at hx
        unfold gyield at h
        split at h
        · split at h <;> simp only [Option.some.injEq, reduceCtorEq] at h
          subst h
          exact sound_yield ho hcal hev hx hargs
        · simp at h
      · simp at h
    · simp at h
  · rename_i hcal
    split at h
    · rename_i x t hargs htys
      split at h
      · rename_i i hi
        have hu := (hT t i hi).und
        obtain ⟨hal, har⟩ := evs_R hev hargs
        match hca : c.args.toList, hal with
        | [ox], _ =>
        rw [hca] at har
        have hR : R W E x (a.eval ox) := har 0 x ox rfl rfl
        have e1 : c.argTypes = #[t] := by rw [← Array.toList_inj]; simpa using htys
        have e2 : c.args.map a.eval = #[a.eval ox] := by rw [← Array.toList_inj]; simp [hca]
        have hrunE : ∀ v, (Builtin.len_ #[t] o.type #[a.eval ox]).run P W = .ok v W → (execOp a.eval o).run P W = .ok (.value v) W := by
          intro v hr
          simp only [execOp, ho, resolve, hcal, Sem.run_bind, Sem.run_pure, Result.andThen_ok, invoke, builtin, e1, e2, hr]
        split at h
        · rename_i s _ _ _ _
          have hk := ‹i.kind = TK.str›
          rw [hk] at hu
          simp only [Option.some.injEq] at h
          subst h
          exact sound_plain (v := .int .i64 _) hd fun _ => ⟨hrunE _ (by have hR' := R.str_inv hR; rw [hR']; simp [Builtin.len_, run_underlying hu, goInt]), .int⟩
        · have hk := ‹i.kind = TK.slice _›
          rw [hk] at hu
          split at h <;> simp only [Option.some.injEq, reduceCtorEq] at h
          rename_i n hn
          subst h
          have : ∃ A len cap, a.eval ox = .slice A len cap ∧ n = len := by
            unfold glen at hn
            split at hn <;> simp only [Option.some.injEq, reduceCtorEq] at hn
            · exact ⟨_, _, _, hR.nils_inv, hn.symm⟩
            · obtain ⟨cap, _, _, _, _, he⟩ := hR.sl_inv
              exact ⟨_, _, _, he, hn.symm⟩
            · obtain ⟨cap, _, _, _, _, he⟩ := hR.slc_sl.sl_inv
              exact ⟨_, _, _, he, hn.symm⟩
            · rcases hR.im_inv with ⟨h0, _, A, cap, he⟩ | ⟨b, off, cap, vs, _, _, _, _, he⟩
              · exact ⟨_, _, _, he, by rw [← hn, h0]⟩
              · exact ⟨_, _, _, he, hn.symm⟩
            · rcases hR.ol_inv with ⟨h0, he⟩ | ⟨_, hR2⟩
              · exact ⟨_, _, _, he, by rw [← hn, h0]⟩
              · obtain ⟨cap, _, _, _, _, he⟩ := hR2.sl_inv
                exact ⟨_, _, _, he, hn.symm⟩
          obtain ⟨A, len, cap, he, rfl⟩ := this
          exact sound_plain (v := .int .i64 len) hd fun _ => ⟨hrunE _ (by rw [he]; simp [Builtin.len_, run_underlying hu, goInt]), .int⟩
        · simp at h
      · simp at h
    · simp at h
  · rename_i hcal
    split at h
    · rename_i k m r hargs
      split at h <;> simp only [Option.some.injEq, reduceCtorEq] at h
      rename_i g hg
      subst h
      obtain ⟨hal, har⟩ := evs_R hev hargs
      match hca : c.args.toList, hal with
      | ox :: os, hal =>
      rw [hca] at har
      have hR := (har 0 (.int k m) ox rfl rfl).int_inv
      obtain ⟨v, hv, hRv⟩ := run_max2 (P := P) (W := W) (E := E) hg (vs := os.map a.eval) ⟨by simpa using hal, fun j c v hc hv => by
        simp only [List.getElem?_map, Option.map_eq_some_iff] at hv
        obtain ⟨y, hy, rfl⟩ := hv
        exact har (j + 1) c y (by simpa using hc) (by simpa using hy)⟩
      refine sound_plain (v := v) hd fun _ => ⟨?_, hRv⟩
      have e2 : (c.args.map a.eval).toList = a.eval ox :: os.map a.eval := by simp [hca]
      simp only [execOp, ho, resolve, hcal, Sem.run_bind, Sem.run_pure, Result.andThen_ok, invoke, builtin, Builtin.max_, e2, hR, hv]
    · simp at h
  · rename_i hcal
    split at h
    · rename_i k m r hargs
      split at h <;> simp only [Option.some.injEq, reduceCtorEq] at h
      rename_i g hg
      subst h
      obtain ⟨hal, har⟩ := evs_R hev hargs
      match hca : c.args.toList, hal with
      | ox :: os, hal =>
      rw [hca] at har
      have hR := (har 0 (.int k m) ox rfl rfl).int_inv
      obtain ⟨v, hv, hRv⟩ := run_min2 (P := P) (W := W) (E := E) hg (vs := os.map a.eval) ⟨by simpa using hal, fun j c v hc hv => by
        simp only [List.getElem?_map, Option.map_eq_some_iff] at hv
        obtain ⟨y, hy, rfl⟩ := hv
        exact har (j + 1) c y (by simpa using hc) (by simpa using hy)⟩
      refine sound_plain (v := v) hd fun _ => ⟨?_, hRv⟩
      have e2 : (c.args.map a.eval).toList = a.eval ox :: os.map a.eval := by simp [hca]
      simp only [execOp, ho, resolve, hcal, Sem.run_bind, Sem.run_pure, Result.andThen_ok, invoke, builtin, Builtin.min_, e2, hR, hv]
    · simp at h
  · rename_i hcal
    exact absurd hcal hap
  · rename_i hcal
    split at h
    · rename_i p off len es b z t hargs htys
      split at h
      · rename_i i hi
        split at h <;> simp only [Option.some.injEq, reduceCtorEq] at h
        rename_i e hk
        have hu := (hT t i hi).und
        rw [hk] at hu
        subst h
        obtain ⟨hal, har⟩ := evs_R hev hargs
        match hca : c.args.toList, hal with
        | [ox], _ =>
        rw [hca] at har
        obtain ⟨cap, h1, h2, h3, h4, h5, h6, he⟩ := (har 0 _ ox rfl rfl).slc_inv
        have e1 : c.argTypes = #[t] := by rw [← Array.toList_inj]; simpa using htys
        have e2 : c.args.map a.eval = #[a.eval ox] := by rw [← Array.toList_inj]; simp [hca]
        refine sound_plain (v := .int .i64 ((z - off) / es : Nat)) hd fun hc => ⟨?_, .int⟩
        have hc : 0 < es := hc
        have hcap : (z - off) / es = cap := by rw [← h4, Nat.add_sub_cancel_left]; exact Nat.mul_div_cancel _ hc
        rw [hcap]
        simp only [execOp, ho, resolve, hcal, Sem.run_bind, Sem.run_pure, Result.andThen_ok, invoke, builtin, e1, e2, he]
        simp [Builtin.cap_, run_underlying hu, goInt]
      · simp at h
    · simp at h
  · rename_i hcal
    split at h
    · rename_i dg sg' t t' hargs htys
      split at h
      · rename_i i hi
        split at h
        · rename_i e hk
          have hu := (hT t i hi).und
          rw [hk] at hu
          split at h
          · rename_i ie hie
            obtain ⟨hal, har⟩ := evs_R hev hargs
            match hca : c.args.toList, hal with
            | [od, os], _ =>
            rw [hca] at har
            have e1 : c.argTypes = #[t, t'] := by rw [← Array.toList_inj]; simpa using htys
            have e2 : c.args.map a.eval = #[a.eval od, a.eval os] := by rw [← Array.toList_inj]; simp [hca]
            refine copy_core (t := t) (t' := t') hd hu (hT e ie hie) (har 0 dg od rfl rfl) (har 1 sg' os rfl rfl) (fun v W' hr => ?_) h
            simp only [execOp, ho, resolve, hcal, Sem.run_bind, Sem.run_pure, Result.andThen_ok, invoke, builtin, e1, e2, hr]
          · simp at h
        · simp at h
      · simp at h
    · simp at h
  · simp at h
theorem ostep_sound (hT : TabOK P T) (hev : EvR W E ev a) (h : ostep P T ev hh base q o = some dl) : Sound P ro o dl base a W E Bs := by
  cases ho : o.op with
  | move x =>
    have h' := h
    unfold ostep at h'
    simp only [ho] at h'
    split at h' <;> simp only [Option.some.injEq, reduceCtorEq] at h'
    subst h'
    exact sound_move (.inl ho) hev ‹_›
  | assign x =>
    have h' := h
    unfold ostep at h'
    simp only [ho] at h'
    split at h' <;> simp only [Option.some.injEq, reduceCtorEq] at h'
    subst h'
    exact sound_move (.inr ho) hev ‹_›
  | pick c x y => exact sound_pick ho hev h
  | alloc ty => exact sound_alloc hT ho h
  | box ty x => exact sound_box ho hev h
  | build t ps => exact sound_build hT ho hev h
  | buildSlice t n ps => exact sound_buildSlice hT ho hev h
  | load t x => exact sound_load hT ho hev h
  | store t x y => exact sound_store hT ho hev h (.inr trivial)
  | nilCheck x => exact sound_nilCheck ho hev h
  | binOp op t x y t' => exact sound_binOp hT ho hev h
  | unOp op t x => exact sound_unOp ho hev h
  | convert s d x => exact sound_convert hT ho hev h
  | makeFunc fn first caps =>
    have h' := h
    unfold ostep at h'
    simp only [ho] at h'
    split at h' <;> first | (simp at h'; done) | skip
    all_goals first
      | (simp_all; done)
      | (rename_i heq; simp only [Op.makeFunc.injEq] at heq; obtain ⟨rfl, rfl, rfl⟩ := heq; exact sound_makeFunc ho hev h)
  | slice t x lo hi mx =>
    cases mx with
    | none => exact sound_slice hT ho hev h
    | some m => simp [ostep, ho] at h
  | fieldAddr t x f => exact sound_fieldAddr hT ho hev h
  | field t x f => exact sound_field hT ho hev h
  | indexAddr t x ix => exact sound_indexAddr hT ho hev h
  | index t x ix => exact sound_index hT ho hev h
  | extract x j => exact sound_extract ho hev h
  | call c => exact sound_call hT ho hev h
  | _ => simp [ostep, ho] at h
end
end Go.Proofs.Ytalcipbagidbpaa
end

section
set_option linter.unusedVariables false
namespace Go.Proofs.Ytalcipbagidbpaa
section
variable {P : Program} {T : Tab} {ro : Option Nat} {o : Oper} {ev : Operand → Option GV} {hh : Nat → Option Ent} {base : Nat} {q : Option Stp} {dl : Dl}
variable {a : Act} {W : World} {E : Env} {Bs : Nat → Nat → Prop} {K : Act → World → Prop} {Q : Exit → Act → World → Prop}
theorem lookups_spec : ∀ {ps : List Nat} {fp : List (Nat × Ent)}, lookups hh ps = some fp → fp.map (·.1) = ps ∧ ∀ p e, (p, e) ∈ fp → hh p = some e
  | [], fp, h => by simp [lookups] at h; subst h; simp
  | p :: ps, fp, h => by
    simp only [lookups] at h
    split at h <;> simp only [Option.some.injEq, reduceCtorEq] at h
    rename_i e r he hr
    subst h
    obtain ⟨h1, h2⟩ := lookups_spec hr
    refine ⟨by simp [h1], fun p' e' hm => ?_⟩
    rcases List.mem_cons.1 hm with hm | hm
    · simp only [Prod.mk.injEq] at hm
      rw [hm.1, hm.2]; exact he
    · exact h2 _ _ hm
theorem nodupB_spec : ∀ {ps : List Nat}, nodupB ps = true → ps.Nodup
  | [], _ => .nil
  | p :: ps, h => by
    simp only [nodupB, Bool.and_eq_true] at h
    refine List.nodup_cons.2 ⟨fun hm => ?_, nodupB_spec h.2⟩
    have := List.all_eq_true.1 h.1 p hm
    simp at this
/-- What holds of every delta. -/
structure DlWf (hh : Nat → Option Ent) (dl : Dl) : Prop where
  keys : dl.upd.map (·.1) = dl.fp.map (·.1)
  look : ∀ p e, (p, e) ∈ dl.fp → hh p = some e
  nodup : allP dl.cons → (dl.fp.map (·.1)).Nodup
theorem DlWf.none {g : GV} {cons : List Prop} {new : List Ent} : DlWf hh { res := g, new := new, cons := cons } := ⟨rfl, fun p e h => by simp at h, fun _ => .nil⟩
theorem gsrc_wf {es : Nat} {g : GV} {new : List GV} {m : Nat} {fpx : List (Nat × Ent)} {cx : List Prop} (h : gsrc hh es g = some (new, m, fpx, cx)) :
    (∀ p e, (p, e) ∈ fpx → hh p = some e) ∧ (fpx.map (·.1)).Nodup := by
  unfold gsrc at h
  split at h
  · simp only [Option.some.injEq, Prod.mk.injEq] at h
    obtain ⟨rfl, rfl, rfl, rfl⟩ := h
    simp
  · simp only [Option.some.injEq, Prod.mk.injEq] at h
    obtain ⟨rfl, rfl, rfl, rfl⟩ := h
    simp
  · split at h <;> simp only [Option.some.injEq, Prod.mk.injEq, reduceCtorEq] at h
    obtain ⟨rfl, rfl, rfl, rfl⟩ := h
    refine ⟨fun p e hm => ?_, by simp⟩
    simp at hm
    obtain ⟨rfl, rfl⟩ := hm
    assumption
  · simp at h
theorem gappend_wf {e : TypeId} {es bytes : Nat} {s x : GV} (h : gappend hh base e es bytes s x = some dl) : DlWf hh dl := by
  unfold gappend at h
  split at h
  · simp at h
  · rename_i new m fpx cx hsrc
    obtain ⟨h1, h2⟩ := gsrc_wf hsrc
    split at h
    · split at h <;> simp only [Option.some.injEq] at h
      · subst h; exact ⟨rfl, h1, fun _ => h2⟩
      · subst h; exact ⟨rfl, h1, fun _ => h2⟩
    · split at h <;> simp only [Option.some.injEq, reduceCtorEq] at h
      rename_i p len es' _ _ cs ty hb hp
      subst h
      refine ⟨rfl, fun p' e' hm => ?_, fun hc => ?_⟩
      · rcases List.mem_cons.1 hm with hm | hm
        · simp only [Prod.mk.injEq] at hm
          rw [hm.1, hm.2]; exact hp
        · exact h1 _ _ hm
      · simp only [List.map_cons]
        refine List.nodup_cons.2 ⟨fun hm => ?_, h2⟩
        obtain ⟨y, hy, he⟩ := List.mem_map.1 hm
        have hc : allP cx ∧ ty = e ∧ len * es ≤ cs.length ∧ len + m ≤ room ∧ new.all GV.scalar = true ∧ noKey p fpx = true ∧ 0 < es ∧ bytes ≤ 65536 := hc
        exact noKey_spec hc.2.2.2.2.2.1 y hy he
    · split at h <;> simp only [Option.some.injEq, reduceCtorEq] at h
      rename_i p len es' _ _ cs ty hb hp
      subst h
      refine ⟨rfl, fun p' e' hm => ?_, fun hc => ?_⟩
      · rcases List.mem_cons.1 hm with hm | hm
        · simp only [Prod.mk.injEq] at hm
          rw [hm.1, hm.2]; exact hp
        · exact h1 _ _ hm
      · simp only [List.map_cons]
        refine List.nodup_cons.2 ⟨fun hm => ?_, h2⟩
        obtain ⟨y, hy, he⟩ := List.mem_map.1 hm
        have hc : allP cx ∧ ty = e ∧ cs.length = len * es ∧ len + m ≤ room ∧ new.all GV.scalar = true ∧ noKey p fpx = true ∧ 0 < es ∧ bytes ≤ 65536 := hc
        exact noKey_spec hc.2.2.2.2.2.1 y hy he
    · simp at h
theorem gappz_wf {e : TypeId} {es bytes : Nat} {zero : List GV} {s : GV} {k : Int} (h : gappz hh base e es bytes zero s k = some dl) : DlWf hh dl := by
  unfold gappz at h
  split at h
  · split at h <;> simp only [Option.some.injEq, reduceCtorEq] at h
    subst h
    refine ⟨rfl, fun p e hm => ?_, fun _ => by simp⟩
    simp only [List.mem_singleton, Prod.mk.injEq] at hm; rw [hm.1, hm.2]; assumption
  · simp at h
theorem gcopy_wf {es : Nat} {d s : GV} (h : gcopy hh es d s = some dl) : DlWf hh dl := by
  unfold gcopy at h
  repeat' split at h
  all_goals simp only [Option.some.injEq, reduceCtorEq] at h
  all_goals
    subst h
    refine ⟨rfl, fun p e hm => ?_, fun _ => by simp⟩
    simp only [List.mem_singleton, Prod.mk.injEq] at hm; rw [hm.1, hm.2]; assumption
theorem gcall_wf {c : Call} (h : gcall P T ev hh base q c = some dl) : DlWf hh dl := by
  unfold gcall at h
  split at h
  · split at h
    · split at h
      · split at h <;> simp only [Option.some.injEq, reduceCtorEq] at h
        rename_i fp hl hb
        simp only [Bool.and_eq_true] at hb
        have h1 := Nat.eq_of_beq_eq_true hb.1
        obtain ⟨h2, h3⟩ := lookups_spec hl
        subst h
        refine ⟨?_, h3, fun _ => by rw [h2]; exact nodupB_spec hb.2⟩
        rw [h2]
        exact List.map_fst_zip (Nat.le_of_eq h1)
      · simp only [Option.some.injEq] at h; subst h; exact .none
      · split at h <;> simp only [Option.some.injEq, reduceCtorEq] at h
        rename_i fp hl hb
        obtain ⟨h2, h3⟩ := lookups_spec hl
        subst h
        exact ⟨rfl, h3, fun _ => by rw [h2]; exact nodupB_spec hb⟩
      · simp at h
    · split at h
      · unfold gyield at h
        split at h
        · split at h <;> simp only [Option.some.injEq, reduceCtorEq] at h
          rename_i fp hl hb
          simp only [Bool.and_eq_true] at hb
          have h1 := Nat.eq_of_beq_eq_true hb.1
          obtain ⟨h2, h3⟩ := lookups_spec hl
          subst h
          refine ⟨?_, h3, fun _ => by rw [h2]; exact nodupB_spec hb.2⟩
          rw [h2]
          exact List.map_fst_zip (Nat.le_of_eq h1)
        · simp at h
      · simp at h
    · simp at h
  · split at h
    · split at h
      · split at h
        · simp only [Option.some.injEq] at h; subst h; exact .none
        · split at h <;> simp only [Option.some.injEq, reduceCtorEq] at h
          subst h; exact .none
        · simp at h
      · simp at h
    · simp at h
  · split at h
    · split at h <;> simp only [Option.some.injEq, reduceCtorEq] at h
      subst h; exact .none
    · simp at h
  · split at h
    · split at h <;> simp only [Option.some.injEq, reduceCtorEq] at h
      subst h; exact .none
    · simp at h
  · split at h
    · split at h
      · split at h
        · split at h
          · exact gappend_wf h
          · simp at h
        · simp at h
      · split at h
        · split at h
          · split at h
            · exact gappz_wf h
            · simp at h
          · simp at h
        · simp at h
      · simp at h
    · simp at h
  · repeat' split at h
    all_goals simp only [Option.some.injEq, reduceCtorEq] at h
    subst h; exact .none
  · split at h
    · split at h
      · split at h
        · split at h
          · exact gcopy_wf h
          · simp at h
        · simp at h
      · simp at h
    · simp at h
  · simp at h
theorem ostep_wf (h : ostep P T ev hh base q o = some dl) : DlWf hh dl := by
  unfold ostep at h
  split at h
  all_goals try (exact gcall_wf h)
  all_goals repeat' split at h
  all_goals try (simp only [Option.some.injEq, reduceCtorEq] at h)
  all_goals try (subst h)
  all_goals first
    | exact .none
    | (refine ⟨rfl, fun p e hm => ?_, fun _ => by simp⟩; simp only [List.mem_singleton, Prod.mk.injEq] at hm; rw [hm.1, hm.2]; assumption)
    | (split at h <;> simp only [Option.some.injEq, reduceCtorEq] at h; subst h; exact .none)
/-! ### States and entries -/
def putT (t : List GV) (d : Option Tmp) (g : GV) : List GV := match d with | some d => t.set d g | none => t
def putH (h : List Ent) : List (Nat × Ent) → List Ent
  | [] => h
  | (p, e) :: r => putH (h.set p e) r
theorem putH_length : ∀ (u : List (Nat × Ent)) (h : List Ent), (putH h u).length = h.length
  | [], h => rfl
  | (p, e) :: u, h => by simp [putH, putH_length u]
theorem putH_other : ∀ (u : List (Nat × Ent)) (h : List Ent) (p : Nat), p ∉ u.map (·.1) → (putH h u)[p]? = h[p]?
  | [], h, p, _ => rfl
  | (q, e) :: u, h, p, hp => by
    simp only [List.map_cons, List.mem_cons, not_or] at hp
    rw [putH, putH_other u _ p hp.2, List.getElem?_set_ne (fun e => hp.1 e.symm)]
theorem putH_mem : ∀ (u : List (Nat × Ent)) (h : List Ent) (p : Nat) (e : Ent), (u.map (·.1)).Nodup → (p, e) ∈ u → p < h.length → (putH h u)[p]? = some e
  | [], h, p, e, _, hm, _ => by simp at hm
  | (q, e') :: u, h, p, e, hn, hm, hp => by
    simp only [List.map_cons, List.nodup_cons] at hn
    rcases List.mem_cons.1 hm with hm | hm
    · simp only [Prod.mk.injEq] at hm
      obtain ⟨rfl, rfl⟩ := hm
      rw [putH, putH_other u _ p hn.1]
      simp [hp]
    · rw [putH]
      exact putH_mem u _ p e hn.2 hm (by simpa using hp)
theorem Rel.put {t : List GV} {h : List Ent} {a : Act} {W : World} {E : Env} {Bs : Nat → Nat → Prop} (hr : Rel ⟨t, h⟩ a W E Bs) {d : Option Tmp} {g : GV} {v : Value} (hg : R W E g v) :
    Rel ⟨putT t d g, h⟩ (a.put d v) W E Bs := by
  cases d with
  | none => exact hr
  | some d =>
    refine ⟨by simp [Act.put, putT, hr.len], fun i g' hi => ?_, hr.sat⟩
    simp only [Act.put, putT] at hi ⊢
    by_cases hid : i = d
    · subst hid
      have hlt : i < t.length := by have := (List.getElem?_eq_some_iff.1 hi).1; simpa using this
      rw [List.getElem?_set_self hlt] at hi
      injection hi with hi
      have hlt' : i < a.tmps.size := by have := hr.len; simp at this; omega
      exact ⟨v, by simp [hlt'], hi ▸ hg⟩
    · rw [List.getElem?_set_ne (Ne.symm hid)] at hi
      obtain ⟨u, hu, hR⟩ := hr.tmp i g' hi
      exact ⟨u, by rw [Array.getElem?_setIfInBounds_ne (Ne.symm hid)]; exact hu, hR⟩
theorem Sat.pre {h : List Ent} {W : World} {E : Env} {Bs : Nat → Nat → Prop} (hs : Sat W E Bs h) {fp : List (Nat × Ent)} (hl : ∀ p e, (p, e) ∈ fp → h[p]? = some e) : Pre W E Bs fp where
  ent p e hm := hs.ent p e (hl p e hm)
  disj p e q e' k _ _ hne h1 h2 := hs.disj p q k hne h1 h2
  notI p e k _ hb := ⟨(hs.own p k hb).1, (hs.own p k hb).2.1⟩
  Ilt := hs.Ilt
/-- An operation's delta on a whole state. -/
theorem Sat.post {h : List Ent} {W W' : World} {E E' : Env} {Bs Bs' : Nat → Nat → Prop} (hs : Sat W E Bs h) {dl : Dl} (hw : DlWf (fun p => h[p]?) dl) (hc : allP dl.cons)
    (hp : Post W E Bs W' E' Bs' dl.upd h.length dl.new) : Sat W' E' Bs' (putH h dl.upd ++ dl.new) ∧ Fut W E Bs W' E' Bs' ∧ Later W E W' E' := by
  have hpre := hs.pre hw.look
  have hkeys : ∀ p, (∃ e, (p, e) ∈ dl.upd) ↔ ∃ e, (p, e) ∈ dl.fp := by
    intro p
    have h1 : (∃ e, (p, e) ∈ dl.upd) ↔ p ∈ dl.upd.map (·.1) := by simp
    have h2 : (∃ e, (p, e) ∈ dl.fp) ↔ p ∈ dl.fp.map (·.1) := by simp
    rw [h1, h2, hw.keys]
  have hL := hp.later hpre hkeys
  have hlt : ∀ p e, (p, e) ∈ dl.upd → p < h.length := fun p e hm => by
    obtain ⟨e', he'⟩ := (hkeys p).1 ⟨e, hm⟩
    exact (List.getElem?_eq_some_iff.1 (hw.look p e' he')).1
  have hnd : (dl.upd.map (·.1)).Nodup := by rw [hw.keys]; exact hw.nodup hc
  -- who owns what, behind it
  have hcase : ∀ p, (∃ e, (p, e) ∈ dl.upd) ∨ (h.length ≤ p ∧ p < h.length + dl.new.length) ∨ (Bs' p = Bs p ∧ (∀ e, (p, e) ∉ dl.upd) ∧ ¬ (h.length ≤ p ∧ p < h.length + dl.new.length)) := by
    intro p
    by_cases h1 : ∃ e, (p, e) ∈ dl.upd
    · exact .inl h1
    · by_cases h2 : h.length ≤ p ∧ p < h.length + dl.new.length
      · exact .inr (.inl h2)
      · exact .inr (.inr ⟨hp.same p (fun e he => h1 ⟨e, he⟩) h2, fun e he => h1 ⟨e, he⟩, h2⟩)
  have hold : ∀ p k, Bs p k → (∀ e, (p, e) ∉ dl.upd) → (∀ q e, (q, e) ∈ dl.upd → ¬ Bs q k) := fun p k hb hn q e hm hbq =>
    hs.disj p q k (fun eq => hn e (eq ▸ hm)) hb hbq
  have hown : ∀ p k, Bs' p k → (∃ q, Bs q k) ∨ W.heap.size ≤ k := by
    intro p k hb
    rcases hcase p with h1 | h1 | ⟨h1, _, _⟩
    · rcases (hp.own p k (.inl h1) hb).1 with ⟨q, e, _, hq⟩ | hq
      · exact .inl ⟨q, hq⟩
      · exact .inr hq
    · rcases (hp.own p k (.inr h1) hb).1 with ⟨q, e, _, hq⟩ | hq
      · exact .inl ⟨q, hq⟩
      · exact .inr hq
    · rw [h1] at hb; exact .inl ⟨p, hb⟩
  refine ⟨⟨?_, ?_, ?_, hp.Ilt, ?_⟩, ⟨hp.size, hp.os, hp.tape, hp.output, fun k hk hn => hp.keep k hk fun p e _ => hn p, hp.Isub, fun k hk => ?_, hown⟩, hL⟩
  · intro p e he
    by_cases hlen : p < h.length
    · rw [List.getElem?_append_left (by rw [putH_length]; exact hlen)] at he
      by_cases hm : ∃ e', (p, e') ∈ dl.upd
      · obtain ⟨e', hm⟩ := hm
        rw [putH_mem _ _ p e' hnd hm hlen] at he
        injection he with he
        exact he ▸ hp.ent p e' hm
      · have hm' : ∀ e, (p, e) ∉ dl.upd := fun e he => hm ⟨e, he⟩
        rw [putH_other _ _ p (by simpa using hm')] at he
        rw [hp.same p hm' (by omega)]
        refine (hs.ent p e he).later hL fun k hk => hp.keep k (hs.own p k hk).2.1 (hold p k hk hm')
    · rw [List.getElem?_append_right (by rw [putH_length]; omega), putH_length] at he
      have := hp.entn _ e he
      rwa [show h.length + (p - h.length) = p by omega] at this
  · intro p q k hpq hb hb'
    have aux : ∀ p q, p ≠ q → Bs' p k → ((∃ e, (p, e) ∈ dl.upd) ∨ (h.length ≤ p ∧ p < h.length + dl.new.length)) → Bs q k → (∀ e, (q, e) ∉ dl.upd) → False := by
      intro p q hpq hb hp' hbq hq'
      rcases (hp.own p k hp' hb).1 with ⟨r, e, hr, hbr⟩ | hge
      · exact hs.disj q r k (fun eq => hq' e (eq ▸ hr)) hbq hbr
      · have := (hs.own q k hbq).2.1; omega
    rcases hcase p with h1 | h1 | ⟨h1, h1', _⟩ <;> rcases hcase q with h2 | h2 | ⟨h2, h2', _⟩
    · exact hp.disj p q k (.inl h1) (.inl h2) hpq hb hb'
    · exact hp.disj p q k (.inl h1) (.inr h2) hpq hb hb'
    · exact aux p q hpq hb (.inl h1) (h2 ▸ hb') h2'
    · exact hp.disj p q k (.inr h1) (.inl h2) hpq hb hb'
    · exact hp.disj p q k (.inr h1) (.inr h2) hpq hb hb'
    · exact aux p q hpq hb (.inr h1) (h2 ▸ hb') h2'
    · exact aux q p hpq.symm hb' (.inl h2) (h1 ▸ hb) h1'
    · exact aux q p hpq.symm hb' (.inr h2) (h1 ▸ hb) h1'
    · exact hs.disj p q k hpq (h1 ▸ hb) (h2 ▸ hb')
  · intro p k hb
    rw [List.length_append, putH_length]
    rcases hcase p with h1 | h1 | ⟨h1, h1', h1''⟩
    · obtain ⟨e, he⟩ := h1
      have := hp.own p k (.inl ⟨e, he⟩) hb
      have := hlt p e he
      refine ⟨?_, ?_, ?_⟩ <;> first | omega | simp_all
    · have := hp.own p k (.inr h1) hb
      exact ⟨this.2.2, this.2.1, h1.2⟩
    · rw [h1] at hb
      have h2 := hs.own p k hb
      refine ⟨fun hI => ?_, Nat.lt_of_lt_of_le h2.2.1 hp.size, by omega⟩
      rcases hp.Inew k hI with hI | ⟨q, e, hq, hbq⟩ | hge
      · exact h2.1 hI
      · exact hold p k hb h1' q e hq hbq
      · omega
  · intro p hok
    rw [List.length_append, putH_length]
    rcases hp.okn p hok with hok | hok
    · have := hs.oklt p hok; omega
    · exact hok.2
  · rcases hp.Inew k hk with hI | ⟨q, e, _, hbq⟩ | hge
    · exact .inl hI
    · exact .inr (.inl ⟨q, hbq⟩)
    · exact .inr (.inr hge)
end
end Go.Proofs.Ytalcipbagidbpaa
end

section
set_option linter.unusedVariables false
namespace Go.Proofs.Ytalcipbagidbpaa
abbrev Path := List (Nat × Stp)
/-- An operation's guard: is it wanted? -/
def gguard (ops : List Oper) (t : List GV) (path : Path) (o : Oper) : Option (Bool × List GV × Path × List Prop) :=
  match o.guard with
  | none => some (true, t, path, [])
  | some (j, want) => match ops[j]? with
    | some oj => match oj.dst with
      | some d => match t[d]? with
        | some (.lit b) => some (b == want, t, path, [])
        | some (.bool b) => match path with
          | (d', .br x) :: r => match Nat.beq d d' with
            | true => some (x == want, t.set d (.lit x), r, [b = x])
            | false => none
          | _ => none
        | some (.tup _) => some (false, t, path, [])
        | _ => none
      | none => none
    | none => none
def takeQ (d : Option Tmp) (path : Path) : Option Stp × Path :=
  match d, path with
  | some d, (d', s) :: r => match Nat.beq d d', s with
    | true, .br _ => (none, path)
    | true, s => (some s, r)
    | false, _ => (none, path)
  | _, _ => (none, path)
def rops (P : Program) (T : Tab) (ops : List Oper) : List Oper → List GV → List Ent → Path → Option (List GV × List Ent × Path × List Prop)
  | [], t, h, path => some (t, h, path, [])
  | o :: rest, t, h, path => match gguard ops t path o with
    | some (true, t1, p1, c1) => match ostep P T (geval t1) (fun p => h[p]?) h.length (takeQ o.dst p1).1 o with
      | some dl => match rops P T ops rest (putT t1 o.dst dl.res) (putH h dl.upd ++ dl.new) (takeQ o.dst p1).2 with
        | some (t', h', p', c') => some (t', h', p', c1 ++ (dl.cons ++ c'))
        | none => none
      | none => none
    | some (false, t1, p1, c1) => match rops P T ops rest (putT t1 o.dst (.tup [])) h p1 with
      | some (t', h', p', c') => some (t', h', p', c1 ++ c')
      | none => none
    | none => none
theorem allP_append {ps qs : List Prop} : allP (ps ++ qs) ↔ allP ps ∧ allP qs := by
  induction ps with
  | nil => simp [allP]
  | cons p ps ih => rw [List.cons_append, allP_cons, allP_cons, ih, and_assoc]
section
variable {P : Program} {T : Tab} {ro : Option Nat}
theorem gguard_R {ops : Array Oper} {t t1 : List GV} {path p1 : Path} {o : Oper} {b : Bool} {c1 : List Prop} (h : gguard ops.toList t path o = some (b, t1, p1, c1)) (hc : allP c1)
    {hE : List Ent} {a : Act} {W : World} {E : Env} {Bs : Nat → Nat → Prop} (hr : Rel ⟨t, hE⟩ a W E Bs) : Region.wanted o (yielded ops a.tmps) = b ∧ Rel ⟨t1, hE⟩ a W E Bs := by
  unfold gguard at h
  split at h
  · rename_i hg
    simp only [Option.some.injEq, Prod.mk.injEq] at h
    obtain ⟨rfl, rfl, rfl, rfl⟩ := h
    exact ⟨by simp [Region.wanted, hg], hr⟩
  · rename_i j want hg
    split at h
    · rename_i oj hj
      have hj : ops[j]? = some oj := by simpa using hj
      split at h
      · rename_i d hd
        split at h
        · rename_i b' ht
          simp only [Option.some.injEq, Prod.mk.injEq] at h
          obtain ⟨rfl, rfl, rfl, rfl⟩ := h
          obtain ⟨v, hv, hR⟩ := hr.tmp d _ ht
          refine ⟨?_, hr⟩
          simp only [Region.wanted, hg, yielded, hj, Option.bind_some, hd, hv, hR.lit_inv]
          cases b' <;> cases want <;> rfl
        · rename_i b' ht
          split at h
          · rename_i d' x r
            split at h <;> simp only [Option.some.injEq, Prod.mk.injEq, reduceCtorEq] at h
            obtain ⟨rfl, rfl, rfl, rfl⟩ := h
            have hc : b' = x := hc
            subst hc
            obtain ⟨v, hv, hR⟩ := hr.tmp d _ ht
            have hvb := hR.bool_inv
            subst hvb
            refine ⟨?_, ⟨by simpa using hr.len, fun i g hi => ?_, hr.sat⟩⟩
            · simp only [Region.wanted, hg, yielded, hj, Option.bind_some, hd, hv]
              cases b' <;> cases want <;> rfl
            · simp only at hi
              by_cases hid : i = d
              · subst hid
                rw [List.getElem?_set_self (by have := (List.getElem?_eq_some_iff.1 ht).1; exact this)] at hi
                injection hi with hi
                subst hi
                exact ⟨_, hv, .lit⟩
              · rw [List.getElem?_set_ne (Ne.symm hid)] at hi
                exact hr.tmp i g hi
          · simp at h
        · rename_i vs ht
          simp only [Option.some.injEq, Prod.mk.injEq] at h
          obtain ⟨rfl, rfl, rfl, rfl⟩ := h
          obtain ⟨v, hv, hR⟩ := hr.tmp d _ ht
          obtain ⟨us, rfl, _⟩ := hR.tup_inv
          refine ⟨?_, hr⟩
          simp only [Region.wanted, hg, yielded, hj, Option.bind_some, hd, hv]
          cases want <;> rfl
        · simp at h
      · simp at h
    · simp at h
theorem R.undef {W : World} {E : Env} : R W E (.tup []) undef := .tup _ (by simp) fun j c v hc => by simp at hc
theorem rops_sound (hT : TabOK P T) {ops : Array Oper} {Q : Exit → Act → World → Prop} : ∀ (rest : List Oper) (i : Nat) (t : List GV) (h : List Ent) (path : Path) (t' : List GV) (h' : List Ent) (p' : Path) (cs : List Prop)
    (a : Act) (W : World) (E : Env) (Bs : Nat → Nat → Prop), ops.toList.drop i = rest → rops P T ops.toList rest t h path = some (t', h', p', cs) → allP cs → Rel ⟨t, h⟩ a W E Bs →
    (∀ a' W' E' Bs', Rel ⟨t', h'⟩ a' W' E' Bs' → Fut W E Bs W' E' Bs' → a'.defers = a.defers → Q .normal a' W') → wpOpsIn (Fw ro) 0 P ops Q (List.range' i rest.length) a W
  | [], i, t, h, path, t', h', p', cs, a, W, E, Bs, hdrop, hx, hc, hr, hQ => by
    simp only [rops, Option.some.injEq, Prod.mk.injEq] at hx
    obtain ⟨rfl, rfl, rfl, rfl⟩ := hx
    exact hQ a W E Bs hr (Fut.refl _ _ _) rfl
  | o :: rest, i, t, h, path, t', h', p', cs, a, W, E, Bs, hdrop, hx, hc, hr, hQ => by
    have hoi : ops[i]? = some o := by
      have : ops.toList[i]? = some o := by rw [← List.head?_drop, hdrop]; rfl
      simpa using this
    have hdrop' : ops.toList.drop (i + 1) = rest := by rw [← List.tail_drop, hdrop]; rfl
    simp only [rops] at hx
    split at hx
    · rename_i t1 p1 c1 hg
      split at hx
      · rename_i dl hdl
        split at hx <;> simp only [Option.some.injEq, Prod.mk.injEq, reduceCtorEq] at hx
        rename_i t2 h2 p2 c2 hrest
        obtain ⟨rfl, rfl, rfl, rfl⟩ := hx
        obtain ⟨hc1, hc23⟩ := allP_append.1 hc
        obtain ⟨hc2, hc3⟩ := allP_append.1 hc23
        obtain ⟨hw, hr1⟩ := gguard_R hg hc1 hr
        simp only [List.length_cons, List.range'_succ]
        simp only [wpOpsIn, hoi, hw, if_true]
        have hwf := ostep_wf hdl
        refine ostep_sound (Bs := Bs) hT (geval_R hr1.tmp) hdl hc2 (hr1.sat.pre hwf.look) (fun p h1 h2 => ⟨fun hok => ?_, fun e he => ?_⟩) _ _ fun v W' E' Bs' hR hpost => ?_
        · have := hr1.sat.oklt p hok; simp only at this; omega
        · have := (List.getElem?_eq_some_iff.1 (hwf.look p e he)).1; omega
        · obtain ⟨hs, hf, hL⟩ := hr1.sat.post hwf hc2 hpost
          have hr2 : Rel ⟨t1, putH h dl.upd ++ dl.new⟩ a W' E' Bs' := ⟨hr1.len, fun j g hj => by
            obtain ⟨u, hu, hRu⟩ := hr1.tmp j g hj
            exact ⟨u, hu, hRu.later hL⟩, hs⟩
          refine rops_sound hT rest (i + 1) _ _ _ _ _ _ _ _ W' E' Bs' hdrop' hrest hc3 (hr2.put hR) fun a'' W'' E'' Bs'' h1 h2 h3 => hQ a'' W'' E'' Bs'' h1 (hf.trans h2) (h3.trans ?_)
          cases o.dst <;> rfl
      · simp at hx
    · rename_i t1 p1 c1 hg
      split at hx <;> simp only [Option.some.injEq, Prod.mk.injEq, reduceCtorEq] at hx
      rename_i t2 h2 p2 c2 hrest
      obtain ⟨rfl, rfl, rfl, rfl⟩ := hx
      obtain ⟨hc1, hc2⟩ := allP_append.1 hc
      obtain ⟨hw, hr1⟩ := gguard_R hg hc1 hr
      simp only [List.length_cons, List.range'_succ]
      simp only [wpOpsIn, hoi, hw, Bool.false_eq_true, if_false]
      refine ⟨fun _ _ => trivial, ?_⟩
      refine rops_sound hT rest (i + 1) _ _ _ _ _ _ _ _ W E Bs hdrop' hrest hc2 (hr1.put R.undef) fun a'' W'' E'' Bs'' h1 h2 h3 => hQ a'' W'' E'' Bs'' h1 h2 (h3.trans ?_)
      cases o.dst <;> rfl
    · simp at hx
theorem GW.region (hT : TabOK P T) {d : List Deferred} {id : Nat} {ops : Array Oper} {t t' : List GV} {h h' : List Ent} {path p' : Path} {cs : List Prop} {Q : Exit → St → Prop}
    (hx : rops P T ops.toList ops.toList t h path = some (t', h', p', cs)) (hc : allP cs) (hQ : Q .normal ⟨t', h'⟩) : GW P ro d (.region id ops false) ⟨t, h⟩ Q := by
  intro a W E Bs hd hr
  refine wpIn_region ?_
  have := rops_sound (ro := ro) hT (ops := ops) (Q := fun e a' W' => ∃ st' E' Bs', Q e st' ∧ a'.defers = d ∧ Rel st' a' W' E' Bs' ∧ Fut W E Bs W' E' Bs') ops.toList 0 t h path t' h' p' cs a W E Bs (by simp) hx hc hr
    fun a' W' E' Bs' h1 h2 h3 => ⟨_, E', Bs', hQ, h3.trans hd, h1, h2⟩
  rw [List.range_eq_range']
  simpa using this
end
end Go.Proofs.Ytalcipbagidbpaa
end
