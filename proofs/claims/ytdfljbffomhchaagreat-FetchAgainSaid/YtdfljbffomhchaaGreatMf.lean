/- Ways and units: how they lie in memory. -/
import Derived.Test.YtdfljbffomhchaaGreatMe
set_option linter.unusedVariables false
namespace Go.Sm

def basObj (b : Bas) (H : Nat) : Obj := .cells (List.toArray [Ptr H, .bool b.fib, .bool b.bib, U8 b.last, .bool b.asked, I64 b.again, .bool b.b0, .bool b.b1, .bool b.i0, .bool b.i1]) 258 (0, 0)
theorem basObj_eq (H : Nat) (fib bib : Bool) (last : Int) (asked : Bool) (again : Int) (b0 b1 i0 i1 : Bool) :
    Obj.cells (List.toArray [Ptr H, .bool fib, .bool bib, U8 last, .bool asked, I64 again, .bool b0, .bool b1, .bool i0, .bool i1]) 258 (0, 0) = basObj ⟨fib, bib, last, asked, again, b0, b1, i0, i1⟩ H := rfl
def cycObj (c : Cyc) (H : Nat) : Obj := .cells (List.toArray [Ptr H, I64 c.n1, I64 c.n2, U8 c.last, I64 c.at_, .bool c.force, .bool c.b0, .bool c.b1]) 256 (0, 0)
theorem cycObj_eq (H : Nat) (n1 n2 last at_ : Int) (force b0 b1 : Bool) :
    Obj.cells (List.toArray [Ptr H, I64 n1, I64 n2, U8 last, I64 at_, .bool force, .bool b0, .bool b1]) 256 (0, 0) = cycObj ⟨n1, n2, last, at_, force, b0, b1⟩ H := rfl
def Wy.obj (w : Wy) (H : Nat) : Obj := cond w.cyc (cycObj w.c H) (basObj w.b H)
def Wy.ty (w : Wy) : Nat := cond w.cyc 218 220
def Wy.fn (w : Wy) (a b : Nat) : Nat := cond w.cyc b a
abbrev Wy.val (w : Wy) (B : Nat) : Value := .iface w.ty (Ptr B)
/-- A unit as a value; pv is the slice that has its octets. -/
abbrev Unt.val (u : Unt) (pv : Value) : Value := .agg (List.toArray [U8 u.bsn, U8 u.fsn, .bool u.bib, .bool u.fib, U8 u.kind, U8 u.status, .bool u.wide, pv])
abbrev untBox (u : Unt) (pv : Value) : Obj := .cells (List.toArray [U8 u.bsn, U8 u.fsn, .bool u.bib, .bool u.fib, U8 u.kind, U8 u.status, .bool u.wide, pv]) 97 (0, 0)
theorem Own.rot {w0 w : World} {A C N R : List Ent} (h : Own w0 w (C ++ (N ++ (A ++ R)))) : Own w0 w (A ++ (C ++ (N ++ R))) := by
  have := Own.swap (A := C ++ N) (B := A) (R := R) (by simpa [List.append_assoc] using h)
  simpa [List.append_assoc] using this
def lnkObj (S : Int) (s : Setup) (C A J B : Nat) (t : Nat) (o : Otg) (k : Leak) (tv : Value) (fails : Int) : Obj :=
  .cells (List.toArray [U8 S, .bool s.cyc, I64 s.n1, I64 s.n2, I64 s.hold, I64 s.octs, I64 s.t0, I64 s.t1, I64 s.t2, I64 s.t3, I64 s.t4, I64 s.t5, I64 s.t6, I64 s.t7, Ptr C, Ptr A, Ptr J, .iface t (Ptr B),
    .bool o.own, .bool o.their, .bool o.wait, I64 k.n, I64 k.seen, tv, I64 fails]) 69 (0, 0)
theorem lnkObj_eq (S : Int) (s : Setup) (C A J B : Nat) (t : Nat) (o1 o2 o3 : Bool) (k1 k2 : Int) (tv : Value) (fails : Int) :
    Obj.cells (List.toArray [U8 S, .bool s.cyc, I64 s.n1, I64 s.n2, I64 s.hold, I64 s.octs, I64 s.t0, I64 s.t1, I64 s.t2, I64 s.t3, I64 s.t4, I64 s.t5, I64 s.t6, I64 s.t7, Ptr C, Ptr A, Ptr J, .iface t (Ptr B),
      .bool o1, .bool o2, .bool o3, I64 k1, I64 k2, tv, I64 fails]) 69 (0, 0) = lnkObj S s C A J B t ⟨o1, o2, o3⟩ ⟨k1, k2⟩ tv fails := rfl
/-- What was told, as cells. -/
inductive Tolds (R : List Ent) : List Value → List Tld → Prop
  | nil : Tolds R [] []
  | cons {v : Value} {t : Tld} {vs : List Value} {ts : List Tld} : Pay R v t.p → Tolds R vs ts → Tolds R (U8 t.kind :: U8 t.why :: v :: vs) (t :: ts)
theorem Tolds.sub {R R' : List Ent} {vs : List Value} {ts : List Tld} (h : Tolds R vs ts) (hs : ∀ x, x ∈ R → x ∈ R') : Tolds R' vs ts := by
  induction h with
  | nil => exact .nil
  | cons h1 _ ih => exact .cons (h1.sub hs) ih
theorem Tolds.snoc {R : List Ent} {v : Value} {t : Tld} {vs : List Value} {ts : List Tld} (h : Tolds R vs ts) (hv : Pay R v t.p) : Tolds R (vs ++ [U8 t.kind, U8 t.why, v]) (ts ++ [t]) := by
  induction h with
  | nil => exact .cons hv .nil
  | cons h1 _ ih => exact .cons h1 ih
structure Adr where
  X : Nat
  A : Nat
  C : Nat
  J : Nat
  B : Nat
  H : Nat
/-- The blocks of a link. -/
abbrev lnkOwn (x : Lnk) (p : Adr) (tv : Value) (o : Obj) (es en tl : Ent) (L : List Ent) : List Ent :=
  some (p.X, lnkObj x.S x.s p.C p.A p.J p.B x.w.ty x.o x.leak tv x.fails) :: some (p.A, alnObj x.s p.C x.a) :: some (p.C, clkObj x.c) :: some (p.J, jamObj x.s p.C x.j) :: some (p.B, x.w.obj p.H) :: some (p.H, o) :: es :: en :: tl :: L
structure LnkAt (R : List Ent) (n : Nat) (x : Lnk) (tv : Value) (o : Obj) (es en tl : Ent) : Prop where
  hd : HdAt R x.h o es en
  told : ∃ cs, Slc 111 3 tv cs x.told.length tl ∧ Tolds R cs x.told
  len : x.told.length ≤ n
theorem LnkAt.mono {R : List Ent} {n m : Nat} {x : Lnk} {tv : Value} {o : Obj} {es en tl : Ent} (h : LnkAt R n x tv o es en tl) (hm : n ≤ m) : LnkAt R m x tv o es en tl := ⟨h.hd, h.told, Nat.le_trans h.len hm⟩
theorem LnkAt.sub {R R' : List Ent} {n : Nat} {x : Lnk} {tv : Value} {o : Obj} {es en tl : Ent} (h : LnkAt R n x tv o es en tl) (hs : ∀ x, x ∈ R → x ∈ R') : LnkAt R' n x tv o es en tl := ⟨h.hd.sub hs, by
  obtain ⟨cs, h1, h2⟩ := h.told
  exact ⟨cs, h1, h2.sub hs⟩, h.len⟩
/-- The link that lies there. -/
abbrev lnkOf {R : List Ent} {n : Nat} {x : Lnk} {tv : Value} {o : Obj} {es en tl : Ent} (_ : LnkAt R n x tv o es en tl) : Lnk := x
section
variable {w0 w : World} {a b c d e y : Ent} {N L : List Ent}
theorem Own.in23 (h : Own w0 w (a :: b :: c :: d :: e :: L)) : Own w0 w (c :: d :: e :: a :: b :: L) := Own.swap (A := [a, b]) (B := [c, d, e]) h
theorem Own.out23 (h : Own w0 w (c :: d :: e :: a :: b :: L)) : Own w0 w (a :: b :: c :: d :: e :: L) := Own.swap (A := [c, d, e]) (B := [a, b]) h
theorem Own.out23N (h : Own w0 w (c :: d :: e :: (N ++ a :: b :: L))) : Own w0 w (a :: b :: c :: d :: e :: (N ++ L)) := Own.rot (A := [a, b]) (C := [c, d, e]) h
theorem Own.out23e (h : Own w0 w (y :: c :: d :: e :: a :: b :: L)) : Own w0 w (a :: b :: c :: d :: e :: y :: L) := by
  have := Own.swap (A := [y]) (B := [c, d, e]) h
  exact Own.out23N (N := [y]) this
theorem Own.in13 (h : Own w0 w (b :: c :: d :: e :: L)) : Own w0 w (c :: d :: e :: b :: L) := Own.swap (A := [b]) (B := [c, d, e]) h
theorem Own.out13 (h : Own w0 w (c :: d :: e :: b :: L)) : Own w0 w (b :: c :: d :: e :: L) := Own.swap (A := [c, d, e]) (B := [b]) h
theorem Own.in14 (h : Own w0 w (a :: b :: c :: d :: e :: L)) : Own w0 w (b :: c :: d :: e :: a :: L) := Own.swap (A := [a]) (B := [b, c, d, e]) h
theorem Own.out14 (h : Own w0 w (b :: c :: d :: e :: a :: L)) : Own w0 w (a :: b :: c :: d :: e :: L) := Own.swap (A := [b, c, d, e]) (B := [a]) h
theorem Own.none1 (h : Own w0 w (a :: b :: L)) : Own w0 w (b :: none :: L) := h.drop.nothing.pull 1 rfl
theorem Own.swap1 (h : Own w0 w (e :: a :: b :: L)) : Own w0 w (b :: e :: L) := (h.pull 1 rfl).drop.pull 1 rfl
theorem subN {R L : List Ent} (hR : ∀ x, x ∈ R → x ∈ L) : ∀ x, x ∈ N ++ R → x ∈ N ++ L := fun x hx => by
  rcases List.mem_append.1 hx with h | h
  · exact List.mem_append_left _ h
  · exact List.mem_append_right _ (hR x h)
end
end Go.Sm
