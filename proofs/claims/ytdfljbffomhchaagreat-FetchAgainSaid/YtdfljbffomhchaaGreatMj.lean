/- A link that serves: what it holds is what was handed in; what is sent, taken and answered changes nothing else. -/
import Derived.Test.YtdfljbffomhchaaGreatMi
set_option linter.unusedVariables false
set_option linter.unusedSimpArgs false
set_option maxRecDepth 10000
namespace Go.Sm

/-- A link in service that holds the messages l, the first by number f, and took the message la last. -/
structure Sv (x : Lnk) (f la : Int) (l : List Msg) : Prop where
  S : x.S = 4
  own : x.o.own = false
  thr : x.o.their = false
  jown : x.j.own = false
  jthr : x.j.their = false
  leak : x.leak = ⟨0, 0⟩
  fib : x.w.b.fib = true
  bib : x.w.b.bib = true
  all : x.h.sent ++ x.h.next = l
  first : x.h.first = f
  last : x.w.last = la

theorem sw4_Sv (cyc : Bool) : Sv (sw4 cyc) 0 127 [] := by
  cases cyc <;> exact ⟨by decide, by decide, by decide, by decide, by decide, by rfl, by decide, by decide, by decide, by decide, by decide⟩
namespace Sv
variable {x : Lnk} {f la : Int} {l : List Msg}
theorem setC (h : Sv x f la l) (c : Clk) : Sv (x.setC c) f la l := ⟨h.S, h.own, h.thr, h.jown, h.jthr, h.leak, h.fib, h.bib, h.all, h.first, h.last⟩
theorem wait_eq (x : Lnk) (b : Bool) : ∃ c, x.wait b = x.setC c := by
  unfold Lnk.wait
  split
  · exact ⟨_, rfl⟩
  · split
    · exact ⟨_, rfl⟩
    · exact ⟨x.c, rfl⟩
theorem wait (h : Sv x f la l) (b : Bool) : Sv (x.wait b) f la l := by
  obtain ⟨c, e⟩ := wait_eq x b
  rw [e]; exact h.setC c
theorem ok (h : Sv x f la l) : x.serves = true := by simp [Lnk.serves, h.S]
theorem order5 (h : Sv x f la l) (p : Msg) : x.order 5 p = x.put (x.h.put p) := by
  unfold Lnk.order
  rw [if_neg (by decide), if_neg (by decide), if_neg (by decide), if_pos rfl, if_neg (by rw [h.ok]; simp)]
theorem put_eq (h : Hd) (p : Msg) : (h.put p = (h, (h.put p).2) ∧ (h.put p).2 ≠ 0) ∨ h.put p = ({ h with next := h.next ++ [p] }, 0) := by
  unfold Hd.put
  split
  · exact .inl ⟨rfl, by show (5 : Int) ≠ 0; decide⟩
  · split
    · exact .inl ⟨rfl, by show (6 : Int) ≠ 0; decide⟩
    · split
      · exact .inl ⟨rfl, by show (3 : Int) ≠ 0; decide⟩
      · exact .inr rfl
theorem put (h : Sv x f la l) (p : Msg) : Sv (x.order 5 p).1 f la (if (x.order 5 p).2 = 0 then l ++ [p] else l) := by
  rw [h.order5]
  show Sv ({ x with h := (x.h.put p).1 }) f la (if (x.h.put p).2 = 0 then l ++ [p] else l)
  rcases put_eq x.h p with ⟨e, e0⟩ | e
  · rw [if_neg e0, e]
    exact ⟨h.S, h.own, h.thr, h.jown, h.jthr, h.leak, h.fib, h.bib, h.all, h.first, h.last⟩
  · rw [if_pos (by rw [e]), e]
    exact ⟨h.S, h.own, h.thr, h.jown, h.jthr, h.leak, h.fib, h.bib, by rw [← h.all]; simp, h.first, h.last⟩
theorem puts {put : Int} : ∀ (k : Nat) {s : Lnk × List Msg}, Sv s.1 f la s.2 → Sv (puts put k s).1 f la (Go.Sm.puts put k s).2
  | 0, s, h => h
  | k + 1, s, h => (Sv.puts k h).put _
theorem puts' {put : Int} {k : Nat} (h : Sv x f la l) : Sv (Go.Sm.puts put k (x, l)).1 f la (Go.Sm.puts put k (x, l)).2 := Sv.puts k (s := (x, l)) h
theorem send_h (h : Hd) : h.send.1.sent ++ h.send.1.next = h.sent ++ h.next ∧ h.send.1.first = h.first := by
  unfold Hd.send
  split
  · exact ⟨rfl, rfl⟩
  · split
    · exact ⟨rfl, rfl⟩
    · rename_i h0 h1
      obtain ⟨p, r, hp⟩ : ∃ p r, h.next = p :: r := by
        cases hn : h.next with
        | nil => rw [hn] at h0; simp at h0
        | cons p r => exact ⟨p, r, rfl⟩
      simp [Hd.sent1, hp]
theorem bnext2 (b : Bas) (h : Hd) : (b.next2 h).1.1 = b ∧ (b.next2 h).1.2 = h.send.1 := by
  unfold Bas.next2; split <;> exact ⟨rfl, rfl⟩
theorem bnext (b : Bas) (h : Hd) : (b.next h).1.1.fib = b.fib ∧ (b.next h).1.1.bib = b.bib ∧ (b.next h).1.1.last = b.last ∧ ((b.next h).1.2 = h ∨ (b.next h).1.2 = h.send.1) := by
  unfold Bas.next
  split
  · split
    · split <;> exact ⟨rfl, rfl, rfl, .inl rfl⟩
    · have := bnext2 { b with again := -1 } h
      rw [this.1, this.2]
      exact ⟨rfl, rfl, rfl, .inr rfl⟩
  · have := bnext2 b h
    rw [this.1, this.2]
    exact ⟨rfl, rfl, rfl, .inr rfl⟩
theorem cnext4 (c : Cyc) (h : Hd) : (Cyc.next4 c h).1.1.last = c.last := by unfold Cyc.next4; split <;> rfl
theorem cnext3 (c : Cyc) (h : Hd) : (Cyc.next3 c h).1.1.last = c.last := by
  unfold Cyc.next3
  rw [cnext4]; split <;> rfl
theorem cnext (c : Cyc) (h : Hd) : (c.next h).1.1.last = c.last ∧ ((c.next h).1.2 = h ∨ (c.next h).1.2 = h.send.1) := by
  refine ⟨?_, ?_⟩
  · have : ∀ c : Cyc, (Cyc.next2 c h).1.1.last = c.last := fun c => by
      unfold Cyc.next2
      split
      · split
        · rfl
        · exact cnext3 _ _
      · exact cnext3 _ _
    unfold Cyc.next
    rw [this]; split <;> rfl
  · unfold Cyc.next
    exact Cyc.next2_h _ _
theorem wnext (w : Wy) (h : Hd) : (w.next h).1.1.b.fib = w.b.fib ∧ (w.next h).1.1.b.bib = w.b.bib ∧ (w.next h).1.1.last = w.last ∧ ((w.next h).1.2 = h ∨ (w.next h).1.2 = h.send.1) := by
  have h1 := bnext w.b h
  have h2 := cnext w.c h
  unfold Wy.next Wy.last
  cases w.cyc
  · exact h1
  · exact ⟨rfl, rfl, h2.1, h2.2⟩
theorem next (h : Sv x f la l) : Sv x.next.1 f la l := by
  unfold Lnk.next
  rw [if_neg (by rw [h.S]; decide), if_neg (by rw [h.S]; decide), if_pos h.S]
  have hj : x.j.takeDue.1.own = false ∧ x.j.takeDue.1.their = false := by
    unfold Jam.takeDue
    split
    · exact ⟨h.jown, h.jthr⟩
    · exact ⟨h.jown, h.jthr⟩
  have h1 : Sv { x with j := x.j.takeDue.1 } f la l := ⟨h.S, h.own, h.thr, hj.1, hj.2, h.leak, h.fib, h.bib, h.all, h.first, h.last⟩
  unfold Lnk.next1
  split
  · exact h1
  · unfold Lnk.next2
    refine Sv.wait ?_ _
    obtain ⟨e1, e2, e3, e4⟩ := wnext x.w x.h
    refine ⟨h.S, h.own, h.thr, hj.1, hj.2, h.leak, e1.trans h.fib, e2.trans h.bib, ?_, ?_, e3.trans h.last⟩
    · show (x.w.next x.h).1.2.sent ++ (x.w.next x.h).1.2.next = l
      rcases e4 with e | e
      · rw [e]; exact h.all
      · rw [e, (send_h x.h).1]; exact h.all
    · show (x.w.next x.h).1.2.first = f
      rcases e4 with e | e
      · rw [e]; exact h.first
      · rw [e, (send_h x.h).2]; exact h.first
theorem sends : ∀ (k : Nat) {x : Lnk}, Sv x f la l → Sv (sends k x) f la l
  | 0, x, h => h
  | k + 1, x, h => (Sv.sends k h).next

theorem banswer {b : Bas} {h : Hd} {u : Unt} (hf : b.fib = true) (hu : u.bib = true) (hk : h.knows u.bsn = true) :
    (b.answer h u).1.1.fib = true ∧ (b.answer h u).1.1.bib = b.bib ∧ (b.answer h u).1.1.last = b.last ∧ (b.answer h u).1.2 = (h.free u.bsn).1 ∧ (b.answer h u).2 = ((h.free u.bsn).2.1, 0) := by
  unfold Bas.answer
  rw [hk]
  rw [if_neg (by simp [Bas.seeB]), if_neg (by simp)]
  have hb : ∀ (c : Bas) (g : Hd) (k : Int), (c.back g k).fib = c.fib ∧ (c.back g k).bib = c.bib ∧ (c.back g k).last = c.last := fun c g k => by unfold Bas.back; split <;> exact ⟨rfl, rfl, rfl⟩
  have ho : ∀ (c : Bas) (g : Hd), (c.over g).fib = c.fib ∧ (c.over g).bib = c.bib ∧ (c.over g).last = c.last := fun c g => by unfold Bas.over; split <;> exact ⟨rfl, rfl, rfl⟩
  have ht : ∀ (c : Bas) (g : Hd), c.fib = true → (c.turn g u.bib) = c := fun c g hc => by unfold Bas.turn; rw [hu, hc]; rfl
  have h1 := hb (b.seeB (!true)).1 (h.free u.bsn).1 (h.free u.bsn).2.1
  have h2 := ho ((b.seeB (!true)).1.back (h.free u.bsn).1 (h.free u.bsn).2.1) (h.free u.bsn).1
  have hf' : (((b.seeB (!true)).1.back (h.free u.bsn).1 (h.free u.bsn).2.1).over (h.free u.bsn).1).fib = true := by rw [h2.1, h1.1]; exact hf
  unfold Bas.answer1
  simp only [ht _ _ hf']
  exact ⟨hf', by rw [h2.2.1, h1.2.1]; rfl, by rw [h2.2.2, h1.2.2]; rfl, by first | rfl | trivial, by first | rfl | trivial⟩
theorem canswer {c : Cyc} {h : Hd} {u : Unt} (hk : h.knows u.bsn = true) :
    (c.answer h u).1.1.last = c.last ∧ (c.answer h u).1.2 = (h.free u.bsn).1 ∧ (c.answer h u).2 = ((h.free u.bsn).2.1, 0) := by
  unfold Cyc.answer
  rw [hk]
  rw [if_neg (by simp [Cyc.see]), if_neg (by simp)]
  exact ⟨rfl, rfl, rfl⟩
theorem wanswer {w : Wy} {h : Hd} {u : Unt} (hf : w.b.fib = true) (hu : u.bib = true) (hk : h.knows u.bsn = true) :
    (w.answer h u).1.1.b.fib = true ∧ (w.answer h u).1.1.b.bib = w.b.bib ∧ (w.answer h u).1.1.last = w.last ∧ (w.answer h u).1.2 = (h.free u.bsn).1 ∧ (w.answer h u).2 = ((h.free u.bsn).2.1, 0) := by
  have h1 := banswer (b := w.b) (h := h) hf hu hk
  have h2 := canswer (c := w.c) (h := h) hk
  unfold Wy.answer Wy.last
  cases w.cyc
  · exact h1
  · exact ⟨hf, rfl, h2⟩
/-- A message in its order is taken. -/
theorem wtake2 {w : Wy} {u : Unt} (hb : w.b.bib = true) (hu : u.fib = true) (hk : u.kind = 2) (hn : u.fsn = ringNext w.last) :
    (w.take u).1.b.fib = w.b.fib ∧ (w.take u).1.b.bib = true ∧ (w.take u).1.last = u.fsn ∧ (w.take u).2 = (u.info, true, 0) := by
  have hu1 : Bas.seeI w.b false = ({ w.b with i0 := w.b.i1, i1 := false }, false) := rfl
  revert hn
  unfold Wy.take Wy.last
  cases w.cyc
  · intro hn
    have : w.b.take u = ({ w.b with i0 := w.b.i1, i1 := false, last := ringNext w.b.last, asked := false }, u.info, true, 0) := by
      unfold Bas.take
      rw [if_neg (by rw [hu, hb]; simp), hu1]
      unfold Bas.take1
      rw [if_pos ⟨hk, hn⟩]
    simp only [cond_false] at hn ⊢
    rw [this]
    exact ⟨by first | rfl | trivial, hb, hn.symm, by first | rfl | trivial⟩
  · intro hn
    have : w.c.take u = ({ w.c with last := u.fsn }, u.info, true, 0) := by
      unfold Cyc.take
      rw [if_neg]
      rintro (h | h)
      · exact h hk
      · exact h hn
    simp only [cond_true]
    rw [this]
    exact ⟨by first | rfl | trivial, hb, by first | rfl | trivial, by first | rfl | trivial⟩
/-- Of fill nothing is taken. -/
theorem wtake0 {w : Wy} {u : Unt} (hb : w.b.bib = true) (hu : u.fib = true) (hk : u.kind = 0) (hn : u.fsn = w.last) :
    (w.take u).1.b.fib = w.b.fib ∧ (w.take u).1.b.bib = true ∧ (w.take u).1.last = w.last ∧ (w.take u).2 = ([], false, 0) := by
  have hu1 : Bas.seeI w.b false = ({ w.b with i0 := w.b.i1, i1 := false }, false) := rfl
  revert hn
  unfold Wy.take Wy.last
  cases w.cyc
  · intro hn
    have : w.b.take u = ({ w.b with i0 := w.b.i1, i1 := false, asked := false }, [], false, 0) := by
      unfold Bas.take
      rw [if_neg (by rw [hu, hb]; simp), hu1]
      unfold Bas.take1
      rw [if_neg (by rw [hk]; rintro ⟨h, _⟩; cases h)]
      exact (if_pos (show u.fsn = w.b.last from hn)).trans rfl
    simp only [cond_false]
    rw [this]
    exact ⟨by first | rfl | trivial, hb, by first | rfl | trivial, by first | rfl | trivial⟩
  · intro hn
    have : w.c.take u = (w.c, [], false, 0) := by
      unfold Cyc.take
      rw [if_pos (.inl (by rw [hk]; decide))]
    simp only [cond_true]
    rw [this]
    exact ⟨by first | rfl | trivial, hb, by first | rfl | trivial, by first | rfl | trivial⟩
theorem count (h : Sv x f la l) : x.count false = x := by
  unfold Lnk.count
  rw [if_neg (by rw [h.S]; decide), if_neg (by rw [h.S]; decide), h.leak]
  have e : Leak.unit ⟨0, 0⟩ false = (⟨0, 0⟩, false) := by rfl
  rw [e]
  unfold Lnk.count2
  rw [if_neg (by decide)]
  have := h.leak
  cases x
  simp only at this
  subst this
  rfl
theorem hear_eq (h : Sv x f la l) {u : Unt} (hk : u.kind ≠ 1) : x.hear u = x.ord1 u (x.w.answer x.h u) := by
  unfold Lnk.hear
  rw [h.count]
  unfold Lnk.hear1
  rw [if_neg (by rw [h.S]; decide), if_neg hk, if_neg (by rw [h.S]; decide)]
  have e1 : x.served = x := by unfold Lnk.served; rw [if_neg (by rw [h.S]; decide)]
  have e2 : x.back = x := by unfold Lnk.back; rw [if_neg (by rw [h.thr]; decide)]
  unfold Lnk.ordinary
  rw [e1, e2]
theorem ord3_eq (h : x.j.their = false) (k : Int) : x.ord3 k = x := by
  have : x.jc k = false := by unfold Lnk.jc; rw [h]; rfl
  unfold Lnk.ord3 Lnk.ordJ
  rw [this]
  rfl
theorem ord1 (h : Sv x f la l) {u : Unt} (hu : u.bib = true) (hk : x.h.knows u.bsn = true) :
    ∃ y, x.ord1 u (x.w.answer x.h u) = y.take u ∧ Sv y (x.h.free u.bsn).1.first la ((x.h.free u.bsn).1.sent ++ (x.h.free u.bsn).1.next) := by
  obtain ⟨e1, e2, e3, e4, e5⟩ := wanswer (w := x.w) (h := x.h) (u := u) h.fib hu hk
  have h1 : Sv (x.setW (x.w.answer x.h u).1) (x.h.free u.bsn).1.first la ((x.h.free u.bsn).1.sent ++ (x.h.free u.bsn).1.next) :=
    ⟨h.S, h.own, h.thr, h.jown, h.jthr, h.leak, e1, e2.trans h.bib, by show (x.w.answer x.h u).1.2.sent ++ (x.w.answer x.h u).1.2.next = _; rw [e4], by show (x.w.answer x.h u).1.2.first = _; rw [e4], e3.trans h.last⟩
  unfold Lnk.ord1
  rw [e5]
  rw [if_neg (by simp)]
  generalize x.setW (x.w.answer x.h u).1 = y at *
  have h2 : Sv (y.ord2 (x.h.free u.bsn).2.1) (x.h.free u.bsn).1.first la ((x.h.free u.bsn).1.sent ++ (x.h.free u.bsn).1.next) := by
    unfold Lnk.ord2
    split
    · exact h1.wait _
    · exact h1
  exact ⟨_, by rw [ord3_eq h2.jthr], h2⟩
theorem take2 (h : Sv x f la l) {u : Unt} (hu : u.fib = true) (hk : u.kind = 2) (hn : u.fsn = ringNext la) : Sv (x.take u) f u.fsn l := by
  obtain ⟨e1, e2, e3, e4⟩ := wtake2 (w := x.w) (u := u) h.bib hu hk (by rw [h.last]; exact hn)
  unfold Lnk.take
  rw [if_neg (by rw [h.own, h.jown]; decide)]
  unfold Lnk.take2
  rw [e4]
  rw [if_neg (by simp), if_pos rfl]
  exact ⟨h.S, h.own, h.thr, h.jown, h.jthr, h.leak, e1.trans h.fib, e2, h.all, h.first, e3⟩
theorem take0 (h : Sv x f la l) {u : Unt} (hu : u.fib = true) (hk : u.kind = 0) (hn : u.fsn = la) : Sv (x.take u) f la l := by
  obtain ⟨e1, e2, e3, e4⟩ := wtake0 (w := x.w) (u := u) h.bib hu hk (by rw [h.last]; exact hn)
  unfold Lnk.take
  rw [if_neg (by rw [h.own, h.jown]; decide)]
  unfold Lnk.take2
  rw [e4]
  rw [if_neg (by simp), if_neg (by simp)]
  exact ⟨h.S, h.own, h.thr, h.jown, h.jthr, h.leak, e1.trans h.fib, e2, h.all, h.first, e3.trans h.last⟩
theorem knows_of [hx : LnkOk x] (h : Sv x 0 la l) {b : Int} (hb : b = 127 ∨ (0 ≤ b ∧ b < x.h.sent.length)) : x.h.knows b = true := by
  have hd := hx.hd
  have := hd.win
  rw [Hd.knows_eq, Hd.gap_eq, h.first]
  simp only [Bool.and_eq_true, decide_eq_true_eq]
  omega
theorem free127 [hx : LnkOk x] (h : Sv x 0 la l) : (x.h.free 127).1 = x.h := by
  have hf := h.first
  unfold Hd.free
  rw [if_neg (by rw [h.knows_of (.inl rfl)]; decide), Hd.gap_eq, ringNext_eq, hf]
  have e : (127 - 0 + 1 : Int) % 128 = 0 := by decide
  have e' : (127 + 1 : Int) % 128 = 0 := by decide
  rw [e, e']
  show ({ x.h with sent := x.h.sent, first := 0 } : Hd) = _
  rw [← hf]
theorem freeB [hx : LnkOk x] (h : Sv x 0 la l) {b : Int} (hb : 0 ≤ b ∧ b < x.h.sent.length) :
    (x.h.free b).1.first = (b + 1) % 128 ∧ (x.h.free b).1.sent ++ (x.h.free b).1.next = l.drop (b + 1).toNat := by
  have hf := h.first
  have hd := hx.hd
  have := hd.win
  have e : (b - 0 + 1 : Int) % 128 = b + 1 := by omega
  unfold Hd.free
  rw [if_neg (by rw [h.knows_of (.inr hb)]; decide), Hd.gap_eq, ringNext_eq, hf, e]
  refine ⟨rfl, ?_⟩
  show x.h.sent.drop (b + 1).toNat ++ x.h.next = _
  rw [← h.all, List.drop_append_of_le_length (by omega)]
theorem hearT [hx : LnkOk x] (h : Sv x 0 la l) {k : Int} (hn : w8 k = ringNext la) : Sv (x.hear (uTake k)) 0 (w8 k) l := by
  rw [h.hear_eq (by show (2 : Int) ≠ 1; decide)]
  obtain ⟨y, e, hy⟩ := h.ord1 (u := uTake k) rfl (h.knows_of (.inl rfl))
  rw [e]
  have e2 : (x.h.free (uTake k).bsn).1 = x.h := h.free127
  rw [e2, h.first, h.all] at hy
  exact hy.take2 rfl rfl hn
theorem hearA [hx : LnkOk x] (h : Sv x 0 la l) {k : Nat} {b : Int} (hb : 0 ≤ b ∧ b < x.h.sent.length) : Sv (x.hear (uAns (uAfter k) b la)) ((b + 1) % 128) la (l.drop (b + 1).toNat) := by
  rw [h.hear_eq (by show (0 : Int) ≠ 1; decide)]
  obtain ⟨y, e, hy⟩ := h.ord1 (u := uAns (uAfter k) b la) rfl (h.knows_of (.inr hb))
  rw [e]
  have e2 : (uAns (uAfter k) b la).bsn = b := rfl
  rw [e2, (h.freeB hb).1, (h.freeB hb).2] at hy
  exact hy.take0 rfl rfl rfl
theorem takes : ∀ (k : Nat) {x : Lnk} [hx : LnkOk x], k ≤ 127 → Sv x 0 127 l → Sv (takes k x) 0 ((127 + k) % 128) l
  | 0, x, hx, _, h => h
  | k + 1, x, hx, hk, h => by
    have h1 := Sv.takes k (by omega) h
    have e : w8 (k : Int) = ringNext ((127 + k) % 128) := by
      rw [w8_id (by omega), ringNext_eq]; omega
    have h2 := h1.hearT e
    have e2 : w8 (k : Int) = (127 + ((k + 1 : Nat) : Int)) % 128 := by rw [w8_id (by omega)]; omega
    rw [e2] at h2
    exact h2
end Sv
theorem sv5_Sv (cyc : Bool) (put : Int) : Sv (sv5 cyc put).1 0 127 (sv5 cyc put).2 := by
  unfold sv5
  rw [sv4_eq]
  exact Sv.puts' (sw4_Sv cyc)
theorem sv6_Sv (cyc : Bool) (put send : Int) : Sv (sv6 cyc put send) 0 127 (sv5 cyc put).2 := (sv5_Sv cyc put).sends _
theorem m9_lt (n : Int) : m9 n ≤ 8 := by
  unfold m9
  have := Int.tmod_lt_of_pos n (show (0 : Int) < 9 by decide)
  omega
theorem m12_lt (n : Int) : m12 n ≤ 11 := by
  unfold m12
  have := Int.tmod_lt_of_pos n (show (0 : Int) < 12 by decide)
  omega
theorem sv7_Sv (cyc : Bool) (put send take : Int) : Sv (sv7 cyc put send take) 0 ((127 + m9 take) % 128) (sv5 cyc put).2 :=
  Sv.takes _ (by have := m9_lt take; omega) (sv6_Sv cyc put send)
theorem sv5_len (cyc : Bool) (put : Int) : (sv5 cyc put).2.length ≤ 11 := by
  have h := puts_len (put := put) (m12 put) (sv4 cyc, [])
  have := m12_lt put
  simp only [List.length_nil] at h
  unfold sv5
  omega
/-- The law's link: it serves; it holds what l has. -/
theorem serving_Sv (cyc : Bool) {put send answer take : Int} (ha : 0 ≤ answer ∧ answer < 256) :
    ∃ f, Sv (serving cyc put send answer take).1 f ((127 + m9 take) % 128) (serving cyc put send answer take).2 ∧ (serving cyc put send answer take).2.length ≤ 11 := by
  have h7 := sv7_Sv cyc put send take
  have hl := sv5_len cyc put
  unfold serving
  split
  · rename_i h0
    have hs : (sv7 cyc put send take).h.sent.length ≤ 11 := by
      have := congrArg List.length h7.all
      rw [List.length_append] at this
      omega
    have hb : ansB (sv7 cyc put send take) answer = answer % ((sv7 cyc put send take).h.sent.length : Int) := by
      unfold ansB
      rw [w64_id (by omega), Int.tmod_eq_emod_of_nonneg ha.1, w8_id]
      have := Int.emod_nonneg answer (show ((sv7 cyc put send take).h.sent.length : Int) ≠ 0 by omega)
      have := Int.emod_lt_of_pos answer h0
      omega
    have hb0 : 0 ≤ ansB (sv7 cyc put send take) answer ∧ ansB (sv7 cyc put send take) answer < ((sv7 cyc put send take).h.sent.length : Int) := by
      rw [hb]
      exact ⟨Int.emod_nonneg answer (by omega), Int.emod_lt_of_pos answer h0⟩
    have h8 := h7.hearA (k := m9 take) hb0
    have hc : cutL (sv5 cyc put).2 (ansB (sv7 cyc put send take) answer) = (sv5 cyc put).2.drop (ansB (sv7 cyc put send take) answer + 1).toNat := by
      have hlen := congrArg List.length h7.all
      rw [List.length_append] at hlen
      unfold cutL
      rw [w64_id (by omega), w8_id (by omega), if_pos (by omega)]
    refine ⟨(ansB (sv7 cyc put send take) answer + 1) % 128, ?_, ?_⟩
    · show Sv (sv8 cyc put send answer take (sv7 cyc put send take)) _ _ (cutL _ _)
      unfold sv8
      rw [hc, h7.last]
      exact h8
    · show (cutL _ _).length ≤ 11
      rw [hc, List.length_drop]
      omega
  · exact ⟨_, h7, hl⟩
end Go.Sm
