/- How many samples a run shows, and which lines. Plain. Conditions: the machine is right, its frame's number small. -/
import Derived.Test.YtmppkjkmocecmaaGreatDoorSq
import Derived.Test.YtmppkjkmocecmaaGreatDoorP25
import Derived.Test.YtmppkjkmocecmaaGreatDoorP27
import Derived.Test.YtmppkjkmocecmaaGreatDoorSh
import Derived.Test.YtmppkjkmocecmaaGreatDoorP26
import Derived.ChangeKeysEq
import Derived.Laws.StructEq
namespace Go.Proofs.YtmppkjkmocecmaaGreatDoor
open Go.RowKit Go.Mq
set_option linter.unusedVariables false
set_option linter.unusedSimpArgs false
/-- how long the sound waits, how many samples were told -/
structure Sn (m : Mach) (k : Nat) (c : Cn) : Prop where
 wt : c.x.m.sd.wt = (runS m.sd k).wt
 ss : c.ss.length = (smp m.sd k).length
theorem Sn.next {m : Mach} {k : Nat} {c : Cn} (h : Sn m k c) (a : At m k c) : Sn m (k + 1) (lk1 c) := by
 have w1 := a.wk.press a.dn
 have kp := kpd_all c.ins c.x.m
 have kx := (doX_ki _ w1.inn).2
 have e1 : (doX (c.x.setM (pressA c.x.m c.ins))).m.sd.wt = (runS m.sd k).wt := kx.wt.trans ((congrArg Sd.wt kp.sd).trans h.wt)
 have e2 : (pressA c.x.m c.ins).sd.wt = (runS m.sd k).wt := (congrArg Sd.wt kp.sd).trans h.wt
 constructor
 ·rw [runS_last]
  show (if (doX (c.x.setM (pressA c.x.m c.ins))).m.sd.wt = 0 then 15 else (doX (c.x.setM (pressA c.x.m c.ins))).m.sd.wt - 1) = (if (runS m.sd k).wt = 0 then 15 else (runS m.sd k).wt - 1)
  rw [e1]
 ·show (c.ss ++ smp (pressA c.x.m c.ins).sd 1).length = _
  rw [List.length_append, smp_one, smp_last m.sd k, List.length_append, h.ss]
  unfold dueL
  rw [e2]
  split <;> rfl
theorem Sn.run {m : Mach} {c : Cn} (h : Sn m 0 c) (a : At m 0 c) (n : Nat) (m0 : 0 ≤ m.ck) (m1 : m.ck + n ≤ 1000000) : Sn m n (lkN c n) := by
 induction n with
 | zero => exact h
 | succ n ih =>
  rw [lkN_last]
  have a' := a.run n m0 kO
  rw [Nat.zero_add] at a'
  exact (ih kO).next a'
/-- what a beam shows at a clock: the line's frame and number -/
def drB (b : Bm) : List (Int × Int) := if b.pt = 0 ∧ b.ln < 8 then [(b.fr, b.ln)] else []
def drN (b : Bm) : Nat → List (Int × Int)
 | 0 => []
 | k + 1 => drN b k ++ drB (runBm b k)
theorem drN_run {m : Mach} {c : Cn} (a : At m 0 c) (b : Bt m 0 c) (hl : c.ls = []) (n : Nat) (hb : m.bm.In) (m0 : 0 ≤ m.ck) (m1 : m.ck + n ≤ 1000000) (f0 : 0 ≤ m.bm.fr) (f1 : m.bm.fr ≤ 19900) (hn : n ≤ 20000) :
  (lkN c n).ls.map (fun l => (l.fr, l.ln)) = drN m.bm n := by
 induction n with
 | zero => show c.ls.map _ = []; rw [hl]; rfl
 | succ n ih =>
  rw [lkN_last]
  have a' := a.run n m0 kO
  have b' := b.run a n hb m0 kO f0 f1 kO
  rw [Nat.zero_add] at a' b'
  have kp := kpd_all (lkN c n).ins (lkN c n).x.m
  show ((lkN c n).ls ++ drawO (pressA (lkN c n).x.m (lkN c n).ins)).map _ = drN m.bm n ++ drB (runBm m.bm n)
  rw [List.map_append, ih kO kO]
  congr 1
  unfold drawO drB
  rw [kp.bm, b'.ln, b'.pt, b'.fr]
  split <;> rfl
theorem drN_add (b : Bm) (k j : Nat) : ∃ t, drN b (k + j) = drN b k ++ t := by
 induction j with
 | zero => exact ⟨[], (List.append_nil _).symm⟩
 | succ j ih =>
  obtain ⟨t, e⟩ := ih
  exact ⟨t ++ drB (runBm b (k + j : Nat)), by rw [← Nat.add_assoc]; show drN b (k + j) ++ _ = _; rw [e, List.append_assoc]⟩
theorem drN_at {b : Bm} {k n : Nat} (h : k < n) : ∃ t, drN b n = drN b k ++ (drB (runBm b k) ++ t) := by
 obtain ⟨t, e⟩ := drN_add b (k + 1) (n - (k + 1))
 rw [show k + 1 + (n - (k + 1)) = n by omega] at e
 exact ⟨t, by rw [e]; show (drN b k ++ _) ++ t = _; rw [List.append_assoc]⟩
theorem drN_still {b : Bm} {k n : Nat} (h : k ≤ n) (hp : ∀ i : Nat, k ≤ i → i < n → (runBm b i).pt ≠ 0) : drN b n = drN b k := by
 induction n with
 | zero => rw [Nat.le_zero.1 h]
 | succ n ih =>
  by_cases e : k = n + 1
  ·rw [e]
  ·have : drN b (n + 1) = drN b n ++ drB (runBm b n) := rfl
   rw [this, ih kO (fun i h1 h2 => hp i h1 kO)]
   unfold drB
   rw [if_neg (fun q => hp n kO kO q.1), List.append_nil]
/-- the clocks at which lines begin -/
theorem bl_start {b : Bm} (hb : b.In) (n : Nat) : drN b (min (nextB b).toNat n) = [] := by
 have : drN b (min (nextB b).toNat n) = drN b 0 := drN_still (Nat.zero_le _) (fun i _ h => by
  obtain ⟨h1, h2, h3, h4⟩ := hb
  unfold nextB at h
  show (b.ln * 64 + b.pt + i) % 640 % 64 ≠ 0
  omega)
 rw [this]
 rfl
theorem bl_next {b : Bm} (hb : b.In) (j n a : Nat) (ha : (a : Int) = nextB b + 64 * j) (h : a < n) : drN b (min (a + 64) n) = drN b a ++ drB (runBm b a) := by
 have : drN b (min (a + 64) n) = drN b (a + 1) := drN_still kO (fun i h1 h2 => by
  obtain ⟨k1, k2, k3, k4⟩ := hb
  unfold nextB at ha
  show (b.ln * 64 + b.pt + i) % 640 % 64 ≠ 0
  omega)
 rw [this]
 rfl
theorem bl_at {b : Bm} (hb : b.In) (j a : Nat) (ha : (a : Int) = nextB b + 64 * j) : (runBm b a).pt = 0 := by
 obtain ⟨k1, k2, k3, k4⟩ := hb
 unfold nextB at ha
 show (b.ln * 64 + b.pt + a) % 640 % 64 = 0
 omega
/-- the loop over a beam's lines: the next clock, how many lines were seen -/
def CtAt (b : Bm) (n a c : Nat) : Prop := (∃ j : Nat, (a : Int) = nextB b + 64 * j) ∧ c = (drN b (min a n)).length
theorem ctAt_start {b : Bm} (hb : b.In) (n : Nat) : ∃ a : Nat, (a : Int) = nextB b ∧ a ≤ 63 ∧ CtAt b n a 0 := by
 have h0 : 0 ≤ nextB b ∧ nextB b ≤ 63 := by unfold nextB; omega
 have s := bl_start hb n
 obtain ⟨a, ha⟩ := Int.eq_ofNat_of_zero_le h0.1
 refine ⟨a, ha.symm, by omega, ⟨0, by omega⟩, ?_⟩
 rw [ha, Int.toNat_natCast] at s
 rw [s]
 rfl
theorem CtAt.next {b : Bm} {n a c : Nat} (h : CtAt b n a c) (hb : b.In) (ha : a < n) : CtAt b n (a + 64) (c + if (runBm b a).ln < 8 then 1 else 0) := by
 obtain ⟨⟨j, hj⟩, hc⟩ := h
 refine ⟨⟨j + 1, by omega⟩, ?_⟩
 rw [bl_next hb j n a hj ha, List.length_append, hc, Nat.min_eq_left (Nat.le_of_lt ha)]
 congr 1
 unfold drB
 have hp := bl_at hb j a hj
 by_cases hl : (runBm b a).ln < 8
 ·rw [if_pos hl, if_pos ⟨hp, hl⟩]; rfl
 ·rw [if_neg hl, if_neg (fun k => hl k.2)]; rfl
theorem CtAt.last {b : Bm} {n a c : Nat} (h : CtAt b n a c) (ha : n ≤ a) : c = (drN b n).length := by
 have := h.2
 rw [Nat.min_eq_right ha] at this
 exact this
theorem CtAt.get {b : Bm} {n a c : Nat} (h : CtAt b n a c) (hb : b.In) (ha : a < n) (hl : (runBm b a).ln < 8) {ls : List Ln} (e : ls.map (fun l => (l.fr, l.ln)) = drN b n) :
  c < ls.length ∧ (ls.getD c Ln0).fr = (runBm b a).fr ∧ (ls.getD c Ln0).ln = (runBm b a).ln := by
 obtain ⟨⟨j, hj⟩, hc⟩ := h
 rw [Nat.min_eq_left (Nat.le_of_lt ha)] at hc
 obtain ⟨t, et⟩ := drN_at (b := b) ha
 have hd : drB (runBm b a) = [((runBm b a).fr, (runBm b a).ln)] := by
  unfold drB
  rw [if_pos ⟨bl_at hb j a hj, hl⟩]
 rw [et, hd] at e
 have hlen := congrArg List.length e
 rw [List.length_map, List.length_append, ← hc] at hlen
 have h1 : c < ls.length := by simp at hlen; omega
 have hg : (ls.map (fun l => (l.fr, l.ln)))[c]? = _ := congrArg (fun l => l[c]?) e
 rw [List.getElem?_map, List.getElem?_eq_getElem h1, List.getElem?_append_right kO, ← hc, Nat.sub_self] at hg
 simp only [Option.map_some, List.singleton_append, List.getElem?_cons_zero, Option.some.injEq, Prod.mk.injEq] at hg
 rw [List.getD_eq_getElem?_getD, List.getElem?_eq_getElem h1]
 exact ⟨h1, hg.1, hg.2⟩
def cnI (m : Mach) (ins : List Inp) : Cn := ⟨⟨m, [], 0⟩, [], [], ins⟩
theorem at_start {m : Mach} {ins : List Inp} (hi : m.In) (hr : m.Right) (hc : chkFrom m.ck ins = 0) (hd : ∀ i ∈ ins, U8 i.dn) : At m 0 (cnI m ins) :=
 ⟨⟨hi, hr.fit, hr.wt, hr.bm.1, hr.bm.2.1, by have := hr.bm.2.2; show m.bm.fr ≤ 20001; omega⟩, by show m.ck = m.ck + ((0 : Nat) : Int); omega, hd, rise_chk hc, ⟨hr.time.2.1.1, hr.time.2.1.2, hr.time.2.2.1, hr.time.2.2.2⟩⟩
theorem bt_start {m : Mach} {ins : List Inp} (h : m.bm.In) : Bt m 0 (cnI m ins) := by
 have e : runBm m.bm ((0 : Nat) : Int) = m.bm := runBm_zero _ h
 exact ⟨by rw [e]; rfl, by rw [e]; rfl, by rw [e]; rfl⟩
theorem runs_right {m : Mach} {c : Cn} {n : Nat} (a : At m n c) (b : Bt m n c) (hb : m.bm.In) (f0 : 0 ≤ m.bm.fr) (f1 : m.bm.fr ≤ 19900) (hn : n ≤ 20000) (m0 : 0 ≤ m.ck) (m1 : m.ck + n ≤ 200000) : c.x.m.Right := by
 have f := fr_le hb f0 f1 n hn
 have hc := a.ck
 have ht := a.time
 have hw := a.wk
 refine ⟨hw.fit, hw.wt, ⟨hw.bm, by rw [b.fr]; exact f.1, by rw [b.fr]; exact f.2⟩, ?_⟩
 refine ⟨⟨by omega, by omega⟩, ⟨ht.1, ht.2.1⟩, ⟨ht.2.2.1, ht.2.2.2⟩⟩
theorem chk_filter : ∀ {l : List Inp} {c d : Int} {p : Inp → Bool}, chkFrom c l = 0 → (∀ i ∈ l, p i = true → d ≤ i.ck) → chkFrom d (l.filter p) = 0 := by
 intro l c d p h hp
 have hall : ∀ i ∈ l, i.ck ≤ 400000 ∧ (i.pd = 0 ∨ i.pd = 1) := by
  clear hp
  induction l generalizing c with
  | nil => intro i hi; cases hi
  | cons a t ih =>
   unfold chkFrom at h
   split at h
   ·cases h
   ·split at h
    ·cases h
    ·intro i hi
     rcases List.mem_cons.1 hi with rfl | hi
     ·omega
     ·exact ih h i hi
 have hr := rise_filter (c := c) (p := p) (rise_chk h)
 have hs : ∀ i ∈ l.filter p, d ≤ i.ck := fun i hi => hp i (List.mem_filter.1 hi).1 (List.mem_filter.1 hi).2
 have ha : ∀ i ∈ l.filter p, i.ck ≤ 400000 ∧ (i.pd = 0 ∨ i.pd = 1) := fun i hi => hall i (List.mem_filter.1 hi).1
 generalize l.filter p = q at *
 clear h hp hall
 have go : ∀ (q : List Inp) (e : Int), Rise e q → (∀ i ∈ q, i.ck ≤ 400000 ∧ (i.pd = 0 ∨ i.pd = 1)) → ∀ d, (∀ i ∈ q, d ≤ i.ck) → chkFrom d q = 0 := by
  intro q
  induction q with
  | nil => intro e _ _ d _; rfl
  | cons a t ih =>
   intro e hr ha d hs
   have h1 := ha a (List.mem_cons_self ..)
   have h2 := hs a (List.mem_cons_self ..)
   unfold chkFrom
   rw [if_neg kO, if_neg kO]
   exact ih a.ck hr.2 (fun i hi => ha i (List.mem_cons_of_mem _ hi)) a.ck (fun i hi => Rise.all hr.2 i hi)
 exact go q c hr ha d hs
theorem chkI_filter {l : List Inp} {c d : Int} {p : Inp → Bool} (h : chkI l c = 0) (hp : ∀ i ∈ l, p i = true → d ≤ i.ck) : chkI (l.filter p) d = 0 := by
 unfold chkI at h ⊢
 split at h
 ·cases h
 ·rename_i hl
  have := List.length_filter_le p l
  rw [if_neg kO]
  exact chk_filter h hp
/-- what a run in two parts shows -/
theorem two_parts {m : Mach} {ins : List Inp} (h : At m 0 (cnI m ins)) (a b : Nat) (m0 : 0 ≤ m.ck) (m1 : m.ck + a ≤ 1000000) :
  Adds (lkN (cnI m ins) a) (lkN (cnI (lkN (cnI m ins) a).x.m (ins.filter (fun i => decide (m.ck + a ≤ i.ck)))) b) (lkN (cnI m ins) (a + b)) := by
 have hI : (lkN (cnI m ins) a).ins = ins.filter (fun i => decide (m.ck + a ≤ i.ck)) := lkN_ins h a m0 kO
 have k := lkN_anew (lkN (cnI m ins) a) b
 rw [← lkN_add] at k
 have e : (lkN (cnI m ins) a).anew = cnI (lkN (cnI m ins) a).x.m (ins.filter (fun i => decide (m.ck + a ≤ i.ck))) := by
  rw [← hI]
  rfl
 rw [← e]
 exact k
/-- how long the lists are -/
theorem lk_lens {m : Mach} {ins : List Inp} (h : At m 0 (cnI m ins)) (m0 : 0 ≤ m.ck) : ∀ n : Nat, m.ck + n ≤ 1000000 →
  (lkN (cnI m ins) n).ls.length ≤ n ∧ (lkN (cnI m ins) n).ss.length ≤ n ∧ (lkN (cnI m ins) n).x.ws.length ≤ 4 * n := by
 intro n
 induction n with
 | zero => intro _; exact ⟨Nat.le_refl _, Nat.le_refl _, Nat.le_refl _⟩
 | succ n ih =>
  intro hn
  obtain ⟨h1, h2, h3⟩ := ih kO
  have a := h.run n m0 kO
  rw [Nat.zero_add] at a
  rw [lkN_last]
  generalize lkN (cnI m ins) n = c at *
  have w1 := a.wk.press a.dn
  have w2 := doX_ws (c.x.setM (pressA c.x.m c.ins)) w1.inn
  refine ⟨?_, ?_, ?_⟩
  ·show (c.ls ++ drawO _).length ≤ _
   rw [List.length_append]
   have : (drawO (pressA c.x.m c.ins)).length ≤ 1 := by
    unfold drawO
    split <;> simp
   omega
  ·show (c.ss ++ smp _ 1).length ≤ _
   rw [List.length_append]
   have hb : (smp (pressA c.x.m c.ins).sd 1).length ≤ 1 := by rw [smp_one]; unfold dueL; split <;> simp
   omega
  ·show (doX (c.x.setM (pressA c.x.m c.ins))).ws.length ≤ _
   have e : (c.x.setM (pressA c.x.m c.ins)).ws.length = c.x.ws.length := rfl
   omega
end Go.Proofs.YtmppkjkmocecmaaGreatDoor
namespace Go.Mq
set_option linter.unusedVariables false
set_option linter.unusedSimpArgs false
open Go.RowKit
/-- n elements of so many cells each -/
def RowAt (w : World) (sz : Nat) (v : Value) (n : Nat) (cs : List Value) : Prop :=
 ∃ a cap, v = .slice a n cap ∧ n ≤ cap ∧ cap ≤ maxLen ∧ cs.length = n * sz ∧ (∀ u ∈ cs, u.oneCell' = true) ∧
  (0 < n → ∃ b, a = some ⟨b, 0, none⟩ ∧ b < w.heap.size ∧ ∀ j u, cs[j]? = some u → w.cell? ⟨b, j, none⟩ = some u)
theorem RowAt.below {w w' : World} {sz n : Nat} {v : Value} {cs : List Value} (h : RowAt w sz v n cs) (hb : Below w.heap.size w w') : RowAt w' sz v n cs := by
 obtain ⟨a, cap, h1, h2, h3, h4, h5, h6⟩ := h
 refine ⟨a, cap, h1, h2, h3, h4, h5, fun h0 => ?_⟩
 obtain ⟨b, e, hl, hc⟩ := h6 h0
 exact ⟨b, e, Nat.lt_of_lt_of_le hl hb.size, fun j u hj => (hb.cell (p := ⟨b, j, none⟩) hl).trans (hc j u hj)⟩
theorem own_rowAt {w : World} {base : Nat} {e : TypeId} {sz n : Nat} {v : Value} {cs : List Value} (h : w.ownsRow base e sz v n cs) (h1 : ∀ u ∈ cs, u.oneCell' = true) : RowAt w sz v n cs := by
 have h0 := h.1
 rcases h.2 with ⟨rfl, hn⟩ | ⟨g, cap, cur, rfl, hbg, hgg, k1, k2, k3, k4⟩
 ·exact ⟨none, 0, by rw [hn], by omega, by simp [maxLen], h0, h1, fun hp => by omega⟩
 ·refine ⟨some ⟨g, 0, none⟩, cap, rfl, k1, k2, h0, h1, fun hp => ⟨g, rfl, (Array.getElem?_eq_some_iff.1 hgg).1, fun j u hj => ?_⟩⟩
  have q := h.cells (g := g) rfl j u hj
  rw [Addr.add_lit, Nat.zero_add] at q
  exact q
end Go.Mq
namespace Go.Proofs.YtmppkjkmocecmaaGreatDoor
open Go.RowKit Go.Mq
set_option linter.unusedVariables false
set_option linter.unusedSimpArgs false
set_option maxHeartbeats 1000000
set_option maxRecDepth 100000
end Go.Proofs.YtmppkjkmocecmaaGreatDoor
namespace Go.Mq
set_option linter.unusedVariables false
set_option linter.unusedSimpArgs false
open Go.RowKit
theorem lnsC_at : ∀ (ls : List Ln), (∀ x ∈ ls, x.Ok) → ∀ k, k < ls.length → ∀ j u, (lineC (ls.getD k Ln0)).toList[j]? = some u → (ls.flatMap fun x => (lineC x).toList)[k * 18 + j]? = some u
 | [], _, k, h, _, _, _ => absurd h (Nat.not_lt_zero _)
 | x :: t, ok, 0, _, j, u, hj => by
  show ((lineC x).toList ++ t.flatMap fun x => (lineC x).toList)[0 * 18 + j]? = _
  have hl : j < (lineC x).toList.length := by
   rcases Nat.lt_or_ge j (lineC x).toList.length with h | h
   ·exact h
   ·have hj : (lineC x).toList[j]? = some u := hj
    rw [List.getElem?_eq_none h] at hj; cases hj
  rw [List.getElem?_append_left kO, Nat.zero_mul, Nat.zero_add]
  exact hj
 | x :: t, ok, k + 1, h, j, u, hj => by
  have hx := (line_facts (ok x kS)).1
  have ih := lnsC_at t (fun y hy => ok y (by simp [hy])) k (by simpa using h) j u hj
  show ((lineC x).toList ++ t.flatMap fun x => (lineC x).toList)[(k + 1) * 18 + j]? = _
  rw [List.getElem?_append_right (by rw [Array.length_toList, hx]; omega), Array.length_toList, hx, show (k + 1) * 18 + j - 18 = k * 18 + j by omega]
  exact ih
def Wr0 : Wr := ⟨0, 0, 0⟩
def wrA (x : Wr) : Array Value := #[.int .i64 x.ck, .int .i64 x.at', .int .u8 x.v]
theorem wrC_at : ∀ (ls : List Wr) (k : Nat), k < ls.length → ∀ j u, (wrA (ls.getD k Wr0)).toList[j]? = some u → (wrC ls)[k * 3 + j]? = some u
 | [], k, h, _, _, _ => absurd h (Nat.not_lt_zero _)
 | x :: t, 0, _, j, u, hj => by
  show ((wrA x).toList ++ wrC t)[0 * 3 + j]? = _
  have hl : j < (wrA x).toList.length := by
   rcases Nat.lt_or_ge j (wrA x).toList.length with h | h
   ·exact h
   ·have hj : (wrA x).toList[j]? = some u := hj
    rw [List.getElem?_eq_none h] at hj; cases hj
  rw [List.getElem?_append_left kO, Nat.zero_mul, Nat.zero_add]
  exact hj
 | x :: t, k + 1, h, j, u, hj => by
  have ih := wrC_at t k (by simpa using h) j u hj
  show ((wrA x).toList ++ wrC t)[(k + 1) * 3 + j]? = _
  rw [List.getElem?_append_right (by show 3 ≤ _; omega), show (k + 1) * 3 + j - (wrA x).toList.length = k * 3 + j by show (k + 1) * 3 + j - 3 = _; omega]
  exact ih
theorem wrC_one : ∀ (l : List Wr), ∀ u ∈ wrC l, u.oneCell' = true
 | [], u, h => by cases h
 | x :: t, u, h => by
  rcases List.mem_append.1 h with h | h
  ·simp only [List.mem_cons, List.not_mem_nil, or_false] at h
   rcases h with rfl | rfl | rfl <;> rfl
  ·exact wrC_one t u h
theorem lnsC_one (l : List Ln) : ∀ u ∈ l.flatMap (fun x => (lineC x).toList), u.oneCell' = true := fun u h => by
 obtain ⟨x, _, hx⟩ := List.mem_flatMap.1 h
 simp only [lineC, List.toList_toArray, List.mem_cons, List.mem_map] at hx
 rcases hx with rfl | rfl | ⟨q, _, rfl⟩ <;> rfl
end Go.Mq
namespace Go.Proofs.YtmppkjkmocecmaaGreatDoor
open Go.RowKit Go.Mq
set_option linter.unusedVariables false
set_option linter.unusedSimpArgs false
set_option maxHeartbeats 1000000
set_option maxRecDepth 100000
theorem Lns.row {w : World} {B : Nat} {v : Value} {l : List Ln} (h : Lns w B v l) : RowAt w 18 v l.length (lnsC l) := own_rowAt h (lnsC_one l)
theorem Sms.row {w : World} {B : Nat} {v : Value} {l : List Int} (h : Sms w B v l) : RowAt w 1 v l.length (l.map (Value.int .u8)) := own_rowAt h (fun u hu => by obtain ⟨x, _, rfl⟩ := List.mem_map.1 hu; rfl)
theorem Wrs.row {w : World} {B : Nat} {v : Value} {l : List Wr} (h : Wrs w B v l) : RowAt w 3 v l.length (wrC l) := own_rowAt h (wrC_one l)
theorem pix_self (xs : List Int) (hl : xs.length = 16) (w : World) : (Op.equalIn 9999 57 (.agg (xs.map (Value.int .u8)).toArray) (.agg (xs.map (Value.int .u8)).toArray)).run Tryz.prog w = .ok true w := by
 obtain ⟨i, hi⟩ : ∃ i, (Tryz.prog).info? 5 = some i := Option.isSome_iff_exists.1 kR
 rw [run_equalIn_array w 9998 _ _ Tryz.underlying57 hi]
 have hc : (Tryz.prog).cellsOf 5 = 1 := by kernel_rfl
 rw [hc]
 match xs, hl with
 | [a0, a1, a2, a3, a4, a5, a6, a7, a8, a9, b0, b1, b2, b3, b4, b5], _ =>
  simp [Op.eqItems, List.range, List.range.loop, go_sem]
theorem line_self (x : Ln) (hx : x.Ok) (w : World) : (Op.equalIn 10000 59 (.agg (lineC x)) (.agg (lineC x))).run Tryz.prog w = .ok true w := by
 have H := pix_self x.px hx.2.2.1 w
 have hf : (Tryz.prog).underlying 59 = some (.struct ((Tryz.prog).fieldsOf 59)) := by kernel_rfl
 rw [run_equalIn_struct w 9999 _ _ _ hf kR]
 obtain ⟨p0, p1, p2, p3, p4, p5, p6, p7, p8, p9, pa, pb, pc, pd, pe, pf, e⟩ := row_16 hx.2.2.1
 unfold lineC
 rw [e] at H ⊢
 simp [Program.fieldsOf, Tryz.underlying59, Op.eqFields, go_sem] at H ⊢
 simp [H, go_sem]
theorem wr_self (x : Wr) (w : World) : (Op.equalIn 10000 68 (.agg (wrA x)) (.agg (wrA x))).run Tryz.prog w = .ok true w := by
 have hf : (Tryz.prog).underlying 68 = some (.struct ((Tryz.prog).fieldsOf 68)) := by kernel_rfl
 rw [run_equalIn_struct w 9999 _ _ _ hf kR]
 unfold wrA
 simp [Program.fieldsOf, Tryz.underlying68, Op.eqFields, go_sem]
theorem px_at (px : List Int) {j : Nat} (h : j < px.length) : (px[j]?).map (Value.int .u8) = some (Value.int .u8 (px.getD j 0)) := by
 rw [List.getD_eq_getElem?_getD, List.getElem?_eq_getElem h]
 rfl
theorem Lns.lines {w : World} {B : Nat} {v : Value} {l : List Ln} (h : Lns w B v l) (hok : ∀ x ∈ l, x.Ok) : LinesAt w v l := by
 obtain ⟨a, cap, rfl, h1, h2, h3, h4, h5⟩ := h.row
 refine ⟨a, cap, rfl, h1, h2, hok, fun h0 => ?_⟩
 obtain ⟨b, rfl, hl, hc⟩ := h5 h0
 refine ⟨b, 0, rfl, hl, fun i hi => ?_⟩
 have hx : (l.getD i Ln0).Ok := lines_ok hok hi
 have hat := fun j u hj => hc (i * 18 + j) u (lnsC_at l hok i hi j u hj)
 obtain ⟨f1, f2, f3, f4, f5, f6, f7⟩ := line_facts hx
 refine ⟨?_, ?_, fun j hj => ?_⟩
 ·have := hat 0 (.int .i64 (l.getD i Ln0).fr) (by rw [← Array.getElem?_toList] at f3; exact f3)
  rw [Nat.zero_add]
  exact this
 ·have := hat 1 (.int .i64 (l.getD i Ln0).ln) (by rw [← Array.getElem?_toList] at f4; exact f4)
  rw [Nat.zero_add]
  exact this
 ·have hp : j < (l.getD i Ln0).px.length := by rw [hx.2.2.1]; exact hj
  have := hat (2 + j) (.int .u8 ((l.getD i Ln0).px.getD j 0)) (by
   unfold lineC
   rw [List.toList_toArray, Nat.add_comm 2 j, List.getElem?_cons_succ, List.getElem?_cons_succ, List.getElem?_map]
   exact px_at _ hp)
  rw [Nat.zero_add]
  exact this
end Go.Proofs.YtmppkjkmocecmaaGreatDoor
