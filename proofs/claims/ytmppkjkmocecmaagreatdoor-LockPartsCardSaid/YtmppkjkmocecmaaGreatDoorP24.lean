/- What a clock of the console keeps. Plain. Conditions: the machine's fields are what their types hold. -/
import Derived.Test.YtmppkjkmocecmaaGreatDoorSq
import Derived.Test.YtmppkjkmocecmaaGreatDoorP21
import Derived.Test.YtmppkjkmocecmaaGreatDoorBxM
set_option linter.unusedVariables false
set_option linter.unusedSimpArgs false
namespace Go.Proofs.YtmppkjkmocecmaaGreatDoor
open Go.RowKit Go.Mq
theorem wrap64_id (n : Int) (h0 : -1000000000000 ≤ n) (h1 : n ≤ 1000000000000) : wrap64 n = n := by unfold wrap64; omega
/-! ### Fields in their ranges -/
theorem ite_p {α : Type} (P : α → Prop) {c : Prop} [Decidable c] {x y : α} (h : P x) (k : P y) : P (if c then x else y) := by split <;> assumption
theorem portP_all (P : Bx → Prop) (x : Bx) (p b : Int) (h : P x) (h0 : P { x with m := { x.m with p0 := writeP x.m.p0 b, p1 := writeP x.m.p1 b } }) (ht : ∀ t, t = { x.m.tm with rl := hi16 x.m.tm.rl b } ∨ t = { x.m.tm with rl := lo16 x.m.tm.rl b } ∨ t = setT x.m.tm b → P (x.wTm t))
  (h8 : P { x with m := { x.m with bm := { x.m.bm with rg := false } } }) (hf : ∀ f, f = hi16 x.m.fm b ∨ f = lo16 x.m.fm b → P { x with m := { x.m with fm := f } }) (hto : ∀ f, f = hi16 x.m.to b ∨ f = lo16 x.m.to b → P { x with m := { x.m with «to» := f } })
  (hm : P { x with m := mvM x.m b.toNat, dl := wrap64 (x.dl + 2 * b) }) (hg : ∀ g d, P { x with m := freeM x.m g d }) (h17 : P { x with m := { x.m with m0 := b, rg := true } }) : P (portP x p b) := by
 unfold portP
 exact ite_p P h0 (ite_p P (ht _ (.inl rfl)) (ite_p P (ht _ (.inr (.inl rfl))) (ite_p P (ht _ (.inr (.inr rfl))) (ite_p P h8 (ite_p P (hf _ (.inl rfl)) (ite_p P (hf _ (.inr rfl)) (ite_p P (hto _ (.inl rfl)) (ite_p P (hto _ (.inr rfl)) (ite_p P hm (ite_p P (hg _ _) (ite_p P h17 h)))))))))))
theorem mainP_all (P : Bx → Prop) (x : Bx) (a b : Int) (hk : ∀ i k, 2 ≤ i → P { x with m := poke x.m i k b }) (hp : P (portP x (a % 32) b)) (h : P x) : P (mainP x a b) := by
 unfold mainP
 exact ite_p P (hk _ _ kO) (ite_p P (hk _ _ kO) (ite_p P hp h))
theorem mainP_in {x : Bx} (h : x.m.In) (a : Int) {b : Int} (hb : U8 b) : (mainP x a b).m.In := by
 have ht : ∀ t : Tim, t.Ok → ({ x.m with tm := t } : Mach).In := fun t k => ⟨h.mc, h.ac, h.mem, h.p0, h.p1, k, h.sd, h.wt, h.ln, h.pt, h.fr, h.fm, h.to, h.m0, h.m1, h.ck, h.mr, h.ar⟩
 refine mainP_all (fun z => z.m.In) x a b (fun i k _ => poke_in h _ _ hb) (portP_all (fun z => z.m.In) x _ b h ?_ ?_ ?_ ?_ ?_ (mvM_in h _) ?_ ?_) h
 ·exact ⟨h.mc, h.ac, h.mem, writeP_ok _ _ h.p0, writeP_ok _ _ h.p1, h.tm, h.sd, h.wt, h.ln, h.pt, h.fr, h.fm, h.to, h.m0, h.m1, h.ck, h.mr, h.ar⟩
 ·rintro t (rfl | rfl | rfl)
  ·exact ht _ ⟨hi16_u hb, h.tm.ct⟩
  ·exact ht _ ⟨lo16_u h.tm.rl hb, h.tm.ct⟩
  ·exact ht _ (setT_ok h.tm b)
 ·exact ⟨h.mc, h.ac, h.mem, h.p0, h.p1, h.tm, h.sd, h.wt, h.ln, h.pt, h.fr, h.fm, h.to, h.m0, h.m1, h.ck, h.mr, h.ar⟩
 ·rintro f (rfl | rfl)
  ·exact ⟨h.mc, h.ac, h.mem, h.p0, h.p1, h.tm, h.sd, h.wt, h.ln, h.pt, h.fr, hi16_u hb, h.to, h.m0, h.m1, h.ck, h.mr, h.ar⟩
  ·exact ⟨h.mc, h.ac, h.mem, h.p0, h.p1, h.tm, h.sd, h.wt, h.ln, h.pt, h.fr, lo16_u h.fm hb, h.to, h.m0, h.m1, h.ck, h.mr, h.ar⟩
 ·rintro f (rfl | rfl)
  ·exact ⟨h.mc, h.ac, h.mem, h.p0, h.p1, h.tm, h.sd, h.wt, h.ln, h.pt, h.fr, h.fm, hi16_u hb, h.m0, h.m1, h.ck, h.mr, h.ar⟩
  ·exact ⟨h.mc, h.ac, h.mem, h.p0, h.p1, h.tm, h.sd, h.wt, h.ln, h.pt, h.fr, h.fm, lo16_u h.to hb, h.m0, h.m1, h.ck, h.mr, h.ar⟩
 ·intro g d
  show (freeM x.m g d).In
  unfold freeM
  split
  ·exact ⟨h.mc, startA_in _, h.mem, h.p0, h.p1, h.tm, h.sd, h.wt, h.ln, h.pt, h.fr, h.fm, h.to, h.m0, h.m1, h.ck, h.mr, h.ck⟩
  ·exact ⟨h.mc, h.ac, h.mem, h.p0, h.p1, h.tm, h.sd, h.wt, h.ln, h.pt, h.fr, h.fm, h.to, h.m0, h.m1, h.ck, h.mr, h.ar⟩
 ·exact ⟨h.mc, h.ac, h.mem, h.p0, h.p1, h.tm, h.sd, h.wt, h.ln, h.pt, h.fr, h.fm, h.to, hb, h.m1, h.ck, h.mr, h.ar⟩
theorem mainGS_in {x : Bx} (h : x.m.In) (a : Int) : (mainGS x a).m.In := by
 unfold mainGS portGS
 repeat' split
 ·exact ⟨h.mc, h.ac, h.mem, readP_ok _ h.p0, h.p1, h.tm, h.sd, h.wt, h.ln, h.pt, h.fr, h.fm, h.to, h.m0, h.m1, h.ck, h.mr, h.ar⟩
 ·exact ⟨h.mc, h.ac, h.mem, h.p0, readP_ok _ h.p1, h.tm, h.sd, h.wt, h.ln, h.pt, h.fr, h.fm, h.to, h.m0, h.m1, h.ck, h.mr, h.ar⟩
 ·exact h
 ·exact h
theorem auxP_in {x : Bx} (h : x.m.In) (a : Int) {b : Int} (hb : U8 b) : (auxP x a b).m.In := by
 unfold auxP
 repeat' split
 ·exact poke_in h _ _ hb
 ·exact poke_in h _ _ hb
 ·exact h
 ·exact ⟨h.mc, h.ac, h.mem, h.p0, h.p1, h.tm, putS_in h.sd _ hb, by show I64 (putS _ _ _).wt; rw [putS_wt]; exact h.wt, h.ln, h.pt, h.fr, h.fm, h.to, h.m0, h.m1, h.ck, h.mr, h.ar⟩
 ·exact ⟨h.mc, h.ac, h.mem, h.p0, h.p1, h.tm, h.sd, h.wt, h.ln, h.pt, h.fr, h.fm, h.to, h.m0, hb, h.ck, h.mr, h.ar⟩
 ·exact h
 ·exact h
theorem auxGS_in {x : Bx} (h : x.m.In) (a : Int) : (auxGS x a).m.In := by
 unfold auxGS
 split
 ·exact ⟨h.mc, h.ac, h.mem, h.p0, h.p1, h.tm, h.sd, h.wt, h.ln, h.pt, h.fr, h.fm, h.to, h.m0, h.m1, h.ck, h.mr, h.ar⟩
 ·exact h
/-! ### What stays -/
/-- the memories' sizes, the programs, the clock, where the beam stands, how long the sound waits -/
structure Kx (x y : Bx) : Prop where
 len : ∀ i, (y.m.mem i).length = (x.m.mem i).length
 r0 : y.m.mem 0 = x.m.mem 0
 r1 : y.m.mem 1 = x.m.mem 1
 ck : y.m.ck = x.m.ck
 ln : y.m.bm.ln = x.m.bm.ln
 pt : y.m.bm.pt = x.m.bm.pt
 fr : y.m.bm.fr = x.m.bm.fr
 wt : y.m.sd.wt = x.m.sd.wt
theorem Kx.refl (x : Bx) : Kx x x := ⟨fun _ => rfl, rfl, rfl, rfl, rfl, rfl, rfl, rfl⟩
theorem Kx.trans {a b c : Bx} (h : Kx a b) (k : Kx b c) : Kx a c :=
 ⟨fun i => (k.len i).trans (h.len i), k.r0.trans h.r0, k.r1.trans h.r1, k.ck.trans h.ck, k.ln.trans h.ln, k.pt.trans h.pt, k.fr.trans h.fr, k.wt.trans h.wt⟩
theorem Kx.fit {x y : Bx} (k : Kx x y) (h : x.m.Fit) : y.m.Fit := ⟨by rw [k.len]; exact h.l0, by rw [k.len]; exact h.l1, by rw [k.len]; exact h.l2, by rw [k.len]; exact h.l3, by rw [k.len]; exact h.l4⟩
theorem poke_far (m : Mach) (i k : Nat) (v : Int) (j : Nat) (h : j ≠ i) : (poke m i k v).mem j = m.mem j := by
 show updM m.mem i _ j = _
 unfold updM
 rw [if_neg h]
theorem kx_poke (x : Bx) (i k : Nat) (v : Int) (h0 : 2 ≤ i) : Kx x { x with m := poke x.m i k v } :=
 ⟨poke_len _ _ _ _, poke_far _ _ _ _ _ kO, poke_far _ _ _ _ _ kO, rfl, rfl, rfl, rfl, rfl⟩
theorem kx_mv (x : Bx) (n : Nat) (d : Int) : Kx x { x with m := mvM x.m n, dl := d } := by
 induction n with
 | zero => exact ⟨fun _ => rfl, rfl, rfl, rfl, rfl, rfl, rfl, rfl⟩
 | succ n ih => exact ih.trans ⟨poke_len _ _ _ _, poke_far _ _ _ _ _ kO, poke_far _ _ _ _ _ kO, rfl, rfl, rfl, rfl, rfl⟩
theorem kx_mainP (x : Bx) (a b : Int) : Kx x (mainP x a b) := by
 refine mainP_all (Kx x) x a b (fun i k h => kx_poke x _ _ _ h) (portP_all (Kx x) x _ b (Kx.refl x) ?_ ?_ ?_ ?_ ?_ (kx_mv _ _ _) ?_ ?_) (Kx.refl x)
 ·exact ⟨fun _ => rfl, rfl, rfl, rfl, rfl, rfl, rfl, rfl⟩
 ·intro t _; exact ⟨fun _ => rfl, rfl, rfl, rfl, rfl, rfl, rfl, rfl⟩
 ·exact ⟨fun _ => rfl, rfl, rfl, rfl, rfl, rfl, rfl, rfl⟩
 ·intro t _; exact ⟨fun _ => rfl, rfl, rfl, rfl, rfl, rfl, rfl, rfl⟩
 ·intro t _; exact ⟨fun _ => rfl, rfl, rfl, rfl, rfl, rfl, rfl, rfl⟩
 ·intro g d
  unfold freeM
  split <;> exact ⟨fun _ => rfl, rfl, rfl, rfl, rfl, rfl, rfl, rfl⟩
 ·exact ⟨fun _ => rfl, rfl, rfl, rfl, rfl, rfl, rfl, rfl⟩
theorem kx_mainGS (x : Bx) (a : Int) : Kx x (mainGS x a) := by
 unfold mainGS portGS
 repeat' split
 all_goals exact ⟨fun _ => rfl, rfl, rfl, rfl, rfl, rfl, rfl, rfl⟩
theorem kx_auxP (x : Bx) (a b : Int) : Kx x (auxP x a b) := by
 unfold auxP
 repeat' split
 ·exact kx_poke x _ _ _ kO
 ·exact kx_poke x _ _ _ kO
 ·exact Kx.refl x
 ·exact ⟨fun _ => rfl, rfl, rfl, rfl, rfl, rfl, rfl, putS_wt _ _ _⟩
 all_goals exact ⟨fun _ => rfl, rfl, rfl, rfl, rfl, rfl, rfl, rfl⟩
theorem kx_auxGS (x : Bx) (a : Int) : Kx x (auxGS x a) := by
 unfold auxGS
 split
 all_goals exact ⟨fun _ => rfl, rfl, rfl, rfl, rfl, rfl, rfl, rfl⟩
theorem tells_M : Tells busM := fun m a => by
 show U8 (mainG m.m a % 256)
 unfold U8
 omega
theorem tells_A : Tells busA := fun m a => by
 show U8 (auxG m.m a % 256)
 unfold U8
 omega
/-- what a bus keeps: the fields' ranges, Kx -/
def KI (x y : Bx) : Prop := x.m.In → y.m.In ∧ Kx x y
theorem KI.trans (a b c : Bx) (h : KI a b) (k : KI b c) : KI a c := fun i => ⟨(k (h i).1).1, (h i).2.trans (k (h i).1).2⟩
theorem main_ki (x : Bx) {c : Cp} (hi : c.In) (r : Bool) : KI x (dM busM x c r) :=
 keep_dM tells_M (fun x i => ⟨i, Kx.refl x⟩) KI.trans (fun x a i => ⟨mainGS_in i a, kx_mainGS x a⟩) (fun x a n hn i => ⟨mainP_in i a hn, kx_mainP x a n⟩) x hi r
theorem aux_ki (x : Bx) {c : Cp} (hi : c.In) (r : Bool) : KI x (dM busA x c r) :=
 keep_dM tells_A (fun x i => ⟨i, Kx.refl x⟩) KI.trans (fun x a i => ⟨auxGS_in i a, kx_auxGS x a⟩) (fun x a n hn i => ⟨auxP_in i a hn, kx_auxP x a n⟩) x hi r
/-- the transfer's time -/
theorem main_dl (x : Bx) {c : Cp} (hi : c.In) (r : Bool) (h0 : 0 ≤ x.dl) (h1 : x.dl ≤ 1000000) : x.dl ≤ (dM busM x c r).dl ∧ (dM busM x c r).dl ≤ x.dl + 2040 := by
 have := Grd.dM (b := busM) (Q := fun k a b => 0 ≤ a.dl ∧ a.dl + 510 * k ≤ 10000000 → a.dl ≤ b.dl ∧ b.dl ≤ a.dl + 510 * k) (c := c) ⟨fun m _ => ⟨Int.le_refl _, by omega⟩, fun i j a b c h k e => by
  have h' := h ⟨e.1, by omega⟩
  have k' := k ⟨by omega, by omega⟩
  omega, fun i j a c hij h e => by have := h ⟨e.1, by omega⟩; omega, fun m a _ => by
  have : (mainGS m a).dl = m.dl := by unfold mainGS portGS; (repeat' split) <;> rfl
  show m.dl ≤ (mainGS m a).dl ∧ (mainGS m a).dl ≤ _
  omega, fun m a n hn e => by
  unfold U8 at hn
  have hw : wrap64 (m.dl + 2 * n) = m.dl + 2 * n := by rw [wrap64_id]; all_goals omega
  have hs : m.dl ≤ m.dl ∧ m.dl ≤ m.dl + 510 * ((1 : Nat) : Int) := by omega
  exact mainP_all (fun z => m.dl ≤ z.dl ∧ z.dl ≤ m.dl + 510 * ((1 : Nat) : Int)) m a n (fun _ _ _ => hs) (portP_all (fun z => m.dl ≤ z.dl ∧ z.dl ≤ m.dl + 510 * ((1 : Nat) : Int)) m _ n hs hs (fun _ _ => hs) hs (fun _ _ => hs) (fun _ _ => hs) (by show m.dl ≤ wrap64 (m.dl + 2 * n) ∧ wrap64 (m.dl + 2 * n) ≤ _; rw [hw]; omega) (fun _ _ => hs) hs) hs⟩ tells_M x hi r ⟨h0, by omega⟩
 omega
/-- the writes' list grows by four at most -/
theorem aux_ws (x : Bx) {c : Cp} (hi : c.In) (r : Bool) : (dM busA x c r).ws.length ≤ x.ws.length + 4 := by
 exact Grd.dM (b := busA) (Q := fun k a b => b.ws.length ≤ a.ws.length + k) (c := c) ⟨fun m => Nat.le_refl _, fun i j a b c h k => by omega, fun i j a c hij h => by omega, fun m a => by
  show (auxGS m a).ws.length ≤ _
  rw [auxGS_ws]
  omega, fun m a n _ => by
  show (auxP m a n).ws.length ≤ _
  unfold auxP
  repeat' split
  all_goals simp⟩ tells_A x hi r
theorem main_ws (x : Bx) {c : Cp} (hi : c.In) (r : Bool) : (dM busM x c r).ws = x.ws :=
 keep_dM (K := fun a b => b.ws = a.ws) tells_M (fun _ => rfl) (fun a b c (h : b.ws = a.ws) (k : c.ws = b.ws) => k.trans h) (fun x a => mainGS_ws x a) (fun x a n _ => mainP_ws x a n) x hi r
theorem wrap64_I (n : Int) : I64 (wrap64 n) := by
 unfold I64 wrap64
 omega
theorem Mach.In.mcr {m : Mach} (h : m.In) {c : Cp} (hc : c.In) {r : Int} (hr : I64 r) : ({ m with mc := c, mr := r } : Mach).In :=
 ⟨hc, h.ac, h.mem, h.p0, h.p1, h.tm, h.sd, h.wt, h.ln, h.pt, h.fr, h.fm, h.to, h.m0, h.m1, h.ck, hr, h.ar⟩
theorem Mach.In.acr {m : Mach} (h : m.In) {c : Cp} (hc : c.In) {r : Int} (hr : I64 r) : ({ m with ac := c, ar := r } : Mach).In :=
 ⟨h.mc, hc, h.mem, h.p0, h.p1, h.tm, h.sd, h.wt, h.ln, h.pt, h.fr, h.fm, h.to, h.m0, h.m1, h.ck, h.mr, hr⟩
theorem mainX_ki (x : Bx) (h : x.m.In) : (mainX x).m.In ∧ Kx x (mainX x) := by
 have k := main_ki { x with dl := 0 } h.mc (x.m.tm.rg || x.m.bm.rg) h
 exact ⟨Mach.In.mcr k.1 (dC_in tells_M _ h.mc _) (wrap64_I _), ⟨k.2.len, k.2.r0, k.2.r1, k.2.ck, k.2.ln, k.2.pt, k.2.fr, k.2.wt⟩⟩
theorem auxX_ki (x : Bx) (h : x.m.In) : (auxX x).m.In ∧ Kx x (auxX x) := by
 have k := aux_ki x h.ac x.m.rg h
 exact ⟨Mach.In.acr k.1 (dC_in tells_A _ h.ac _) (wrap64_I _), ⟨k.2.len, k.2.r0, k.2.r1, k.2.ck, k.2.ln, k.2.pt, k.2.fr, k.2.wt⟩⟩
theorem doM_ki (x : Bx) (h : x.m.In) : (doM x).m.In ∧ Kx x (doM x) := by
 unfold doM
 split
 ·exact mainX_ki x h
 ·exact ⟨h, Kx.refl x⟩
theorem doA_ki (x : Bx) (h : x.m.In) : (doA x).m.In ∧ Kx x (doA x) := by
 unfold doA
 split
 ·exact auxX_ki x h
 ·exact ⟨h, Kx.refl x⟩
theorem doX_ki (x : Bx) (h : x.m.In) : (doX x).m.In ∧ Kx x (doX x) :=
 ⟨(doA_ki _ (doM_ki x h).1).1, (doM_ki x h).2.trans (doA_ki _ (doM_ki x h).1).2⟩
theorem mainX_ws (x : Bx) (h : x.m.In) : (mainX x).ws = x.ws := main_ws { x with dl := 0 } h.mc _
theorem doX_ws (x : Bx) (h : x.m.In) : (doX x).ws.length ≤ x.ws.length + 4 := by
 have h1 : (doM x).ws = x.ws := by
  unfold doM
  split
  ·exact mainX_ws x h
  ·rfl
 have k := (doM_ki x h).1
 show (doA (doM x)).ws.length ≤ _
 rw [← h1]
 unfold doA
 split
 ·exact aux_ws (doM x) k.ac _
 ·omega
theorem wV_M (x : Bx) (a : Int) : U16 (wV busM x a) := tells_M.w x a
/-- when the main processor goes on -/
theorem mainX_mr (x : Bx) (h : x.m.In) (c0 : 0 ≤ x.m.ck) (c1 : x.m.ck ≤ 1000000) : x.m.ck + 3 ≤ (mainX x).m.mr ∧ (mainX x).m.mr ≤ x.m.ck + 2400 := by
 have hd := main_dl { x with dl := 0 } h.mc (x.m.tm.rg || x.m.bm.rg) (by show (0 : Int) ≤ 0; omega) (by show (0 : Int) ≤ 1000000; omega)
 have hn := dN_pos busM { x with dl := 0 } x.m.mc (x.m.tm.rg || x.m.bm.rg) (wV_M _ _)
 show x.m.ck + 3 ≤ wrap64 (wrap64 (x.m.ck + dN busM { x with dl := 0 } x.m.mc (x.m.tm.rg || x.m.bm.rg) * 3) + (dM busM { x with dl := 0 } x.m.mc (x.m.tm.rg || x.m.bm.rg)).dl) ∧ wrap64 (wrap64 (x.m.ck + dN busM { x with dl := 0 } x.m.mc (x.m.tm.rg || x.m.bm.rg) * 3) + (dM busM { x with dl := 0 } x.m.mc (x.m.tm.rg || x.m.bm.rg)).dl) ≤ x.m.ck + 2400
 generalize dN busM { x with dl := 0 } x.m.mc (x.m.tm.rg || x.m.bm.rg) = n at *
 generalize (dM busM { x with dl := 0 } x.m.mc (x.m.tm.rg || x.m.bm.rg)).dl = d at *
 have hd : 0 ≤ d ∧ d ≤ 0 + 2040 := hd
 rw [wrap64_id (x.m.ck + n * 3) kO kO, wrap64_id _ kO kO]
 omega
theorem auxX_ar (x : Bx) (h : x.m.In) (c0 : 0 ≤ x.m.ck) (c1 : x.m.ck ≤ 1000000) : x.m.ck + 5 ≤ (auxX x).m.ar ∧ (auxX x).m.ar ≤ x.m.ck + 2400 := by
 have hn := dN_pos busA x x.m.ac x.m.rg (tells_A.w _ _)
 show x.m.ck + 5 ≤ wrap64 (x.m.ck + dN busA x x.m.ac x.m.rg * 5) ∧ wrap64 (x.m.ck + dN busA x x.m.ac x.m.rg * 5) ≤ x.m.ck + 2400
 generalize dN busA x x.m.ac x.m.rg = n at *
 rw [wrap64_id (x.m.ck + n * 5) kO kO]
 omega
/-- each bus leaves the other processor's time, but for one that is let go -/
theorem main_ar (x : Bx) {c : Cp} (hi : c.In) (r : Bool) : (dM busM x c r).m.mr = x.m.mr ∧ ((dM busM x c r).m.ar = x.m.ar ∨ (dM busM x c r).m.ar = x.m.ck) := by
 have := keep_dM (K := fun a b => b.m.ck = a.m.ck ∧ b.m.mr = a.m.mr ∧ (b.m.ar = a.m.ar ∨ b.m.ar = a.m.ck)) tells_M (fun _ => ⟨rfl, rfl, .inl rfl⟩) (fun a b c (h : b.m.ck = a.m.ck ∧ b.m.mr = a.m.mr ∧ (b.m.ar = a.m.ar ∨ b.m.ar = a.m.ck)) (k : c.m.ck = b.m.ck ∧ c.m.mr = b.m.mr ∧ (c.m.ar = b.m.ar ∨ c.m.ar = b.m.ck)) => ⟨k.1.trans h.1, k.2.1.trans h.2.1, by have := h.1; have := h.2.2; have := k.2.2; omega⟩)
  (fun x a => by show (mainGS x a).m.ck = _ ∧ (mainGS x a).m.mr = _ ∧ ((mainGS x a).m.ar = _ ∨ (mainGS x a).m.ar = _); unfold mainGS portGS; (repeat' split) <;> exact ⟨rfl, rfl, .inl rfl⟩)
  (fun x a n _ => by
   have hm : ∀ k, (mvM x.m k).ck = x.m.ck ∧ (mvM x.m k).mr = x.m.mr ∧ ((mvM x.m k).ar = x.m.ar ∨ (mvM x.m k).ar = x.m.ck) := fun k => by
    induction k with
    | zero => exact ⟨rfl, rfl, .inl rfl⟩
    | succ k ih => exact ih
   refine mainP_all (fun z => z.m.ck = x.m.ck ∧ z.m.mr = x.m.mr ∧ (z.m.ar = x.m.ar ∨ z.m.ar = x.m.ck)) x a n (fun _ _ _ => ⟨rfl, rfl, .inl rfl⟩) (portP_all (fun z => z.m.ck = x.m.ck ∧ z.m.mr = x.m.mr ∧ (z.m.ar = x.m.ar ∨ z.m.ar = x.m.ck)) x _ n ⟨rfl, rfl, .inl rfl⟩ ⟨rfl, rfl, .inl rfl⟩ (fun _ _ => ⟨rfl, rfl, .inl rfl⟩) ⟨rfl, rfl, .inl rfl⟩ (fun _ _ => ⟨rfl, rfl, .inl rfl⟩) (fun _ _ => ⟨rfl, rfl, .inl rfl⟩) (hm _) (fun g d => ?_) ⟨rfl, rfl, .inl rfl⟩) ⟨rfl, rfl, .inl rfl⟩
   show (freeM x.m _ _).ck = _ ∧ (freeM x.m _ _).mr = _ ∧ ((freeM x.m _ _).ar = _ ∨ (freeM x.m _ _).ar = _)
   unfold freeM
   split
   ·exact ⟨rfl, rfl, .inr rfl⟩
   ·exact ⟨rfl, rfl, .inl rfl⟩) x hi r
 exact this.2
theorem aux_mr (x : Bx) {c : Cp} (hi : c.In) (r : Bool) : (dM busA x c r).m.mr = x.m.mr ∧ (dM busA x c r).m.ar = x.m.ar :=
 keep_dM (K := fun a b => b.m.mr = a.m.mr ∧ b.m.ar = a.m.ar) tells_A (fun _ => ⟨rfl, rfl⟩) (fun a b c (h : b.m.mr = a.m.mr ∧ b.m.ar = a.m.ar) (k : c.m.mr = b.m.mr ∧ c.m.ar = b.m.ar) => ⟨k.1.trans h.1, k.2.trans h.2⟩)
  (fun x a => by show (auxGS x a).m.mr = _ ∧ (auxGS x a).m.ar = _; unfold auxGS; split <;> exact ⟨rfl, rfl⟩)
  (fun x a n _ => by
   show (auxP x a n).m.mr = _ ∧ (auxP x a n).m.ar = _
   unfold auxP
   (repeat' split) <;> exact ⟨rfl, rfl⟩) x hi r
/-- when both go on -/
theorem doX_time (x : Bx) (h : x.m.In) (c0 : 0 ≤ x.m.ck) (c1 : x.m.ck ≤ 1000000) (r0 : 0 ≤ x.m.mr) (r1 : x.m.mr ≤ x.m.ck + 20000) (a0 : 0 ≤ x.m.ar) (a1 : x.m.ar ≤ x.m.ck + 20000) :
  0 ≤ (doX x).m.mr ∧ (doX x).m.mr ≤ x.m.ck + 20000 ∧ 0 ≤ (doX x).m.ar ∧ (doX x).m.ar ≤ x.m.ck + 20000 := by
 have hk := doM_ki x h
 have e1 : 0 ≤ (doM x).m.mr ∧ (doM x).m.mr ≤ x.m.ck + 20000 ∧ 0 ≤ (doM x).m.ar ∧ (doM x).m.ar ≤ x.m.ck + 20000 := by
  unfold doM
  split
  ·have := mainX_mr x h c0 c1
   have h2 := (main_ar { x with dl := 0 } h.mc (x.m.tm.rg || x.m.bm.rg)).2
   have h3 : (mainX x).m.ar = (dM busM { x with dl := 0 } x.m.mc (x.m.tm.rg || x.m.bm.rg)).m.ar := rfl
   simp only at h2
   omega
  ·exact ⟨r0, r1, a0, a1⟩
 have hc := hk.2.ck
 show 0 ≤ (doA (doM x)).m.mr ∧ _
 show 0 ≤ (doA (doM x)).m.mr ∧ (doA (doM x)).m.mr ≤ x.m.ck + 20000 ∧ 0 ≤ (doA (doM x)).m.ar ∧ (doA (doM x)).m.ar ≤ x.m.ck + 20000
 unfold doA
 split
 ·have := auxX_ar (doM x) hk.1 kO kO
  have h2 := (aux_mr (doM x) hk.1.ac (doM x).m.rg).1
  have h3 : (auxX (doM x)).m.mr = (dM busA (doM x) (doM x).m.ac (doM x).m.rg).m.mr := rfl
  omega
 ·exact e1
/-! ### What does not matter: the list of writes so far, the transfer's time, how long the sound waits -/
def _root_.Go.Mq.Bx.more (pre : List Wr) (x : Bx) : Bx := { x with ws := pre ++ x.ws }
def _root_.Go.Mq.Bx.swt (t : Int) (x : Bx) : Bx := { x with m := { x.m with sd := { x.m.sd with wt := t } } }
theorem ite_2 {α β : Type} (R : α → β → Prop) {c : Prop} [Decidable c] {x y : α} {x' y' : β} (h : R x x') (k : R y y') : R (if c then x else y) (if c then x' else y') := by split <;> assumption
theorem mainP_two (R : Bx → Bx → Prop) (x y : Bx) (a b : Int) (hk : ∀ i k, R { x with m := poke x.m i k b } { y with m := poke y.m i k b }) (h : R x y) (h0 : R { x with m := { x.m with p0 := writeP x.m.p0 b, p1 := writeP x.m.p1 b } } { y with m := { y.m with p0 := writeP y.m.p0 b, p1 := writeP y.m.p1 b } })
  (h2 : R { x with m := { x.m with tm := { x.m.tm with rl := hi16 x.m.tm.rl b } } } { y with m := { y.m with tm := { y.m.tm with rl := hi16 y.m.tm.rl b } } }) (h3 : R { x with m := { x.m with tm := { x.m.tm with rl := lo16 x.m.tm.rl b } } } { y with m := { y.m with tm := { y.m.tm with rl := lo16 y.m.tm.rl b } } }) (h4 : R (x.wTm (setT x.m.tm b)) (y.wTm (setT y.m.tm b)))
  (h8 : R { x with m := { x.m with bm := { x.m.bm with rg := false } } } { y with m := { y.m with bm := { y.m.bm with rg := false } } }) (h10 : R { x with m := { x.m with fm := hi16 x.m.fm b } } { y with m := { y.m with fm := hi16 y.m.fm b } }) (h11 : R { x with m := { x.m with fm := lo16 x.m.fm b } } { y with m := { y.m with fm := lo16 y.m.fm b } })
  (h12 : R { x with m := { x.m with «to» := hi16 x.m.to b } } { y with m := { y.m with «to» := hi16 y.m.to b } }) (h13 : R { x with m := { x.m with «to» := lo16 x.m.to b } } { y with m := { y.m with «to» := lo16 y.m.to b } }) (h14 : R { x with m := mvM x.m b.toNat, dl := wrap64 (x.dl + 2 * b) } { y with m := mvM y.m b.toNat, dl := wrap64 (y.dl + 2 * b) })
  (h16 : ∀ g d, R { x with m := freeM x.m g d } { y with m := freeM y.m g d }) (h17 : R { x with m := { x.m with m0 := b, rg := true } } { y with m := { y.m with m0 := b, rg := true } }) : R (mainP x a b) (mainP y a b) := by
 unfold mainP portP
 exact ite_2 R (hk _ _) (ite_2 R (hk _ _) (ite_2 R (ite_2 R h0 (ite_2 R h2 (ite_2 R h3 (ite_2 R h4 (ite_2 R h8 (ite_2 R h10 (ite_2 R h11 (ite_2 R h12 (ite_2 R h13 (ite_2 R h14 (ite_2 R (h16 _ _) (ite_2 R h17 h)))))))))))) h))
theorem auxP_two (R : Bx → Bx → Prop) (x y : Bx) (a b : Int) (hg : y.m.gr = x.m.gr) (hk : ∀ i k, R { x with m := poke x.m i k b } { y with m := poke y.m i k b }) (h : R x y)
  (hs : R { x with m := { x.m with sd := putS x.m.sd (a % 32) b }, ws := x.ws ++ [⟨x.m.ck, a % 32, b⟩] } { y with m := { y.m with sd := putS y.m.sd (a % 32) b }, ws := y.ws ++ [⟨y.m.ck, a % 32, b⟩] }) (hm : R { x with m := { x.m with m1 := b } } { y with m := { y.m with m1 := b } }) : R (auxP x a b) (auxP y a b) := by
 unfold auxP
 rw [hg]
 exact ite_2 R (hk _ _) (ite_2 R (ite_2 R (hk _ _) h) (ite_2 R (ite_2 R hs (ite_2 R hm h)) h))
theorem sim_more_M (pre : List Wr) : Sim busM busM (fun a b => b = Bx.more pre a) where
 v := fun a b n h => by subst h; rfl
 get := fun a b n h => by
  subst h
  show mainGS _ _ = Bx.more pre (mainGS _ _)
  unfold mainGS portGS
  (repeat' split) <;> rfl
 put := fun a b n v h => by
  subst h
  exact mainP_two (fun u v => v = Bx.more pre u) a (Bx.more pre a) n v (fun _ _ => rfl) rfl rfl rfl rfl rfl rfl rfl rfl rfl rfl rfl (fun _ _ => rfl) rfl
/-- another start of the lists: the same machine -/
theorem doX_more (pre : List Wr) (d : Int) (x : Bx) : (doX { x.more pre with dl := d }).m = (doX x).m ∧ (doX { x.more pre with dl := d }).ws = pre ++ (doX x).ws := by
 have hM : (doM { x.more pre with dl := d }).m = (doM x).m ∧ (doM { x.more pre with dl := d }).ws = pre ++ (doM x).ws := by
  unfold doM
  by_cases c : x.m.mr ≤ x.m.ck
  ·rw [if_pos c, if_pos (show ({ x.more pre with dl := d } : Bx).m.mr ≤ ({ x.more pre with dl := d } : Bx).m.ck from c)]
   have h1 := (sim_more_M pre).dM (m := { x with dl := 0 }) rfl x.m.mc (x.m.tm.rg || x.m.bm.rg)
   have h2 := (sim_more_M pre).dC (m := { x with dl := 0 }) rfl x.m.mc (x.m.tm.rg || x.m.bm.rg)
   have h3 := (sim_more_M pre).dN (m := { x with dl := 0 }) rfl x.m.mc (x.m.tm.rg || x.m.bm.rg)
   unfold mainX
   constructor
   ·show ({ (dM busM (Bx.more pre { x with dl := 0 }) x.m.mc (x.m.tm.rg || x.m.bm.rg)).m with
     mc := dC busM (Bx.more pre { x with dl := 0 }) x.m.mc (x.m.tm.rg || x.m.bm.rg)
     mr := wrap64 (wrap64 (x.m.ck + dN busM (Bx.more pre { x with dl := 0 }) x.m.mc (x.m.tm.rg || x.m.bm.rg) * 3) + (dM busM (Bx.more pre { x with dl := 0 }) x.m.mc (x.m.tm.rg || x.m.bm.rg)).dl) } : Mach) = _
    rw [← h2, ← h3, h1]
    rfl
   ·show (dM busM (Bx.more pre { x with dl := 0 }) x.m.mc (x.m.tm.rg || x.m.bm.rg)).ws = _
    rw [h1]
    rfl
  ·rw [if_neg c, if_neg (show ¬ ({ x.more pre with dl := d } : Bx).m.mr ≤ ({ x.more pre with dl := d } : Bx).m.ck from c)]
   exact ⟨rfl, rfl⟩
 show (doA (doM _)).m = (doA (doM x)).m ∧ (doA (doM _)).ws = pre ++ (doA (doM x)).ws
 generalize doM { x.more pre with dl := d } = z at *
 generalize doM x = y at *
 obtain ⟨e1, e2⟩ := hM
 have hz : z = { y.more pre with dl := z.dl } := by
  cases z
  cases y
  simp only at e1 e2
  subst e1 e2
  rfl
 rw [hz]
 unfold doA
 by_cases c : y.m.hd = false ∧ y.m.ar ≤ y.m.ck
 ·rw [if_pos c, if_pos (show ({ y.more pre with dl := z.dl } : Bx).m.hd = false ∧ ({ y.more pre with dl := z.dl } : Bx).m.ar ≤ ({ y.more pre with dl := z.dl } : Bx).m.ck from c)]
  have sA : Sim busA busA (fun a b => b = { a.more pre with dl := z.dl }) := ⟨fun a b n h => by subst h; rfl, fun a b n h => by
   subst h
   show auxGS _ _ = { Bx.more pre (auxGS _ _) with dl := z.dl }
   unfold auxGS
   (repeat' split) <;> rfl, fun a b n v h => by
   subst h
   refine auxP_two (fun u v => v = { Bx.more pre u with dl := z.dl }) a { a.more pre with dl := z.dl } n v rfl (fun _ _ => rfl) rfl ?_ rfl
   show (⟨_, (pre ++ a.ws) ++ _, _⟩ : Bx) = ⟨_, pre ++ (a.ws ++ _), _⟩
   rw [List.append_assoc]
   rfl⟩
  have h1 := sA.dM (m := y) rfl y.m.ac y.m.rg
  have h2 := sA.dC (m := y) rfl y.m.ac y.m.rg
  have h3 := sA.dN (m := y) rfl y.m.ac y.m.rg
  unfold auxX
  constructor
  ·show ({ (dM busA { y.more pre with dl := z.dl } y.m.ac y.m.rg).m with ac := dC busA { y.more pre with dl := z.dl } y.m.ac y.m.rg, ar := wrap64 (y.m.ck + dN busA { y.more pre with dl := z.dl } y.m.ac y.m.rg * 5) } : Mach) = _
   rw [← h2, ← h3, h1]
   rfl
  ·show (dM busA { y.more pre with dl := z.dl } y.m.ac y.m.rg).ws = _
   rw [h1]
   rfl
 ·rw [if_neg c, if_neg (show ¬ (({ y.more pre with dl := z.dl } : Bx).m.hd = false ∧ ({ y.more pre with dl := z.dl } : Bx).m.ar ≤ ({ y.more pre with dl := z.dl } : Bx).m.ck) from c)]
  exact ⟨rfl, rfl⟩
/-! ### From event to event -/
def soon (n most : Int) : Int := if 0 < n then min most n else most
def hzA (m : Mach) (most : Int) : Int := if m.hd then soon (max (m.mr - m.ck) 1) most else soon (max (m.ar - m.ck) 1) (soon (max (m.mr - m.ck) 1) most)
def hzI (ck : Int) (ins : List Inp) (k : Int) : Int := match ins with
 | [] => k
 | i :: _ => soon (i.ck - ck) k
def hzB (m : Mach) : Int := if 0 ≤ m.bm.fr ∧ m.bm.fr ≤ 20000 then nextB m.bm else 0
def hz (m : Mach) (ins : List Inp) (most : Int) : Int := soon (if hzB m = 0 then 64 else hzB m) (hzI m.ck ins (hzA m most))
/-- the sounds of so many clocks, the first sample told ahead -/
def sndL (s : Sd) (n : Nat) : List Int := smp (goSd s (min n s.wt.toNat) (s.wt - (min n s.wt.toNat : Nat))) (n - min n s.wt.toNat)
def sndS (s : Sd) (n : Nat) : Sd := runS (goSd s (min n s.wt.toNat) (s.wt - (min n s.wt.toNat : Nat))) (n - min n s.wt.toNat)
/-- a sample that is due is told ahead -/
def dueS (s : Sd) : Sd := if s.wt = 0 then { s with wt := 16 } else s
def dueL (s : Sd) : List Int := if s.wt = 0 then [levS s] else []
def ctX (x : Bx) (ins : List Inp) : Bx := doX (x.setM { pressA x.m ins with sd := dueS (pressA x.m ins).sd })
def ctM (m : Mach) (n : Int) : Mach := { m with tm := runTm m.tm n, bm := beamR m.bm n, sd := sndS m.sd n.toNat, ck := m.ck + n }
def ctN (c : Cn) (e : Int) : Int := hz (ctX c.x c.ins).m (pressR c.x.m.ck c.ins) (e - (ctX c.x c.ins).m.ck)
def ct1 (c : Cn) (e : Int) : Cn :=
 ⟨(ctX c.x c.ins).setM (ctM (ctX c.x c.ins).m (ctN c e)), c.ls ++ drawO (pressA c.x.m c.ins), c.ss ++ dueL (pressA c.x.m c.ins).sd ++ sndL (ctX c.x c.ins).m.sd (ctN c e).toNat, pressR c.x.m.ck c.ins⟩
/-! ### A machine that is right at work -/
structure Wk (x : Bx) : Prop where
 inn : x.m.In
 fit : x.m.Fit
 wt : 0 ≤ x.m.sd.wt ∧ x.m.sd.wt ≤ 15
 bm : x.m.bm.In
 fr : 0 ≤ x.m.bm.fr ∧ x.m.bm.fr ≤ 20001
theorem pressM_in {m : Mach} (h : m.In) {i : Inp} (hi : U8 i.dn) : (pressM m i).In := by
 unfold pressM
 split
 ·exact ⟨h.mc, h.ac, h.mem, pressP_ok _ _ h.p0 hi, h.p1, h.tm, h.sd, h.wt, h.ln, h.pt, h.fr, h.fm, h.to, h.m0, h.m1, h.ck, h.mr, h.ar⟩
 ·exact ⟨h.mc, h.ac, h.mem, h.p0, pressP_ok _ _ h.p1 hi, h.tm, h.sd, h.wt, h.ln, h.pt, h.fr, h.fm, h.to, h.m0, h.m1, h.ck, h.mr, h.ar⟩
/-- pressing turns the pads alone -/
structure Kpd (a b : Mach) : Prop where
 mem : b.mem = a.mem
 tm : b.tm = a.tm
 sd : b.sd = a.sd
 bm : b.bm = a.bm
 ck : b.ck = a.ck
 mr : b.mr = a.mr
 ar : b.ar = a.ar
 hd : b.hd = a.hd
 mc : b.mc = a.mc
 ac : b.ac = a.ac
theorem kpd_press (m : Mach) (i : Inp) : Kpd m (pressM m i) := by
 unfold pressM
 split <;> exact ⟨rfl, rfl, rfl, rfl, rfl, rfl, rfl, rfl, rfl, rfl⟩
theorem Kpd.trans {a b c : Mach} (h : Kpd a b) (k : Kpd b c) : Kpd a c :=
 ⟨k.mem.trans h.mem, k.tm.trans h.tm, k.sd.trans h.sd, k.bm.trans h.bm, k.ck.trans h.ck, k.mr.trans h.mr, k.ar.trans h.ar, k.hd.trans h.hd, k.mc.trans h.mc, k.ac.trans h.ac⟩
theorem kpd_all : ∀ (l : List Inp) (m : Mach), Kpd m (pressA m l)
 | [], m => ⟨rfl, rfl, rfl, rfl, rfl, rfl, rfl, rfl, rfl, rfl⟩
 | i :: t, m => by
  unfold pressA
  split
  ·exact (kpd_press m i).trans (kpd_all t _)
  ·exact ⟨rfl, rfl, rfl, rfl, rfl, rfl, rfl, rfl, rfl, rfl⟩
theorem pressA_in : ∀ (l : List Inp) (m : Mach), m.In → (∀ i ∈ l, U8 i.dn) → (pressA m l).In
 | [], m, h, _ => h
 | i :: t, m, h, hl => by
  unfold pressA
  split
  ·exact pressA_in t _ (pressM_in h (hl i (List.mem_cons_self ..))) (fun j hj => hl j (List.mem_cons_of_mem _ hj))
  ·exact h
theorem Kpd.wk {x : Bx} {m : Mach} (k : Kpd x.m m) (h : Wk x) (hi : m.In) : Wk (x.setM m) :=
 ⟨hi, ⟨by show (m.mem 0).length ≤ _; rw [k.mem]; exact h.fit.l0, by show (m.mem 1).length ≤ _; rw [k.mem]; exact h.fit.l1, by show (m.mem 2).length = _; rw [k.mem]; exact h.fit.l2, by show (m.mem 3).length = _; rw [k.mem]; exact h.fit.l3, by show (m.mem 4).length = _; rw [k.mem]; exact h.fit.l4⟩, by show 0 ≤ m.sd.wt ∧ m.sd.wt ≤ 15; rw [k.sd]; exact h.wt, by show m.bm.In; rw [k.bm]; exact h.bm, by show 0 ≤ m.bm.fr ∧ m.bm.fr ≤ 20001; rw [k.bm]; exact h.fr⟩
theorem Wk.press {x : Bx} (h : Wk x) {l : List Inp} (hl : ∀ i ∈ l, U8 i.dn) : Wk (x.setM (pressA x.m l)) := (kpd_all l x.m).wk h (pressA_in l x.m h.inn hl)
theorem Wk.kx {x y : Bx} (h : Wk x) (hi : y.m.In) (k : Kx x y) : Wk y :=
 ⟨hi, k.fit h.fit, by rw [k.wt]; exact h.wt, by unfold Bm.In; rw [k.ln, k.pt]; exact h.bm, by rw [k.fr]; exact h.fr⟩
theorem Wk.do {x : Bx} (h : Wk x) : Wk (doX x) := h.kx (doX_ki x h.inn).1 (doX_ki x h.inn).2
theorem bm_step {b : Bm} (h : b.In) (hf : 0 ≤ b.fr ∧ b.fr ≤ 20001) : (beamR b 1).In ∧ 0 ≤ (beamR b 1).fr ∧ (beamR b 1).fr ≤ 20001 := by
 obtain ⟨h1, h2, h3, h4⟩ := h
 unfold beamR
 split
 ·refine ⟨runBm_in b 1, ?_, ?_⟩
  ·show 0 ≤ b.fr + (b.ln * 64 + b.pt + 1) / 640
   omega
  ·show b.fr + (b.ln * 64 + b.pt + 1) / 640 ≤ 20001
   omega
 ·exact ⟨⟨by decide, by decide, by decide, by decide⟩, by decide, by decide⟩
theorem tickTm_ok {t : Tim} (h : t.Ok) : (tickTm t).Ok := by
 unfold tickTm
 split
 ·split
  ·exact ⟨h.rl, h.rl⟩
  ·exact ⟨h.rl, by have := h.ct; unfold U16 at *; show 0 ≤ t.ct - 1 ∧ t.ct - 1 ≤ 65535; omega⟩
 ·exact h
theorem i64_small {n : Int} (h : -1000000 ≤ n ∧ n ≤ 1000000) : I64 n := by unfold I64; omega
theorem bm_i64 {b : Bm} (h : b.In) (hf : 0 ≤ b.fr ∧ b.fr ≤ 20001) : I64 b.ln ∧ I64 b.pt ∧ I64 b.fr := by
 obtain ⟨h1, h2, h3, h4⟩ := h
 exact ⟨i64_small kO, i64_small kO, i64_small kO⟩
theorem Wk.tick {x : Bx} (h : Wk x) (c0 : -1000000 ≤ x.m.ck) (c1 : x.m.ck < 1000000) : Wk (x.setM (tickM x.m)) := by
 have hb := bm_step h.bm h.fr
 have hs := tickS_ok x.m.sd ⟨h.inn.sd, h.wt⟩
 have h3 := bm_i64 hb.1 hb.2
 exact ⟨⟨h.inn.mc, h.inn.ac, h.inn.mem, h.inn.p0, h.inn.p1, tickTm_ok h.inn.tm, hs.1, i64_small (by have := hs.2; show -1000000 ≤ (tickS x.m.sd).wt ∧ (tickS x.m.sd).wt ≤ _; omega), h3.1, h3.2.1, h3.2.2, h.inn.fm, h.inn.to, h.inn.m0, h.inn.m1, i64_small (by show -1000000 ≤ x.m.ck + 1 ∧ x.m.ck + 1 ≤ _; omega), h.inn.mr, h.inn.ar⟩,
  ⟨h.fit.l0, h.fit.l1, h.fit.l2, h.fit.l3, h.fit.l4⟩, hs.2, hb.1, hb.2⟩
/-- nothing happens now -/
structure Idle (m : Mach) (ins : List Inp) : Prop where
 ins : ∀ i t, ins = i :: t → m.ck < i.ck
 ln : m.bm.pt = 0 → 8 ≤ m.bm.ln
 mr : m.ck < m.mr
 ar : m.hd = true ∨ m.ck < m.ar
/-- a machine that only goes on by itself -/
def goM (m : Mach) (k : Nat) : Mach := { m with tm := runTm m.tm k, sd := runS m.sd k, bm := runBm m.bm k, ck := m.ck + k }
theorem fr_le {b : Bm} (h : b.In) (h0 : 0 ≤ b.fr) (h1 : b.fr ≤ 19900) (j : Nat) (hj : j ≤ 20000) : 0 ≤ (runBm b j).fr ∧ (runBm b j).fr ≤ 20000 := by
 obtain ⟨a1, a2, a3, a4⟩ := h
 show 0 ≤ b.fr + (b.ln * 64 + b.pt + j) / 640 ∧ b.fr + (b.ln * 64 + b.pt + j) / 640 ≤ 20000
 omega
theorem smp_one (s : Sd) : smp s 1 = dueL s := by
 unfold dueL
 simp [smp]
/-! ### What was shown before does not matter -/
/-- the lists anew -/
def Cn.anew (c : Cn) : Cn := ⟨⟨c.x.m, [], 0⟩, [], [], c.ins⟩
structure Adds (c d e : Cn) : Prop where
 m : e.x.m = d.x.m
 ins : e.ins = d.ins
 ls : e.ls = c.ls ++ d.ls
 ss : e.ss = c.ss ++ d.ss
 ws : e.x.ws = c.x.ws ++ d.x.ws
theorem lk1_adds (c d e : Cn) (h : Adds c d e) : Adds c (lk1 d) (lk1 e) := by
 obtain ⟨⟨em, ews, edl⟩, els, ess, eins⟩ := e
 obtain ⟨⟨dm, dws, ddl⟩, dls, dss, dins⟩ := d
 obtain ⟨h1, h2, h3, h4, h5⟩ := h
 simp only at h1 h2 h3 h4 h5
 subst h1 h2 h3 h4 h5
 have k := doX_more c.x.ws edl (⟨pressA em eins, dws, ddl⟩ : Bx)
 have k' : (({ Bx.more c.x.ws (⟨pressA em eins, dws, ddl⟩ : Bx) with dl := edl }) : Bx) = (⟨em, c.x.ws ++ dws, edl⟩ : Bx).setM (pressA em eins) := rfl
 rw [k'] at k
 refine ⟨?_, rfl, ?_, ?_, ?_⟩
 ·show tickM (doX _).m = tickM (doX _).m
  exact congrArg tickM k.1
 ·show (c.ls ++ dls) ++ _ = c.ls ++ (dls ++ _)
  rw [List.append_assoc]
 ·show (c.ss ++ dss) ++ _ = c.ss ++ (dss ++ _)
  rw [List.append_assoc]
 ·exact k.2
theorem lkN_adds (c d e : Cn) (h : Adds c d e) (n : Nat) : Adds c (lkN d n) (lkN e n) := by
 induction n generalizing d e with
 | zero => exact h
 | succ n ih => exact ih _ _ (lk1_adds c d e h)
theorem adds_anew (c : Cn) : Adds c c.anew c := ⟨rfl, rfl, (List.append_nil _).symm, (List.append_nil _).symm, (List.append_nil _).symm⟩
theorem lkN_anew (c : Cn) (n : Nat) : Adds c (lkN c.anew n) (lkN c n) := lkN_adds _ _ _ (adds_anew c) n
/-! ### What is left to be pressed -/
/-- rising from a clock on -/
def Rise : Int → List Inp → Prop
 | _, [] => True
 | c, i :: t => c ≤ i.ck ∧ Rise i.ck t
theorem Rise.low {c d : Int} : ∀ {l : List Inp}, Rise c l → d ≤ c → Rise d l
 | [], _, _ => trivial
 | i :: t, h, hd => ⟨Int.le_trans hd h.1, h.2⟩
theorem Rise.all {c : Int} : ∀ {l : List Inp}, Rise c l → ∀ i ∈ l, c ≤ i.ck
 | [], _, i, h => by cases h
 | j :: t, h, i, hi => by
  rcases List.mem_cons.1 hi with rfl | hi
  ·exact h.1
  ·exact Int.le_trans h.1 (Rise.all h.2 i hi)
theorem rise_chk : ∀ {l : List Inp} {c : Int}, chkFrom c l = 0 → Rise c l
 | [], _, _ => trivial
 | i :: t, c, h => by
  unfold chkFrom at h
  split at h
  ·cases h
  ·split at h
   ·cases h
   ·exact ⟨by omega, rise_chk h⟩
theorem pressR_filter {c : Int} : ∀ {l : List Inp} {f : Int}, Rise f l → pressR c l = l.filter (fun i => decide (c + 1 ≤ i.ck))
 | [], _, _ => rfl
 | i :: t, f, h => by
  unfold pressR
  by_cases hc : i.ck ≤ c
  ·rw [if_pos hc, List.filter_cons_of_neg (by simp; omega)]
   exact pressR_filter h.2
  ·rw [if_neg hc]
   rw [List.filter_eq_self.2 (fun j hj => ?_)]
   have : i.ck ≤ j.ck := by
    rcases List.mem_cons.1 hj with rfl | hj
    ·omega
    ·exact Rise.all h.2 j hj
   simp
   omega
theorem rise_filter {c : Int} {p : Inp → Bool} : ∀ {l : List Inp} {f : Int}, Rise f l → Rise f (l.filter p)
 | [], _, _ => trivial
 | i :: t, f, h => by
  rw [List.filter_cons]
  split
  ·exact ⟨h.1, rise_filter (c := c) h.2⟩
  ·exact (rise_filter (c := c) h.2).low h.1
theorem rise_press {c f : Int} {l : List Inp} (h : Rise f l) : Rise (c + 1) (pressR c l) := by
 rw [pressR_filter h]
 have h1 : Rise f (l.filter (fun i => decide (c + 1 ≤ i.ck))) := rise_filter (c := c) h
 cases hl : l.filter (fun i => decide (c + 1 ≤ i.ck)) with
 | nil => trivial
 | cons i t =>
  rw [hl] at h1
  have : i ∈ l.filter (fun i => decide (c + 1 ≤ i.ck)) := by rw [hl]; exact List.mem_cons_self ..
  have := (List.mem_filter.1 this).2
  exact ⟨by simpa using this, h1.2⟩
/-! ### A console at work, so many clocks since its start -/
structure At (m : Mach) (k : Nat) (c : Cn) : Prop where
 wk : Wk c.x
 ck : c.x.m.ck = m.ck + k
 dn : ∀ i ∈ c.ins, U8 i.dn
 rise : Rise c.x.m.ck c.ins
 time : 0 ≤ c.x.m.mr ∧ c.x.m.mr ≤ c.x.m.ck + 20000 ∧ 0 ≤ c.x.m.ar ∧ c.x.m.ar ≤ c.x.m.ck + 20000
/-- and where its beam stands -/
structure Bt (m : Mach) (k : Nat) (c : Cn) : Prop where
 ln : c.x.m.bm.ln = (runBm m.bm k).ln
 pt : c.x.m.bm.pt = (runBm m.bm k).pt
 fr : c.x.m.bm.fr = (runBm m.bm k).fr
theorem pressR_sub {c : Int} : ∀ {l : List Inp}, ∀ i ∈ pressR c l, i ∈ l
 | [], i, h => h
 | j :: t, i, h => by
  unfold pressR at h
  split at h
  ·exact List.mem_cons_of_mem _ (pressR_sub i h)
  ·exact h
theorem tick_pos {b : Bm} (b' : Bm) (h1 : b.ln = b'.ln) (h2 : b.pt = b'.pt) (h3 : b.fr = b'.fr) : (tickB b).ln = (tickB b').ln ∧ (tickB b).pt = (tickB b').pt ∧ (tickB b).fr = (tickB b').fr := by
 obtain ⟨bl, bp, bg, bf⟩ := b
 obtain ⟨cl, cp, cg, cf⟩ := b'
 simp only at h1 h2 h3
 subst h1 h2 h3
 unfold tickB
 simp only
 (repeat' split) <;> exact ⟨rfl, rfl, rfl⟩
theorem beam_one {b : Bm} (h : b.In) (h0 : 0 ≤ b.fr) (h1 : b.fr ≤ 20000) : beamR b 1 = tickB b := by
 unfold beamR
 rw [if_pos ⟨h0, h1⟩]
 have := runBm_succ b h 0 kO
 rw [runBm_zero b h] at this
 simpa using this
theorem At.next {m : Mach} {k : Nat} {c : Cn} (h : At m k c) (m0 : 0 ≤ m.ck) (m1 : m.ck + k < 1000000) : At m (k + 1) (lk1 c) := by
 have w1 := h.wk.press h.dn
 have kp := kpd_all c.ins c.x.m
 have w2 := w1.do
 have kx := (doX_ki _ w1.inn).2
 have hck : (doX (c.x.setM (pressA c.x.m c.ins))).m.ck = c.x.m.ck := kx.ck.trans kp.ck
 have hT := doX_time (c.x.setM (pressA c.x.m c.ins)) w1.inn (by show 0 ≤ (pressA c.x.m c.ins).ck; rw [kp.ck, h.ck]; omega) (by show (pressA c.x.m c.ins).ck ≤ _; rw [kp.ck, h.ck]; omega) (by show 0 ≤ (pressA c.x.m c.ins).mr; rw [kp.mr]; exact h.time.1) (by show (pressA c.x.m c.ins).mr ≤ (pressA c.x.m c.ins).ck + 20000; rw [kp.mr, kp.ck]; exact h.time.2.1) (by show 0 ≤ (pressA c.x.m c.ins).ar; rw [kp.ar]; exact h.time.2.2.1) (by show (pressA c.x.m c.ins).ar ≤ (pressA c.x.m c.ins).ck + 20000; rw [kp.ar, kp.ck]; exact h.time.2.2.2)
 have hpk : (c.x.setM (pressA c.x.m c.ins)).m.ck = c.x.m.ck := kp.ck
 rw [hpk] at hT
 have hc := h.ck
 have hn : (lk1 c).x.m.ck = c.x.m.ck + 1 := by show (doX (c.x.setM (pressA c.x.m c.ins))).m.ck + 1 = _; rw [hck]
 refine ⟨w2.tick kO kO, by rw [hn, hc]; omega, fun i hi => h.dn i (pressR_sub i hi), by rw [hn]; exact rise_press h.rise, ?_⟩
 rw [hn]
 obtain ⟨t1, t2, t3, t4⟩ := hT
 exact ⟨t1, by show (doX (c.x.setM (pressA c.x.m c.ins))).m.mr ≤ _; omega, t3, by show (doX (c.x.setM (pressA c.x.m c.ins))).m.ar ≤ _; omega⟩
theorem Bt.next {m : Mach} {k : Nat} {c : Cn} (h : Bt m k c) (a : At m k c) (hb : m.bm.In) (f : 0 ≤ (runBm m.bm k).fr ∧ (runBm m.bm k).fr ≤ 20000) : Bt m (k + 1) (lk1 c) := by
 have w1 := a.wk.press a.dn
 have kp := kpd_all c.ins c.x.m
 have w2 := w1.do
 have kx := (doX_ki _ w1.inn).2
 have e1 : (doX (c.x.setM (pressA c.x.m c.ins))).m.bm.ln = (runBm m.bm k).ln := kx.ln.trans ((congrArg Bm.ln kp.bm).trans h.ln)
 have e2 : (doX (c.x.setM (pressA c.x.m c.ins))).m.bm.pt = (runBm m.bm k).pt := kx.pt.trans ((congrArg Bm.pt kp.bm).trans h.pt)
 have e3 : (doX (c.x.setM (pressA c.x.m c.ins))).m.bm.fr = (runBm m.bm k).fr := kx.fr.trans ((congrArg Bm.fr kp.bm).trans h.fr)
 have s := runBm_succ m.bm hb k kO
 have q := tick_pos _ e1 e2 e3
 have b1 := beam_one w2.bm (by rw [e3]; exact f.1) (by rw [e3]; exact f.2)
 have hB : (lk1 c).x.m.bm = tickB (doX (c.x.setM (pressA c.x.m c.ins))).m.bm := b1
 have hc : ((k + 1 : Nat) : Int) = (k : Int) + 1 := by omega
 exact ⟨by rw [hB, hc, s]; exact q.1, by rw [hB, hc, s]; exact q.2.1, by rw [hB, hc, s]; exact q.2.2⟩
theorem At.run {m : Mach} {k : Nat} {c : Cn} (h : At m k c) (n : Nat) (m0 : 0 ≤ m.ck) (m1 : m.ck + k + n ≤ 1000000) : At m (k + n) (lkN c n) := by
 induction n with
 | zero => exact h
 | succ n ih => rw [lkN_last, ← Nat.add_assoc]; exact (ih kO).next m0 kO
theorem Bt.run {m : Mach} {k : Nat} {c : Cn} (h : Bt m k c) (a : At m k c) (n : Nat) (hb : m.bm.In) (m0 : 0 ≤ m.ck) (m1 : m.ck + k + n ≤ 1000000) (f0 : 0 ≤ m.bm.fr) (f1 : m.bm.fr ≤ 19900) (hn : k + n ≤ 20000) : Bt m (k + n) (lkN c n) := by
 induction n with
 | zero => exact h
 | succ n ih => rw [lkN_last, ← Nat.add_assoc]; exact (ih kO kO).next (a.run n m0 kO) hb (fr_le hb f0 f1 (k + n) kO)
theorem lkN_ins {m : Mach} {k : Nat} {c : Cn} (h : At m k c) (n : Nat) (m0 : 0 ≤ m.ck) (m1 : m.ck + k + n ≤ 1000000) : (lkN c n).ins = c.ins.filter (fun i => decide (c.x.m.ck + n ≤ i.ck)) := by
 induction n with
 | zero =>
  show c.ins = _
  rw [List.filter_eq_self.2 (fun i hi => ?_)]
  have := h.rise.all i hi
  simp
  omega
 | succ n ih =>
  have hn := h.run n m0 kO
  have e : (lkN c n).x.m.ck = c.x.m.ck + n := by rw [hn.ck, h.ck]; omega
  rw [lkN_last]
  show pressR _ _ = _
  rw [pressR_filter hn.rise, ih kO, e, List.filter_filter]
  congr 1
  funext i
  rw [← Bool.decide_and]
  exact decide_eq_decide.2 ⟨fun h => by omega, fun h => by omega⟩
/-! ### From event to event -/
def ctAll (c : Cn) (e : Int) : Nat → Cn
 | 0 => c
 | k + 1 => if c.x.m.ck < e then ctAll (ct1 c e) e k else c
end Go.Proofs.YtmppkjkmocecmaaGreatDoor
