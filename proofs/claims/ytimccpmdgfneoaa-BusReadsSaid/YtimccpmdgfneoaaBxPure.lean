/- What processors come to, as plain functions of a machine. Conditions: none; no program in sight. -/
import Derived.Test.YtimccpmdgfneoaaBx
namespace Go.Mq
open Go.RowKit
set_option linter.unusedVariables false
def Bx.wP0 (x : Bx) (p : Pd) : Bx := { x with m := { x.m with p0 := p } }
def Bx.wP1 (x : Bx) (p : Pd) : Bx := { x with m := { x.m with p1 := p } }
def Bx.wTm (x : Bx) (t : Tim) : Bx := { x with m := { x.m with tm := t } }
def Bx.wSd (x : Bx) (s : Sd) : Bx := { x with m := { x.m with sd := s } }
def Bx.wBm (x : Bx) (b : Bm) : Bx := { x with m := { x.m with bm := b } }
def Bx.wMc (x : Bx) (c : Cp) : Bx := { x with m := { x.m with mc := c } }
def Bx.wAc (x : Bx) (c : Cp) : Bx := { x with m := { x.m with ac := c } }
def b1 (c : Bool) (k : Int) : Int := if c then k else 0
def isPort (a : Int) : Bool := decide (53248 ≤ a ∧ a < 57344)
def poke (m : Mach) (i k : Nat) (v : Int) : Mach := { m with mem := updM m.mem i ((m.mem i).set k v) }
def plainF (m : Mach) (a : Int) : Int :=
  if a < (m.mem 0).length ∧ a < 32768 then (m.mem 0).getD a.toNat 0 else if 32768 ≤ a ∧ a < 49152 then (m.mem 2).getD (a % 128).toNat 0
  else if 49152 ≤ a ∧ a < 53248 then (m.mem 4).getD (a % 256).toNat 0 else 255
def portG (m : Mach) (p : Int) : Int :=
  if p = 0 then bitP m.p0 else if p = 1 then bitP m.p1 else if p = 4 then b1 m.tm.on 1 + b1 m.tm.rg 2 else if p = 6 then m.bm.ln % 256 else if p = 7 then m.bm.pt % 256
  else if p = 8 then b1 m.bm.rg 1 else if p = 16 then b1 m.gr 1 + b1 m.hd 2 else if p = 17 then m.m1 else 255
def portGS (x : Bx) (p : Int) : Bx :=
  if p = 0 then x.wP0 (readP x.m.p0) else if p = 1 then x.wP1 (readP x.m.p1) else x
def mainG (m : Mach) (a : Int) : Int := if isPort a then portG m (a % 32) else plainF m a
def mainGS (x : Bx) (a : Int) : Bx := if isPort a then portGS x (a % 32) else x
def hi16 (n b : Int) : Int := n % 256 + b * 256
def lo16 (n b : Int) : Int := n / 256 * 256 + b
def mvM (m : Mach) : Nat → Mach
  | 0 => m
  | k + 1 => poke (mvM m k) 4 ((m.to + k) % 256).toNat (plainF (mvM m k) ((m.fm + k) % 65536))
def putV (v : Vc) (k b : Int) : Vc :=
  if k = 0 then { v with pd := v.pd % 256 + b * 256 } else if k = 1 then { v with pd := v.pd / 256 * 256 + b } else if k = 2 then { v with ld := b % 16 }
  else if k = 3 then { v with nz := v.nz % 256 + b * 256 } else if k = 4 then { v with nz := v.nz / 256 * 256 + b } else v
def putS (s : Sd) (k b : Int) : Sd :=
  if k < 8 then { s with a := putV s.a (k % 8) b } else if k < 16 then { s with b := putV s.b (k % 8) b } else { s with c := putV s.c (k % 8) b }
def auxG (m : Mach) (a : Int) : Int :=
  if a < (m.mem 1).length ∧ a < 32768 then (m.mem 1).getD a.toNat 0 else if 32768 ≤ a ∧ a < 49152 then (m.mem 3).getD (a % 64).toNat 0
  else if 49152 ≤ a ∧ a < 53248 ∧ m.gr = true then (m.mem 2).getD (a % 128).toNat 0 else if isPort a = true ∧ a % 32 = 24 then m.m0 else 255
def auxGS (x : Bx) (a : Int) : Bx := if isPort a = true ∧ a % 32 = 24 then { x with m := { x.m with rg := false } } else x
def auxP (x : Bx) (a b : Int) : Bx :=
  if 32768 ≤ a ∧ a < 49152 then { x with m := poke x.m 3 (a % 64).toNat b } else if 49152 ≤ a ∧ a < 53248 then (if x.m.gr then { x with m := poke x.m 2 (a % 128).toNat b } else x)
  else if isPort a then (if a % 32 < 24 then { x with m := { x.m with sd := putS x.m.sd (a % 32) b }, ws := x.ws ++ [⟨x.m.ck, a % 32, b⟩] } else if a % 32 = 24 then { x with m := { x.m with m1 := b } } else x)
  else x
def startA (m : Mach) : Cp := start0 (auxG m 0 % 256 * 256 + auxG m 1 % 256)
def freeM (m : Mach) (g h : Bool) : Mach := if m.hd && !h then { m with gr := g, hd := h, ac := startA { m with gr := g, hd := h }, ar := m.ck } else { m with gr := g, hd := h }
def setT (t : Tim) (b : Int) : Tim := if b / 2 % 2 = 1 then { setTm t (b % 2 == 1) with rg := false } else setTm t (b % 2 == 1)
def portP (x : Bx) (p b : Int) : Bx :=
  if p = 0 then { x with m := { x.m with p0 := writeP x.m.p0 b, p1 := writeP x.m.p1 b } }
  else if p = 2 then { x with m := { x.m with tm := { x.m.tm with rl := hi16 x.m.tm.rl b } } }
  else if p = 3 then { x with m := { x.m with tm := { x.m.tm with rl := lo16 x.m.tm.rl b } } }
  else if p = 4 then x.wTm (setT x.m.tm b)
  else if p = 8 then { x with m := { x.m with bm := { x.m.bm with rg := false } } }
  else if p = 10 then { x with m := { x.m with fm := hi16 x.m.fm b } }
  else if p = 11 then { x with m := { x.m with fm := lo16 x.m.fm b } }
  else if p = 12 then { x with m := { x.m with to := hi16 x.m.to b } }
  else if p = 13 then { x with m := { x.m with to := lo16 x.m.to b } }
  else if p = 14 then { x with m := mvM x.m b.toNat, dl := wrap64 (x.dl + 2 * b) }
  else if p = 16 then { x with m := freeM x.m (b % 2 == 1) (b / 2 % 2 == 1) }
  else if p = 17 then { x with m := { x.m with m0 := b, rg := true } } else x
def mainP (x : Bx) (a b : Int) : Bx :=
  if 32768 ≤ a ∧ a < 49152 then { x with m := poke x.m 2 (a % 128).toNat b } else if 49152 ≤ a ∧ a < 53248 then { x with m := poke x.m 4 (a % 256).toNat b }
  else if isPort a then portP x (a % 32) b else x
def roomX (x : Bx) : Nat := 1000000 - x.ws.length
def busM : Bus Bx := ⟨fun x a => mainG x.m a % 256, mainGS, mainP, roomX⟩
def busA : Bus Bx := ⟨fun x a => auxG x.m a % 256, auxGS, auxP, roomX⟩

theorem poke_in {m : Mach} (h : m.In) (i k : Nat) {v : Int} (hv : U8 v) : (poke m i k v).In :=
  ⟨h.mc, h.ac, fun j => by
    show Bytes8 (updM m.mem i ((m.mem i).set k v) j)
    unfold updM
    split
    · exact byte_set (h.mem i) k hv
    · exact h.mem j, h.p0, h.p1, h.tm, h.sd, h.wt, h.ln, h.pt, h.fr, h.fm, h.to, h.m0, h.m1, h.ck, h.mr, h.ar⟩
theorem poke_len (m : Mach) (i k : Nat) (v : Int) (j : Nat) : ((poke m i k v).mem j).length = (m.mem j).length := by
  show (updM m.mem i ((m.mem i).set k v) j).length = _
  unfold updM
  split
  · next e => subst e; simp
  · rfl
theorem poke_fit {m : Mach} (h : m.Fit) (i k : Nat) (v : Int) : (poke m i k v).Fit :=
  ⟨by rw [poke_len]; exact h.l0, by rw [poke_len]; exact h.l1, by rw [poke_len]; exact h.l2, by rw [poke_len]; exact h.l3, by rw [poke_len]; exact h.l4⟩
theorem plainF_u {m : Mach} (h : m.In) (a : Int) : U8 (plainF m a) := by
  unfold plainF
  split
  · exact getD_byte (h.mem 0) _
  · split
    · exact getD_byte (h.mem 2) _
    · split
      · exact getD_byte (h.mem 4) _
      · unfold U8; omega
theorem bitP_u {p : Pd} (h : p.Ok) : U8 (bitP p) := by
  obtain ⟨⟨a, b⟩, ⟨c, d⟩⟩ := h
  unfold bitP U8
  split <;> omega
theorem portG_u {m : Mach} (h : m.In) (p : Int) : U8 (portG m p) := by
  have e1 := bitP_u h.p0
  have e2 := bitP_u h.p1
  have e3 := h.m1
  have bb : ∀ c k, 0 ≤ k → k ≤ 2 → 0 ≤ b1 c k ∧ b1 c k ≤ 2 := fun c k _ _ => by unfold b1; split <;> omega
  have f1 := bb m.tm.on 1 (by omega) (by omega)
  have f2 := bb m.tm.rg 2 (by omega) (by omega)
  have f3 := bb m.bm.rg 1 (by omega) (by omega)
  have f4 := bb m.gr 1 (by omega) (by omega)
  have f5 := bb m.hd 2 (by omega) (by omega)
  clear bb
  unfold portG U8 at *
  repeat' split
  all_goals omega
theorem mainG_u {m : Mach} (h : m.In) (a : Int) : U8 (mainG m a) := by
  unfold mainG
  split
  · exact portG_u h _
  · exact plainF_u h _
theorem auxG_u {m : Mach} (h : m.In) (a : Int) : U8 (auxG m a) := by
  unfold auxG
  split
  · exact getD_byte (h.mem 1) _
  · split
    · exact getD_byte (h.mem 3) _
    · split
      · exact getD_byte (h.mem 2) _
      · split
        · exact h.m0
        · unfold U8; omega
theorem mod256 {a : Int} (h : U8 a) : a % 256 = a := by unfold U8 at h; omega
theorem putV_ok {v : Vc} (h : v.Ok) (k : Int) {b : Int} (hb : U8 b) : (putV v k b).Ok := by
  obtain ⟨h1, h2, h3, h4⟩ := h
  unfold putV Vc.Ok
  unfold U8 U16 at *
  repeat' split
  all_goals (refine ⟨?_, ?_, ?_, ?_⟩ <;> first | assumption | (simp only; omega) | omega)
theorem putS_in {s : Sd} (h : s.In) (k : Int) {b : Int} (hb : U8 b) : (putS s k b).In := by
  obtain ⟨h1, h2, h3⟩ := h
  unfold putS Sd.In
  split
  · exact ⟨putV_ok h1 _ hb, h2, h3⟩
  · split
    · exact ⟨h1, putV_ok h2 _ hb, h3⟩
    · exact ⟨h1, h2, putV_ok h3 _ hb⟩
theorem putS_wt (s : Sd) (k b : Int) : (putS s k b).wt = s.wt := by
  unfold putS
  split
  · rfl
  · split <;> rfl
theorem hi16_u {n b : Int} (hb : U8 b) : U16 (hi16 n b) := by unfold U8 at hb; unfold U16 hi16; omega
theorem lo16_u {n b : Int} (hn : U16 n) (hb : U8 b) : U16 (lo16 n b) := by unfold U8 at hb; unfold U16 at *; unfold lo16; omega
theorem setTm_ok {t : Tim} (h : t.Ok) (b : Bool) : (setTm t b).Ok := by
  unfold setTm
  split
  · exact ⟨h.rl, h.rl⟩
  · exact ⟨h.rl, h.ct⟩
theorem setT_ok {t : Tim} (h : t.Ok) (b : Int) : (setT t b).Ok := by
  unfold setT
  split
  · exact ⟨(setTm_ok h _).rl, (setTm_ok h _).ct⟩
  · exact setTm_ok h _
theorem mvM_in {m : Mach} (h : m.In) (k : Nat) : (mvM m k).In := by
  induction k with
  | zero => exact h
  | succ k ih => exact poke_in ih _ _ (plainF_u ih _)
theorem mvM_fit {m : Mach} (h : m.Fit) (k : Nat) : (mvM m k).Fit := by
  induction k with
  | zero => exact h
  | succ k ih => exact poke_fit ih _ _ _
theorem startA_in (m : Mach) : (startA m).In := by
  refine ⟨fun i => ?_, ?_⟩
  · show U16 0; unfold U16; omega
  · show U16 (auxG m 0 % 256 * 256 + auxG m 1 % 256); unfold U16; omega
end Go.Mq
