/- What processors come to, as plain functions of a machine. Conditions: none; no program in sight. -/
import Derived.Test.YtmppkjkmocecmaaGreatDoorSq
import Derived.Test.YtmppkjkmocecmaaGreatDoorP08
import Derived.Test.YtmppkjkmocecmaaGreatDoorSh
import Derived.Test.YtmppkjkmocecmaaGreatDoorP07
import Derived.Test.YtmppkjkmocecmaaGreatDoorBase
set_option linter.unusedVariables false
set_option linter.unusedSimpArgs false
set_option maxHeartbeats 400000
set_option maxRecDepth 100000
namespace Go.Mq
open Go.RowKit
def Bx.wP0 (x : Bx) (p : Pd) : Bx := { x with m := { x.m with p0 := p } }
def Bx.wP1 (x : Bx) (p : Pd) : Bx := { x with m := { x.m with p1 := p } }
def Bx.wTm (x : Bx) (t : Tim) : Bx := { x with m := { x.m with tm := t } }
def Bx.wSd (x : Bx) (s : Sd) : Bx := { x with m := { x.m with sd := s } }
def Bx.wBm (x : Bx) (b : Bm) : Bx := { x with m := { x.m with bm := b } }
def Bx.wMc (x : Bx) (c : Cp) : Bx := { x with m := { x.m with mc := c } }
def Bx.wAc (x : Bx) (c : Cp) : Bx := { x with m := { x.m with ac := c } }
def b1 (c : Bool) (k : Int) : Int := if c then k else 0
def isPort (a : Int) : Bool := decide (53248 ≤ a ∧ a < 57344)
def poke (m : Mach) (i k : Nat) (v : Int) : Mach := { m with mem := updM m.mem i ((m.mem i).set k v) }
def plainF (m : Mach) (a : Int) : Int :=
 if a < (m.mem 0).length ∧ a < 32768 then (m.mem 0).getD a.toNat 0 else if 32768 ≤ a ∧ a < 49152 then (m.mem 2).getD (a % 128).toNat 0
 else if 49152 ≤ a ∧ a < 53248 then (m.mem 4).getD (a % 256).toNat 0 else 255
def portG (m : Mach) (p : Int) : Int :=
 if p = 0 then bitP m.p0 else if p = 1 then bitP m.p1 else if p = 4 then b1 m.tm.on 1 + b1 m.tm.rg 2 else if p = 6 then m.bm.ln % 256 else if p = 7 then m.bm.pt % 256
 else if p = 8 then b1 m.bm.rg 1 else if p = 16 then b1 m.gr 1 + b1 m.hd 2 else if p = 17 then m.m1 else 255
def portGS (x : Bx) (p : Int) : Bx :=
 if p = 0 then x.wP0 (readP x.m.p0) else if p = 1 then x.wP1 (readP x.m.p1) else x
def mainG (m : Mach) (a : Int) : Int := if isPort a then portG m (a % 32) else plainF m a
def mainGS (x : Bx) (a : Int) : Bx := if isPort a then portGS x (a % 32) else x
def hi16 (n b : Int) : Int := n % 256 + b * 256
def lo16 (n b : Int) : Int := n / 256 * 256 + b
def mvM (m : Mach) : Nat → Mach
 | 0 => m
 | k + 1 => poke (mvM m k) 4 ((m.to + k) % 256).toNat (plainF (mvM m k) ((m.fm + k) % 65536))
def putV (v : Vc) (k b : Int) : Vc :=
 if k = 0 then { v with pd := v.pd % 256 + b * 256 } else if k = 1 then { v with pd := v.pd / 256 * 256 + b } else if k = 2 then { v with ld := b % 16 }
 else if k = 3 then { v with nz := v.nz % 256 + b * 256 } else if k = 4 then { v with nz := v.nz / 256 * 256 + b } else v
def putS (s : Sd) (k b : Int) : Sd :=
 if k < 8 then { s with a := putV s.a (k % 8) b } else if k < 16 then { s with b := putV s.b (k % 8) b } else { s with c := putV s.c (k % 8) b }
def auxG (m : Mach) (a : Int) : Int :=
 if a < (m.mem 1).length ∧ a < 32768 then (m.mem 1).getD a.toNat 0 else if 32768 ≤ a ∧ a < 49152 then (m.mem 3).getD (a % 64).toNat 0
 else if 49152 ≤ a ∧ a < 53248 ∧ m.gr = true then (m.mem 2).getD (a % 128).toNat 0 else if isPort a = true ∧ a % 32 = 24 then m.m0 else 255
def auxGS (x : Bx) (a : Int) : Bx := if isPort a = true ∧ a % 32 = 24 then { x with m := { x.m with rg := false } } else x
def auxP (x : Bx) (a b : Int) : Bx :=
 if 32768 ≤ a ∧ a < 49152 then { x with m := poke x.m 3 (a % 64).toNat b } else if 49152 ≤ a ∧ a < 53248 then (if x.m.gr then { x with m := poke x.m 2 (a % 128).toNat b } else x)
 else if isPort a then (if a % 32 < 24 then { x with m := { x.m with sd := putS x.m.sd (a % 32) b }, ws := x.ws ++ [⟨x.m.ck, a % 32, b⟩] } else if a % 32 = 24 then { x with m := { x.m with m1 := b } } else x)
 else x
def startA (m : Mach) : Cp := start0 (auxG m 0 % 256 * 256 + auxG m 1 % 256)
def freeM (m : Mach) (g h : Bool) : Mach := if m.hd && !h then { m with gr := g, hd := h, ac := startA { m with gr := g, hd := h }, ar := m.ck } else { m with gr := g, hd := h }
def setT (t : Tim) (b : Int) : Tim := if b / 2 % 2 = 1 then { setTm t (b % 2 == 1) with rg := false } else setTm t (b % 2 == 1)
def portP (x : Bx) (p b : Int) : Bx :=
 if p = 0 then { x with m := { x.m with p0 := writeP x.m.p0 b, p1 := writeP x.m.p1 b } }
 else if p = 2 then { x with m := { x.m with tm := { x.m.tm with rl := hi16 x.m.tm.rl b } } }
 else if p = 3 then { x with m := { x.m with tm := { x.m.tm with rl := lo16 x.m.tm.rl b } } }
 else if p = 4 then x.wTm (setT x.m.tm b)
 else if p = 8 then { x with m := { x.m with bm := { x.m.bm with rg := false } } }
 else if p = 10 then { x with m := { x.m with fm := hi16 x.m.fm b } }
 else if p = 11 then { x with m := { x.m with fm := lo16 x.m.fm b } }
 else if p = 12 then { x with m := { x.m with to := hi16 x.m.to b } }
 else if p = 13 then { x with m := { x.m with to := lo16 x.m.to b } }
 else if p = 14 then { x with m := mvM x.m b.toNat, dl := wrap64 (x.dl + 2 * b) }
 else if p = 16 then { x with m := freeM x.m (b % 2 == 1) (b / 2 % 2 == 1) }
 else if p = 17 then { x with m := { x.m with m0 := b, rg := true } } else x
def mainP (x : Bx) (a b : Int) : Bx :=
 if 32768 ≤ a ∧ a < 49152 then { x with m := poke x.m 2 (a % 128).toNat b } else if 49152 ≤ a ∧ a < 53248 then { x with m := poke x.m 4 (a % 256).toNat b }
 else if isPort a then portP x (a % 32) b else x
def roomX (x : Bx) : Nat := 1000000 - x.ws.length
def busM : Bus Bx := ⟨fun x a => mainG x.m a % 256, mainGS, mainP, roomX⟩
def busA : Bus Bx := ⟨fun x a => auxG x.m a % 256, auxGS, auxP, roomX⟩
theorem poke_in {m : Mach} (h : m.In) (i k : Nat) {v : Int} (hv : U8 v) : (poke m i k v).In :=
 ⟨h.mc, h.ac, fun j => by
  show Bytes8 (updM m.mem i ((m.mem i).set k v) j)
  unfold updM
  split
  ·exact byte_set (h.mem i) k hv
  ·exact h.mem j, h.p0, h.p1, h.tm, h.sd, h.wt, h.ln, h.pt, h.fr, h.fm, h.to, h.m0, h.m1, h.ck, h.mr, h.ar⟩
theorem poke_len (m : Mach) (i k : Nat) (v : Int) (j : Nat) : ((poke m i k v).mem j).length = (m.mem j).length := by
 show (updM m.mem i ((m.mem i).set k v) j).length = _
 unfold updM
 split
 ·next e => subst e; simp
 ·rfl
theorem plainF_u {m : Mach} (h : m.In) (a : Int) : U8 (plainF m a) := by
 unfold plainF
 split
 ·exact getD_byte (h.mem 0) _
 ·split
  ·exact getD_byte (h.mem 2) _
  ·split
   ·exact getD_byte (h.mem 4) _
   ·unfold U8; omega
theorem bitP_u {p : Pd} (h : p.Ok) : U8 (bitP p) := by
 obtain ⟨⟨a, b⟩, ⟨c, d⟩⟩ := h
 unfold bitP U8
 split <;> omega
theorem portG_u {m : Mach} (h : m.In) (p : Int) : U8 (portG m p) := by
 have e1 := bitP_u h.p0
 have e2 := bitP_u h.p1
 have e3 := h.m1
 have bb : ∀ c k, 0 ≤ k → k ≤ 2 → 0 ≤ b1 c k ∧ b1 c k ≤ 2 := fun c k _ _ => by unfold b1; split <;> omega
 have f1 := bb m.tm.on 1 kO kO
 have f2 := bb m.tm.rg 2 kO kO
 have f3 := bb m.bm.rg 1 kO kO
 have f4 := bb m.gr 1 kO kO
 have f5 := bb m.hd 2 kO kO
 clear bb
 unfold portG U8 at *
 repeat' split
 all_goals omega
theorem mainG_u {m : Mach} (h : m.In) (a : Int) : U8 (mainG m a) := by
 unfold mainG
 split
 ·exact portG_u h _
 ·exact plainF_u h _
theorem auxG_u {m : Mach} (h : m.In) (a : Int) : U8 (auxG m a) := by
 unfold auxG
 split
 ·exact getD_byte (h.mem 1) _
 ·split
  ·exact getD_byte (h.mem 3) _
  ·split
   ·exact getD_byte (h.mem 2) _
   ·split
    ·exact h.m0
    ·unfold U8; omega
theorem mod256 {a : Int} (h : U8 a) : a % 256 = a := by unfold U8 at h; omega
theorem putV_ok {v : Vc} (h : v.Ok) (k : Int) {b : Int} (hb : U8 b) : (putV v k b).Ok := by
 obtain ⟨h1, h2, h3, h4⟩ := h
 unfold putV Vc.Ok
 unfold U8 U16 at *
 repeat' split
 all_goals (refine ⟨?_, ?_, ?_, ?_⟩ <;> first | assumption | (simp only; omega) | omega)
theorem putS_in {s : Sd} (h : s.In) (k : Int) {b : Int} (hb : U8 b) : (putS s k b).In := by
 obtain ⟨h1, h2, h3⟩ := h
 unfold putS Sd.In
 split
 ·exact ⟨putV_ok h1 _ hb, h2, h3⟩
 ·split
  ·exact ⟨h1, putV_ok h2 _ hb, h3⟩
  ·exact ⟨h1, h2, putV_ok h3 _ hb⟩
theorem putS_wt (s : Sd) (k b : Int) : (putS s k b).wt = s.wt := by
 unfold putS
 split
 ·rfl
 ·split <;> rfl
theorem hi16_u {n b : Int} (hb : U8 b) : U16 (hi16 n b) := by unfold U8 at hb; unfold U16 hi16; omega
theorem lo16_u {n b : Int} (hn : U16 n) (hb : U8 b) : U16 (lo16 n b) := by unfold U8 at hb; unfold U16 at *; unfold lo16; omega
theorem setTm_ok {t : Tim} (h : t.Ok) (b : Bool) : (setTm t b).Ok := by
 unfold setTm
 split
 ·exact ⟨h.rl, h.rl⟩
 ·exact ⟨h.rl, h.ct⟩
theorem setT_ok {t : Tim} (h : t.Ok) (b : Int) : (setT t b).Ok := by
 unfold setT
 split
 ·exact ⟨(setTm_ok h _).rl, (setTm_ok h _).ct⟩
 ·exact setTm_ok h _
theorem mvM_in {m : Mach} (h : m.In) (k : Nat) : (mvM m k).In := by
 induction k with
 | zero => exact h
 | succ k ih => exact poke_in ih _ _ (plainF_u ih _)
theorem startA_in (m : Mach) : (startA m).In := by
 refine ⟨fun i => ?_, ?_⟩
 ·show U16 0; unfold U16; omega
 ·show U16 (auxG m 0 % 256 * 256 + auxG m 1 % 256); unfold U16; omega
theorem wp_loadA {P : Program} {o : Oper} {a : Act} {w : World} {K : Act → World → Prop} {Q : Exit → Act → World → Prop} (ty : TypeId) (x : Operand) (ho : o.op = .load ty x)
  (g off n : Nat) (hx : a.eval x = .pointer (some ⟨g, off, none⟩)) (t : TypeId) (cs sub : Array Value) (hg : Blk w g cs t) (d : TypeDesc)
  (hu : P.underlying ty = some d) (hd : (match d with | .struct _ | .array _ _ => true | _ => false) = true) (hi : (P.info? ty).map (·.size) = some n) (hsub : (cs.toList.drop off).take n = sub.toList) (hn : sub.toList.length = n)
  (h : K (a.put o.dst (.agg sub)) w) : o.wp P a w K Q := by
 unfold Oper.wp execOp
 simp only [ho, hx, Instr.loadAt, Instr.sureAddr, Sem.run_bind, Sem.run_pure, Result.andThen_ok, run_loadVar_at w g off n t ty cs sub d hg hu hd hi hsub hn]
 exact h
def lv1 (c : Cp) : Cp := c.reg 7 (sp c)
def lv2 (c : Cp) : Cp := (lv1 c).reg 7 (sp (lv1 c))
def lvM {σ : Type} (b : Bus σ) (m : σ) (c : Cp) : σ := pW b (pW b m (sp c) c.pc) (sp (lv1 c)) (sgn (lv1 c))
def lvC {σ : Type} (b : Bus σ) (m : σ) (c : Cp) (to : Int) : Cp := { lv2 c with may := false, wt := false, pc := wV b (lvM b m c) to }
def lvS {σ : Type} (b : Bus σ) (m : σ) (c : Cp) (to : Int) : σ := wS b (lvM b m c) to
end Go.Mq
namespace Go.Proofs.YtmppkjkmocecmaaGreatDoor
open Go.RowKit Go.Mq
theorem signed_any (c : Cp) (n : Int) (hn : U16 n) (w : World) : Calls Tryz.prog 102 #[.agg (cpuC c), .int .u16 n] w fun e w' => e = .returned (.agg (cpuC (signedF c n))) ∧ Below w.heap.size w w' := by
 unfold cpuC signedF
 simp only
 have q1 : (bits .and .u16 n 1 != 0) = bitOf n 1 := rfl
 have q2 : (bits .and .u16 n 2 != 0) = bitOf n 2 := rfl
 have q3 : (bits .and .u16 n 4 != 0) = bitOf n 4 := rfl
 have q4 : (bits .and .u16 n 8 != 0) = bitOf n 8 := rfl
 have q5 : (bits .and .u16 n 16 != 0) = bitOf n 16 := rfl
 generalize bitOf n 1 = x1 at *
 generalize bitOf n 2 = x2 at *
 generalize bitOf n 4 = x3 at *
 generalize bitOf n 8 = x4 at *
 generalize bitOf n 16 = x5 at *
 obtain ⟨n0, n1⟩ := hn
 go_enter Tryz.func102, Tryz.ntmps102
 go_wp2_with (first | ((with_reducible show wpList _ _ _ _ _ _); first | (refine lW 25 2 rfl rfl (w.heap.size) rfl #[.int .u16 (c.r 0), .int .u16 (c.r 1), .int .u16 (c.r 2), .int .u16 (c.r 3), .int .u16 (c.r 4), .int .u16 (c.r 5), .int .u16 (c.r 6), .int .u16 (c.r 7), .int .u16 c.pc, .bool x1, .bool x2, .bool x3, .bool x4, .bool x5, .bool c.wt] kB Tryz.underlying25 ?_) | (refine sW 25 4 25 rfl rfl (w.heap.size + 1) #[.int .u16 (c.r 0), .int .u16 (c.r 1), .int .u16 (c.r 2), .int .u16 (c.r 3), .int .u16 (c.r 4), .int .u16 (c.r 5), .int .u16 (c.r 6), .int .u16 (c.r 7), .int .u16 c.pc, .bool x1, .bool x2, .bool x3, .bool x4, .bool x5, .bool c.wt] rfl rfl #[.int .u16 0, .int .u16 0, .int .u16 0, .int .u16 0, .int .u16 0, .int .u16 0, .int .u16 0, .int .u16 0, .int .u16 0, .bool false, .bool false, .bool false, .bool false, .bool false, .bool false] kB ?_; intro w2 hp_w2 K_w2)))
 exact bodyPost_ret (results_cell_row Tryz.results102 _ _ (w.heap.size + 1) 25 _ (0, 0) _ rfl K_w2.out Tryz.underlying25 rfl kR) rfl ⟨rfl, kL⟩
theorem leave_any {fg fp : FuncId} {ag cg ap cp : Array Value} {σ : Type} {b : Bus σ} {Rel : World → σ → Prop} {B : Nat} (hb : BusOk Tryz.prog fg fp ag cg ap cp b Rel B) (m : σ) (hm : 4 ≤ b.room m) (c : Cp) (hi : c.In) (to : Int) (ht : U16 to) (cb : Nat) (hB : B ≤ cb) (w : World) (hr : Rel w m) (hc : Blk w cb (cpuC c) 25) :
  Calls Tryz.prog 67 #[.pointer (some ⟨cb, 0, none⟩), .agg #[.func (.func fg) ag cg, .func (.func fp) ap cp], .int .u16 to] w fun e w' => e = .returned (.tuple #[]) ∧ Blk w' cb (cpuC (lvC b m c to)) 25 ∧ Rel w' (lvS b m c to) ∧ Kp B (· = cb) w w' := by
 have P1 := Lib.hid (fun n hn w' => push_any hb m kO c hi n hn cb hB w')
 have hi1 : (lv1 c).In := Cp.reg_in hi 7 (sp_u c)
 have P2 := Lib.hid (fun n hn w' => push_any hb (pW b m (sp c) c.pc) (by have := room_pw hb m (sp c) c.pc; omega) (lv1 c) hi1 n hn cb hB w')
 have W := Lib.hid (fun w' => word_any hb (lvM b m c) to ht w')
 have HR := Lib.hid (fun w' (h : St B w w') => hb.stable w w' m hr h)
 have l0 := hc.lt
 have f0 := hc.free
 have KC := Lib.hid hc
 have g8 : (cpuC c)[8]? = some (.int .u16 c.pc) := rfl
 clear hr hc
 go_enter Tryz.func67, Tryz.ntmps67
 go_wp2_with (first | ((with_reducible show wpList _ _ _ _ _ _); first | (refine lW 25 2 rfl rfl (w.heap.size) rfl #[.int .u16 (c.r 0), .int .u16 (c.r 1), .int .u16 (c.r 2), .int .u16 (c.r 3), .int .u16 (c.r 4), .int .u16 (c.r 5), .int .u16 (c.r 6), .int .u16 (c.r 7), .int .u16 c.pc, .bool x1, .bool x2, .bool x3, .bool x4, .bool x5, .bool c.wt] kB Tryz.underlying25 ?_) | (refine sW 25 4 25 rfl rfl (w.heap.size + 1) #[.int .u16 (c.r 0), .int .u16 (c.r 1), .int .u16 (c.r 2), .int .u16 (c.r 3), .int .u16 (c.r 4), .int .u16 (c.r 5), .int .u16 (c.r 6), .int .u16 (c.r 7), .int .u16 c.pc, .bool x1, .bool x2, .bool x3, .bool x4, .bool x5, .bool c.wt] rfl rfl #[.int .u16 0, .int .u16 0, .int .u16 0, .int .u16 0, .int .u16 0, .int .u16 0, .int .u16 0, .int .u16 0, .int .u16 0, .bool false, .bool false, .bool false, .bool false, .bool false, .bool false] kB ?_; intro w2 hp_w2 K_w2)))
 refine wp_mark (R := fun W => Kp B (· = cb) w W ∧ Rel W m ∧ Hid (Blk W cb (cpuC c) 25) ∧ Hid (Blk W w.heap.size #[.func (.func fg) ag cg, .func (.func fp) ap cp] 125)) ⟨kP, HR.out _ kT, Lib.hid kB, Lib.hid kB⟩ ?_
 intro w1 ⟨hk1, hr1, hc1, hB1⟩
 have hs1 := hk1.size
 have c8 : w1.cell? ⟨cb, 8, none⟩ = some (.int .u16 c.pc) := hc1.out.cell 8
 refine wp_region_held_drew (S := fun W => Blk W (w.heap.size) (#[.func (.func fg) ag cg, .func (.func fp) ap cp]) 125) kR (Blk.drew (show Blk _ (w.heap.size) (#[.func (.func fg) ag cg, .func (.func fp) ap cp]) 125 from kB)) (fun hS => ?_)
 refine tH 0 hS ?_
 refine wpAnyH_take (i := 1) rfl kR kR kR (fun _ _ _ h => h) (yields_loadA (by rfl) 125 (.tmp 4) rfl (w.heap.size) 0 2 rfl 125 #[.func (.func fg) ag cg, .func (.func fp) ap cp] #[.func (.func fg) ag cg, .func (.func fp) ap cp] (fun W hSw => hSw) _ Tryz.underlying125 rfl kR rfl rfl) hS ?_
 try simp only [yA,yB,yC,Act.put,yD,yE,yF]
 refine tH 2 hS ?_
 refine tH 3 hS ?_
 try simp only [yA,yB,yC,Act.put,yD,yE,yF]
 refine tH 4 hS ?_
 refine rH 5 fun K hK => ?_
 go_simp
 refine hK.out _ _ (hS) (fun hS => ?_)
 clear hK K
 try simp only [yA,yB,yC,Act.put,yD,yE,yF]
 refine rH 6 fun K hK => ?_
 go_simp
 refine (P1.out c.pc hi.2 _ (hb.stable _ _ _ hr1 kT) hc1.out.drew).mono ?_
 rintro e w2 ⟨rfl, hc2, hr2, hk2⟩
 try go_wp2_with fail
 refine hK.out _ _ (hS.kp hk2 kO (by show ¬ (_ = _); omega)) (fun hS => ?_)
 clear hK K
 try simp only [yA,yB,yC,Act.put,yD,yE,yF]
 refine wpAnyH_done kR ?_ _
 have hB2 := Lib.hid hS
 have hk2' := hk1.drew.then hk2 (fun _ _ h => h)
 have hs2 := hk2'.size
 clear hS c8
 go_wp2_with (first | ((with_reducible show wpList _ _ _ _ _ _); first | (refine lW 25 2 rfl rfl (w.heap.size) rfl #[.int .u16 (c.r 0), .int .u16 (c.r 1), .int .u16 (c.r 2), .int .u16 (c.r 3), .int .u16 (c.r 4), .int .u16 (c.r 5), .int .u16 (c.r 6), .int .u16 (c.r 7), .int .u16 c.pc, .bool x1, .bool x2, .bool x3, .bool x4, .bool x5, .bool c.wt] kB Tryz.underlying25 ?_) | (refine sW 25 4 25 rfl rfl (w.heap.size + 1) #[.int .u16 (c.r 0), .int .u16 (c.r 1), .int .u16 (c.r 2), .int .u16 (c.r 3), .int .u16 (c.r 4), .int .u16 (c.r 5), .int .u16 (c.r 6), .int .u16 (c.r 7), .int .u16 c.pc, .bool x1, .bool x2, .bool x3, .bool x4, .bool x5, .bool c.wt] rfl rfl #[.int .u16 0, .int .u16 0, .int .u16 0, .int .u16 0, .int .u16 0, .int .u16 0, .int .u16 0, .int .u16 0, .int .u16 0, .bool false, .bool false, .bool false, .bool false, .bool false, .bool false] kB ?_; intro w2 hp_w2 K_w2)))
 refine wp_region_held_drew (S := fun W => Blk W (w.heap.size) (#[.func (.func fg) ag cg, .func (.func fp) ap cp]) 125) kR (Blk.drew (show Blk _ (w.heap.size) (#[.func (.func fg) ag cg, .func (.func fp) ap cp]) 125 from kB)) (fun hS => ?_)
 refine tH 0 hS ?_
 refine wpAnyH_take (i := 1) rfl kR kR kR (fun _ _ _ h => h) (yields_loadA (by rfl) 125 (.tmp 4) rfl (w.heap.size) 0 2 rfl 125 #[.func (.func fg) ag cg, .func (.func fp) ap cp] #[.func (.func fg) ag cg, .func (.func fp) ap cp] (fun W hSw => hSw) _ Tryz.underlying125 rfl kR rfl rfl) hS ?_
 try simp only [yA,yB,yC,Act.put,yD,yE,yF]
 refine tH 2 hS ?_
 refine tH 3 hS ?_
 try simp only [yA,yB,yC,Act.put,yD,yE,yF]
 refine rH 4 fun K hK => ?_
 rw [if_pos (by rfl)]
 refine wp_loadA 25 (.tmp 16) rfl (cb) 0 15 rfl 25 (cpuC (lv1 c)) (cpuC (lv1 c)) (hc2.drew) _ Tryz.underlying25 rfl kR rfl rfl ?_
 refine hK.out _ _ hS (fun hS => ?_)
 clear hK K
 try simp only [yA,yB,yC,Act.put,yD,yE,yF]
 refine rH 5 fun K hK => ?_
 go_simp
 refine (sign_any (lv1 c) _).mono ?_
 rintro e w3 ⟨rfl, hb3⟩
 try go_wp2_with fail
 refine hK.out _ _ (hS.below hb3) (fun hS => ?_)
 clear hK K
 try simp only [yA,yB,yC,Act.put,yD,yE,yF]
 refine rH 6 fun K hK => ?_
 go_simp
 refine (P2.out (sgn (lv1 c)) (sgn_u _) _ (hb.stable _ _ _ hr2 (St.drewl (St.of hb3 om7 (by first | omega | (simp; done) | (simp; omega))))) (hc2.drew.below hb3)).mono ?_
 rintro e w4 ⟨rfl, hc4, hr4, hk4⟩
 try go_wp2_with fail
 refine hK.out _ _ (hS.kp hk4 kO (by show ¬ (_ = _); omega)) (fun hS => ?_)
 clear hK K
 try simp only [yA,yB,yC,Act.put,yD,yE,yF]
 refine wpAnyH_done kR ?_ _
 have hk4' := (hk2'.drew.below hb3 om7).then hk4 (fun _ _ h => h)
 have KB4 := Lib.hid hS
 have KC4 := Lib.hid hc4
 have hs4 := hk4'.size
 have l4 := hc4.lt
 have f4 := hc4.free
 have c8 : w4.cell? ⟨cb, 8, none⟩ = some (.int .u16 c.pc) := hc4.cell 8
 have c13 : w4.cell? ⟨cb, 13, none⟩ = some (.bool c.may) := hc4.cell 13
 have c14 : w4.cell? ⟨cb, 14, none⟩ = some (.bool c.wt) := hc4.cell 14
 clear hS hB2
 obtain ⟨lB, cB, fB⟩ := KB4.out.use
 go_wp2_with (first | ((with_reducible show wpList _ _ _ _ _ _); refine lW 125 4 rfl rfl (w.heap.size) rfl #[.func (.func fg) ag cg, .func (.func fp) ap cp] kB Tryz.underlying125 ?_))
 refine (W.out _ (hb.stable _ _ _ hr4 kT) om7).mono ?_
 rintro e w5 ⟨rfl, hr5, hk5⟩
 have hc5 : Blk w5 cb (cpuC { lv2 c with may := false, wt := false }) 25 := Blk.kp (show Blk _ cb (cpuC { lv2 c with may := false, wt := false }) 25 from kB) hk5 kO id
 have hk5' : Kp B (· = cb) w w5 := Kp.then kP hk5 (fun _ _ h => h.elim)
 have KC5 := Lib.hid hc5
 have hs5 := hk5'.size
 have l5 := hc5.lt
 have f5 := hc5.free
 have c85 : w5.cell? ⟨cb, 8, none⟩ = some (.int .u16 c.pc) := hc5.cell 8
 clear c8 c13 c14 f4 cB fB
 go_wp2_with (first | ((with_reducible show wpList _ _ _ _ _ _); refine lW 125 4 rfl rfl (w.heap.size) rfl #[.func (.func fg) ag cg, .func (.func fp) ap cp] kB Tryz.underlying125 ?_) | go_in)
 exact bodyPost_end (results_none rfl _ _ _) rfl ⟨rfl, kB, hb.stable _ _ _ hr5 kT, kP⟩
end Go.Proofs.YtmppkjkmocecmaaGreatDoor
namespace Go.Mq
open Go.RowKit
section
variable {P : Program} {w : World}
@[go_sem] theorem run_store_func (a : Addr) (f : Fn) (x y : Array Value) (m : Mode) : (store a (.func f x y) m).run P w = stored P w a (.func f x y) m := run_store P w a _ m rfl
@[go_sem] theorem run_store_nilFunc (a : Addr) (m : Mode) : (store a .nilFunc m).run P w = stored P w a .nilFunc m := run_store P w a _ m rfl
end
def Cp.fl (c : Cp) (z n cr v : Bool) : Cp := { c with z := z, n := n, c := cr, v := v }
theorem Drew.st {B : Nat} {w w' : World} (h : Drew w w') : St B w w' := ⟨h.below B, fun k _ => by rw [h.heap]⟩
theorem St.mono {B C : Nat} {w w' : World} (h : St C w w') (hB : B ≤ C) : St B w w' := ⟨h.below.mono hB, h.keep⟩
end Go.Mq
namespace Go.Proofs.YtmppkjkmocecmaaGreatDoor
open Go.RowKit Go.Mq
theorem flg_any (c : Cp) (n : Int) (z ng cr v : Bool) (cb x B : Nat) (hB : B ≤ cb) (hx : x ≠ cb) (w : World) (hc : Blk w cb (cpuC c) 25) (hxb : Blk w x #[.pointer (some ⟨cb, 0, none⟩)] 154) :
  Calls Tryz.prog 94 #[.int .u16 n, .bool z, .bool ng, .bool cr, .bool v, .pointer (some ⟨x, 0, none⟩)] w fun e w' => e = .returned (.int .u16 n) ∧ Blk w' cb (cpuC (c.fl z ng cr v)) 25 ∧ Kp B (· = cb) w w' ∧ St cb w w' := by
 have KC := Lib.hid hc
 have KX := Lib.hid hxb
 obtain ⟨lx, cx, fx⟩ := hxb.use
 have lc := hc.lt
 have fc := hc.free
 have c9 : w.cell? ⟨cb, 9, none⟩ = some (.bool c.z) := hc.cell 9
 have c10 : w.cell? ⟨cb, 10, none⟩ = some (.bool c.n) := hc.cell 10
 have c11 : w.cell? ⟨cb, 11, none⟩ = some (.bool c.c) := hc.cell 11
 have c12 : w.cell? ⟨cb, 12, none⟩ = some (.bool c.v) := hc.cell 12
 clear hc hxb
 go_enter Tryz.func94, Tryz.ntmps94
 go_wp2_with fail
 go_region
 go_wp2
 go_ret
 exact ⟨rfl, kB, kP, kT⟩
theorem moved_any (c : Cp) (n er : Int) (hn : U16 n) (cr : Bool) (D : Nat) (hD : D < 8) (cb x B p q : Nat) (hB : B ≤ cb) (hx : x ≠ cb) (hp : p ≠ cb) (hq : q ≠ cb) (hBp : B ≤ p) (hBq : B ≤ q) (w : World) (hc : Blk w cb (cpuC c) 25) (hxb : Blk w x #[.pointer (some ⟨cb, 0, none⟩)] 154)
  (hpb : Blk w p #[.func (.func 94) #[] #[.pointer (some ⟨x, 0, none⟩)]] 184) (hqb : Blk w q #[.pointer (some ⟨cb, D, none⟩)] 183) :
  Calls Tryz.prog 95 #[.int .u16 n, .bool cr, .int .i64 er, .pointer (some ⟨p, 0, none⟩), .pointer (some ⟨q, 0, none⟩)] w fun e w' => e = .returned (.tuple #[]) ∧ Blk w' cb (cpuC ((c.fl (n == 0) (decide (32768 ≤ n)) cr false).reg D n)) 25 ∧ Kp B (· = cb) w w' ∧ St cb w w' := by
 have F := Lib.hid (fun w' => flg_any c n (n == 0) (decide (32768 ≤ n)) cr false cb x B hB hx w')
 have KC := Lib.hid hc
 have KX := Lib.hid hxb
 have hh : (n / 32768 == 1) = decide (32768 ≤ n) := by unfold U16 at hn; rw [Bool.eq_iff_iff]; simp; omega
 have nn := hn.1
 have nn2 := hn.2
 clear hc hxb hn
 have lp := hpb.lt
 have lq := hqb.lt
 have KP := Lib.hid hpb
 have KQ := Lib.hid hqb
 clear hpb hqb
 go_enter Tryz.func95, Tryz.ntmps95
 refine wp_region_held_drew (S := fun W => Blk W (p) (#[.func (.func 94) #[] #[.pointer (some ⟨x, 0, none⟩)]]) 184 ∧ Blk W (q) (#[.pointer (some ⟨cb, D, none⟩)]) 183) kR ⟨Blk.drew (show Blk _ (p) (#[.func (.func 94) #[] #[.pointer (some ⟨x, 0, none⟩)]]) 184 from kB), Blk.drew (show Blk _ (q) (#[.pointer (some ⟨cb, D, none⟩)]) 183 from kB)⟩ (fun hS => ?_)
 refine tI 0 rfl (by intro w hSw; have c0 := (hSw.1).cell; have c1 := (hSw.2).cell; go_simp; try with_reducible rfl) hS ?_
 refine tI 1 rfl (by intro w hSw; have c0 := (hSw.1).cell; have c1 := (hSw.2).cell; go_simp; try with_reducible rfl) hS ?_
 refine tH 2 hS ?_
 refine tH 3 hS ?_
 try simp only [yA,yB,yC,Act.put,yD,yE,yF]
 refine tH 4 hS ?_
 refine tH 5 hS ?_
 refine tH 6 hS ?_
 refine tH 7 hS ?_
 try simp only [yA,yB,yC,Act.put,yD,yE,yF]
 refine tH 8 hS ?_
 refine rH 9 fun K hK => ?_
 go_simp
 refine (F.out _ KC.out.drew KX.out.drew).mono ?_
 rintro e w1 ⟨rfl, hc1, hk1, hb1⟩
 try go_wp2_with fail
 refine hK.out _ _ ⟨hS.1.kp hk1 kO (by show ¬ (_ = _); omega), hS.2.kp hk1 kO (by show ¬ (_ = _); omega)⟩ (fun hS => ?_)
 clear hK K
 try simp only [yA,yB,yC,Act.put,yD,yE,yF]
 refine tH 10 hS ?_
 have g1 : w1.cell? ⟨cb, D, none⟩ = some (.int .u16 (c.r D)) := (hc1.cell D).trans (cpuC_get _ D hD); have g2 := hc1.free; have g3 := hc1.lt
 refine rH 11 fun K hK => ?_
 go_simp
 refine hK.out _ _ ⟨hS.1.setAt (by show _ ≠ cb; omega), hS.2.setAt (by show _ ≠ cb; omega)⟩ (fun hS => ?_)
 clear hK K
 try simp only [yA,yB,yC,Act.put,yD,yE,yF]
 refine wpAnyH_done kR ?_ _
 go_wp2
 exact bodyPost_end (results_none rfl _ _ _) rfl ⟨rfl, Blk.set hc1 (cpuC_set _ D hD n), (((Kp.refl B (· = cb) w).drew.trans hk1)).setCell (Or.inr rfl), ((St.refl cb w).drew.trans hb1).setCell (Nat.le_refl cb) (Or.inr (Blk.nw KC.out kD)) _⟩
end Go.Proofs.YtmppkjkmocecmaaGreatDoor
