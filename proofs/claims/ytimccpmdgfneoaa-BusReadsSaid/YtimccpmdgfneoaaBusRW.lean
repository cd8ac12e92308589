/- bus.Read and bus.Write. Conditions: the machine's memories are slices of bytes, its fields what their types hold. -/
import Derived.Test.YtimccpmdgfneoaaBusChk
import Derived.Test.YtimccpmdgfneoaaBxM
namespace Go.Mq
open Go.RowKit
def memT : TypeId := 70
/-- the box that is made of a copy -/
theorem relX_new {T : TypeId} {w W : World} {U : Nat → Value} {m : Mach} (h : Fresh w W U m) (hf : m.Fit) (hi : m.In) {W' : World} {bb : Nat} (hb : bb = W.heap.size) (hB : Below W.heap.size W W') (hk : Blk W' bb (boxC U ⟨m, [], 0⟩ (.slice none 0 0)) T) :
    RelX T w U bb w.heap.size W' ⟨m, [], 0⟩ ∧ LiesX U bb (bb + 1) w.heap.size := by
  subst hb
  have s := h.below.size
  refine ⟨⟨below_then h.below hB, ⟨_, hk, World.ownsRow_nil _ _ _ _⟩, fun i hi => own_base (own_below (h.own i hi) hB) (Nat.zero_le _), hf, hi⟩, ⟨s, by omega, fun i g hi hg => ?_, h.ap⟩⟩
  have := (h.own i hi).lt g hg
  omega
theorem Mach.Right.lens {m : Mach} (h : m.Right) : ∀ i, i < 5 → (m.mem i).length ≤ 1000000 := fun i hi => by
  have := h.fit.l0
  have := h.fit.l1
  have := h.fit.l2
  have := h.fit.l3
  have := h.fit.l4
  match i, hi with
  | 0, _ => omega
  | 1, _ => omega
  | 2, _ => omega
  | 3, _ => omega
  | 4, _ => omega
theorem wp_storeW {P : Program} {o : Oper} {a : Act} {w : World} {K : Act → World → Prop} {Q : Exit → Act → World → Prop} (ty : TypeId) (x y : Operand) (ho : o.op = .store ty x y)
    (g : Nat) (cells : Array Value) (hx : a.eval x = .pointer (some ⟨g, 0, none⟩)) (hy : a.eval y = .agg cells)
    (t : TypeId) (old : Array Value) (hg : Blk w g old t) (hi : (P.info? ty).map (·.size) = some cells.size)
    (hold : old.size = cells.size) (h1 : cells.all (·.oneCell') = true)
    (h : ∀ w', Put g w w' → Hid (Blk w' g cells t) → K (a.put o.dst undef) w') : o.wp P a w K Q :=
  wp_store_row ty x y ho g cells hx hy t old hg hi hold h1 (h _ (put_setRow w g cells) (Lib.hid (setRow_heap w g old cells t (0, 0) hg)))
/-- what a box's machine is told as -/
structure ToldM (w w' : World) (U : Nat → Value) (m : Mach) : Prop where
  below : Below w.heap.size w w'
  mv : MV w' U m
  inn : m.In
  fit : m.Fit
  new : ∀ i g, i < 5 → (U i).ownBlock = some g → w.heap.size ≤ g
theorem byte_wf8 {xs : List Int} (h : Bytes8 xs) : ∀ x ∈ xs, (Lit.int .u8 x).wf = true := fun x hx => by
  have := h x hx
  simp only [Lit.wf, Bool.and_eq_true, decide_eq_true_eq]
  exact ⟨this.1, Int.le_trans this.2 (by decide)⟩
theorem RelX.mv {T : TypeId} {w0 : World} {V : Nat → Value} {bb H : Nat} {w : World} {x : Bx} (h : RelX T w0 V bb H w x) : MV w V x.m := fun i hi => own_slice (h.mems i hi) (byte_wf8 (h.inn.mem i))
theorem own_putAt {w w' : World} {base size n g : Nat} {e : TypeId} {v : Value} {xs : List Value} (h : w.ownsRow base e size v n xs) (hp : Put g w w') (hne : ∀ b, v.ownBlock = some b → b ≠ g) : w'.ownsRow base e size v n xs := by
  refine ⟨h.1, ?_⟩
  rcases h.2 with hn | ⟨g', cap, cur, rfl, hbg, hgg, rest⟩
  · exact .inl hn
  · exact .inr ⟨g', cap, cur, rfl, hbg, by rw [hp.other g' (hne g' rfl)]; exact hgg, rest⟩
theorem RelX.mv_put {T : TypeId} {w0 : World} {V : Nat → Value} {bb B H : Nat} {w w' : World} {x : Bx} (h : RelX T w0 V bb H w x) (L : LiesX V bb B H) {g : Nat} (hg : g < H) (hp : Put g w w') : MV w' V x.m := fun i hi =>
  own_slice (own_putAt (h.mems i hi) hp (fun b hb => by have := (L.own i b hi hb).1; omega)) (byte_wf8 (h.inn.mem i))
theorem ToldM.keep {w w1 : World} {U : Nat → Value} {m : Mach} (h : ToldM w w1 U m) {w2 : World} {g0 : Nat} (hg0 : g0 < w.heap.size) (hp : Put g0 w1 w2) : MV w2 U m := fun i hi => by
  obtain ⟨a, c, hv, q1, q2, q3, q4⟩ := h.mv i hi
  refine ⟨a, c, hv, q1, q2, q3, fun h0 => ?_⟩
  obtain ⟨b, off, rfl, hlt, hc⟩ := q4 h0
  have hn := h.new i b hi (by rw [hv]; rfl)
  refine ⟨b, off, rfl, by rw [hp.size]; exact hlt, fun k hk => ?_⟩
  have : w2.cell? ⟨b, off + k, none⟩ = w1.cell? ⟨b, off + k, none⟩ := by
    simp only [World.cell?, hp.other b (by omega)]
  rw [this]
  exact hc k hk
end Go.Mq
namespace Go.Proofs.Ytimccpmdgfneoaa
open Go.RowKit Go.Mq
set_option linter.unusedVariables false
set_option linter.unusedSimpArgs false
set_option maxHeartbeats 2000000
set_option maxRecDepth 100000
def readV (m : Mach) (aux : Bool) (a : Int) : Int := if aux then auxG m a else mainG m a
def readX (m : Mach) (aux : Bool) (a : Int) : Mach := if aux then (auxGS ⟨m, [], 0⟩ a).m else (mainGS ⟨m, [], 0⟩ a).m
def writeX (m : Mach) (aux : Bool) (a b : Int) : Bx := if aux then auxP ⟨m, [], 0⟩ a b else mainP ⟨m, [], 0⟩ a b
def machZ : Mach := ⟨start0 0, start0 0, fun _ => [], ⟨0, false, 0⟩, ⟨0, false, 0⟩, ⟨0, 0, false, false⟩, ⟨⟨0, 0, 0, false, 0⟩, ⟨0, 0, 0, false, 0⟩, ⟨0, 0, 0, false, 0⟩, 0⟩, ⟨0, 0, false, 0⟩, 0, 0, false, false, 0, 0, false, 0, 0, 0⟩
def nilV : Nat → Value := fun _ => .slice none 0 0
theorem zeroM : Try.zeroCells41 = machC nilV machZ := by kernel_rfl
theorem zeroM_one : (Try.zeroCells41).all (·.oneCell') = true := by kernel_rfl
theorem box_new (U : Nat → Value) (m : Mach) : Array.foldl (fun cs (x : Value × Nat) => cs.setIfInBounds x.snd x.fst) Try.zeroCells70 (machC U m).zipIdx 0 75 = boxC U ⟨m, [], 0⟩ (.slice none 0 0) := by kernel_rfl
theorem results_ctt {P : Program} {fn : Func} {p u v : Tmp} {ty : TypeId} (h : fn.results = #[.cell p ty, .tmp u, .tmp v]) (tmps : Array Value) (w : World) (g : Nat) (tb : TypeId) (cs : Array Value) (d : TypeDesc)
    (hp : tmps.getD p undef = .pointer (some ⟨g, 0, none⟩)) (hg : Blk w g cs tb)
    (hu : P.underlying ty = some d) (hd : (match d with | .struct _ | .array _ _ => true | _ => false) = true) (hi : (P.info? ty).map (·.size) = some cs.size) :
    (results fn tmps).run P w = .ok (.tuple #[.agg cs, tmps.getD u undef, tmps.getD v undef]) w := by
  have hp' : tmps[p]?.getD undef = .pointer (some ⟨g, 0, none⟩) := by simpa using hp
  simp [results, h, hp', asAddr, run_loadVar_row w g tb ty cs (0, 0) d hg hu hd hi]
theorem read_bad (V : Nat → Value) (m : Mach) (aux : Bool) (a : Int) (w : World) (hm : MV w V m) (h : ¬ m.Right) :
    Calls Try.prog 16 #[.agg (machC V m), .bool aux, .int .u16 a] w fun e w' => e = .returned (.tuple #[.int .u8 0, .agg Try.zeroCells41, .int .i64 (chk m)]) ∧ Below w.heap.size w w' := by
  have CK := Lib.hid (fun W (k : Below w.heap.size w W) => check_any V m W (hm.below k))
  have hc : chk m ≠ 0 := fun e => h ((chk_zero m).1 e)
  have ON := Lib.hid (machC_one m (fun i hi => hm.one i hi))
  obtain ⟨c, ec⟩ : ∃ c, c = chk m := ⟨_, rfl⟩
  rw [← ec] at CK hc ⊢
  have hcb : (c != 0) = true := by rw [bne_iff_ne]; exact hc
  clear hm h ec hc
  have ONZ := zeroM_one
  go_enter Try.func16, Try.ntmps16
  go_wp2_with (first | ((with_reducible show wpList _ _ _ _ _ _); refine wpList_loadW rfl 41 (.tmp 3) rfl (w.heap.size) rfl 41 (machC V m) (show Blk _ (w.heap.size) (machC V m) 41 from (by repeat' (first | (with_reducible first | exact Hid.out (by assumption) | exact Blk.new _ _ _ | (refine Blk.new_at _ _ _ _ ?_; simp; done) | refine Blk.alloc ?_ _ | refine Blk.drewN ?_ _ | refine Blk.drew ?_ | apply Blk.set | refine Blk.put ?_ (by assumption) (by first | (simp; done) | (simp; omega) | omega) | refine Blk.below ?_ (by assumption)) | (refine Blk.setAt ?_ (by first | (simp; done) | (simp; omega))) | rfl))) _ Try.underlying41 rfl (by kernel_rfl) ?_))
  refine (CK.out _ (by repeat' (first | (with_reducible first | exact Below.refl _ _ | assumption | refine below_alloc ?_ _ | refine Below.drew ?_ | refine below_drewN ?_ _ | refine below_then ?_ (by assumption) | refine below_put ?_ (by assumption) (by first | (simp; done) | (simp; omega) | omega) | refine Below.setCell ?_ ?_ _) | (simp; done) | (simp; omega) | omega))).mono ?_
  rintro e w1 ⟨rfl, hb1⟩
  go_wp2_with (first | ((with_reducible show wpList _ _ _ _ _ _); refine wpList_storeW rfl 41 (.tmp 7) (.tmp 17) rfl (w.heap.size + 1) Try.zeroCells41 rfl rfl 41 _ (show Blk _ (w.heap.size + 1) Try.zeroCells41 41 from (by repeat' (first | (with_reducible first | exact Hid.out (by assumption) | exact Blk.new _ _ _ | (refine Blk.new_at _ _ _ _ ?_; simp; done) | refine Blk.alloc ?_ _ | refine Blk.drewN ?_ _ | refine Blk.drew ?_ | apply Blk.set | refine Blk.put ?_ (by assumption) (by first | (simp; done) | (simp; omega) | omega) | refine Blk.below ?_ (by assumption)) | (refine Blk.setAt ?_ (by first | (simp; done) | (simp; omega))) | rfl))) (by kernel_rfl) rfl (by first | (with_reducible assumption) | simp [Value.oneCell']) ?_; intro w2 hp_w2 K_w2))
  exact bodyPost_ret (results_tct Try.results16 _ _ (w.heap.size + 1) 41 _ _ rfl K_w2.out Try.underlying41 rfl (by kernel_rfl)) rfl ⟨rfl, by repeat' (first | (with_reducible first | exact Below.refl _ _ | assumption | refine below_alloc ?_ _ | refine Below.drew ?_ | refine below_drewN ?_ _ | refine below_then ?_ (by assumption) | refine below_put ?_ (by assumption) (by first | (simp; done) | (simp; omega) | omega) | refine Below.setCell ?_ ?_ _) | (simp; done) | (simp; omega) | omega)⟩
theorem read_main (V : Nat → Value) (m : Mach) (a : Int) (ha : U16 a) (w : World) (hm : MV w V m) (hi : m.In) (h : m.Right) :
    Calls Try.prog 16 #[.agg (machC V m), .bool false, .int .u16 a] w fun e w' => ∃ U, e = .returned (.tuple #[.int .u8 (readV m false a), .agg (machC U (readX m false a)), .int .i64 0]) ∧ ToldM w w' U (readX m false a) := by
  obtain ⟨X, hX⟩ : ∃ X, X = mainGS ⟨m, [], 0⟩ a := ⟨_, rfl⟩
  have eX : readX m false a = X.m := by unfold readX; rw [if_neg Bool.false_ne_true, hX]
  rw [eX]
  have GT := Lib.hid (fun (w0 : World) (V : Nat → Value) (bb B H : Nat) (L : LiesX V bb B H) (w : World) (h : RelX 70 w0 V bb H w ⟨m, [], 0⟩) (hB : B ≤ w.heap.size) => @mainGet_any w0 V bb B H L w ⟨m, [], 0⟩ a ha h hB)
  rw [← hX] at GT
  have eV : readV m false a = mainG m a := by unfold readV; rw [if_neg Bool.false_ne_true]
  rw [eV]
  clear hX eX eV
  have CK := Lib.hid (fun W (k : Below w.heap.size w W) => check_any V m W (hm.below k))
  rw [(chk_zero m).2 h] at CK
  have CP := Lib.hid (fun W (k : Below w.heap.size w W) => copy_any V m W (hm.below k) h.lens)
  have ON := Lib.hid (machC_one m (fun i hi => hm.one i hi))
  have HF := Lib.hid (And.intro h.fit hi)
  have BN := Lib.hid box_new
  clear hm h hi
  go_enter Try.func16, Try.ntmps16
  go_wp2_with (first | ((with_reducible show wpList _ _ _ _ _ _); refine wpList_loadW rfl 41 (.tmp 3) rfl (w.heap.size) rfl 41 (machC V m) (show Blk _ (w.heap.size) (machC V m) 41 from (by repeat' (first | (with_reducible first | exact Hid.out (by assumption) | exact Blk.new _ _ _ | (refine Blk.new_at _ _ _ _ ?_; simp; done) | refine Blk.alloc ?_ _ | refine Blk.drewN ?_ _ | refine Blk.drew ?_ | apply Blk.set | refine Blk.put ?_ (by assumption) (by first | (simp; done) | (simp; omega) | omega) | refine Blk.below ?_ (by assumption)) | (refine Blk.setAt ?_ (by first | (simp; done) | (simp; omega))) | rfl))) _ Try.underlying41 rfl (by kernel_rfl) ?_))
  refine (CK.out _ (by repeat' (first | (with_reducible first | exact Below.refl _ _ | assumption | refine below_alloc ?_ _ | refine Below.drew ?_ | refine below_drewN ?_ _ | refine below_then ?_ (by assumption) | refine below_put ?_ (by assumption) (by first | (simp; done) | (simp; omega) | omega) | refine Below.setCell ?_ ?_ _) | (simp; done) | (simp; omega) | omega))).mono ?_
  rintro e w1 ⟨rfl, hb1⟩
  have s1 := hb1.size
  have K1 := Lib.hid (show Blk w1 w.heap.size (machC V m) 41 from (by repeat' (first | (with_reducible first | exact Hid.out (by assumption) | exact Blk.new _ _ _ | (refine Blk.new_at _ _ _ _ ?_; simp; done) | refine Blk.alloc ?_ _ | refine Blk.drewN ?_ _ | refine Blk.drew ?_ | apply Blk.set | refine Blk.put ?_ (by assumption) (by first | (simp; done) | (simp; omega) | omega) | refine Blk.below ?_ (by assumption)) | (refine Blk.setAt ?_ (by first | (simp; done) | (simp; omega))) | rfl)))
  have Z1 := Lib.hid (show Blk w1 (w.heap.size + 1) Try.zeroCells41 41 from (by repeat' (first | (with_reducible first | exact Hid.out (by assumption) | exact Blk.new _ _ _ | (refine Blk.new_at _ _ _ _ ?_; simp; done) | refine Blk.alloc ?_ _ | refine Blk.drewN ?_ _ | refine Blk.drew ?_ | apply Blk.set | refine Blk.put ?_ (by assumption) (by first | (simp; done) | (simp; omega) | omega) | refine Blk.below ?_ (by assumption)) | (refine Blk.setAt ?_ (by first | (simp; done) | (simp; omega))) | rfl)))
  have B1 : Below w.heap.size w w1 := by repeat' (first | (with_reducible first | exact Below.refl _ _ | assumption | refine below_alloc ?_ _ | refine Below.drew ?_ | refine below_drewN ?_ _ | refine below_then ?_ (by assumption) | refine below_put ?_ (by assumption) (by first | (simp; done) | (simp; omega) | omega) | refine Below.setCell ?_ ?_ _) | (simp; done) | (simp; omega) | omega)
  clear hb1
  go_wp2_with (first | ((with_reducible show wpList _ _ _ _ _ _); refine wpList_loadW rfl 41 (.tmp 3) rfl (w.heap.size) rfl 41 (machC V m) (show Blk _ (w.heap.size) (machC V m) 41 from (by repeat' (first | (with_reducible first | exact Hid.out (by assumption) | exact Blk.new _ _ _ | (refine Blk.new_at _ _ _ _ ?_; simp; done) | refine Blk.alloc ?_ _ | refine Blk.drewN ?_ _ | refine Blk.drew ?_ | apply Blk.set | refine Blk.put ?_ (by assumption) (by first | (simp; done) | (simp; omega) | omega) | refine Blk.below ?_ (by assumption)) | (refine Blk.setAt ?_ (by first | (simp; done) | (simp; omega))) | rfl))) _ Try.underlying41 rfl (by kernel_rfl) ?_))
  refine (CP.out _ B1).mono ?_
  rintro e w2 ⟨U, rfl, FR⟩
  have q1 : w.heap.size + 2 ≤ w1.heap.size := by simpa using s1
  have s2 := FR.below.size
  have Z2 := Lib.hid (Z1.out.below FR.below)
  have B2 : Below w.heap.size w w2 := below_then B1 FR.below
  have FH := Lib.hid FR
  clear K1 FR s1 CK CP
  go_wp2_with fail
  rw [BN.out]
  refine (mkmain_any w2.heap.size _).mono ?_
  rintro e w3 ⟨rfl, hb3⟩
  have s3 := hb3.size
  have q3 : w2.heap.size + 1 ≤ w3.heap.size := by simpa using s3
  have Z3 := Lib.hid ((Z2.out.alloc _).below hb3)
  have NX := Lib.hid (relX_new FH.out HF.out.1 HF.out.2 (W' := w3) (bb := w2.heap.size) (T := 70) rfl (((Below.refl _ _).alloc (Nat.le_refl _) _).trans (hb3.mono (by simp))) ((Blk.new w2 _ _).below hb3))
  have B3 : Below w.heap.size w w3 := B2.trans (((Below.refl w2.heap.size w2).alloc (Nat.le_refl _) _).trans (hb3.mono (by simp)) |>.mono (by omega))
  clear hb3 B2 BN FH s3
  go_wp2_with (first | (((with_reducible show wpList _ _ _ _ _ _); refine wpList_storeW rfl 72 (.tmp 11) (.tmp 24) rfl (w3.heap.size) #[.func (.func 45) #[.pointer (some ⟨w2.heap.size, 0, none⟩)] #[], .func (.func 46) #[.pointer (some ⟨w2.heap.size, 0, none⟩)] #[]] rfl rfl 72 _ (show Blk _ (w3.heap.size) #[.nilFunc, .nilFunc] 72 from (by repeat' (first | (with_reducible first | exact Hid.out (by assumption) | exact Blk.new _ _ _ | (refine Blk.new_at _ _ _ _ ?_; simp; done) | refine Blk.alloc ?_ _ | refine Blk.drewN ?_ _ | refine Blk.drew ?_ | apply Blk.set | refine Blk.put ?_ (by assumption) (by first | (simp; done) | (simp; omega) | omega) | refine Blk.below ?_ (by assumption)) | (refine Blk.setAt ?_ (by first | (simp; done) | (simp; omega))) | rfl))) (by kernel_rfl) rfl (by first | (with_reducible assumption) | simp [Value.oneCell']) ?_; intro w4 hp_w4 K_w4); obtain ⟨l4, c4, f4⟩ := K_w4.out.use))
  have q4 : w3.heap.size + 1 ≤ w4.heap.size := by have := hp_w4.size; simp at this; omega
  refine (GT.out _ _ _ _ _ NX.out.2 _ (NX.out.1.stable NX.out.2 (St.of (n := w3.heap.size) (by repeat' (first | (with_reducible first | exact Below.refl _ _ | assumption | refine below_alloc ?_ _ | refine Below.drew ?_ | refine below_drewN ?_ _ | refine below_then ?_ (by assumption) | refine below_put ?_ (by assumption) (by first | (simp; done) | (simp; omega) | omega) | refine Below.setCell ?_ ?_ _) | (simp; done) | (simp; omega) | omega)) (by omega) (Nat.le_refl _))) (by omega)).mono ?_
  rintro e w6 ⟨rfl, hr6, hk6⟩
  have s6 := hk6.size
  have Z6 := Lib.hid (Z1.out.below hr6.old)
  have R6 := Lib.hid hr6
  obtain ⟨-, ⟨wv, hbx, -⟩, -, -, -⟩ := hr6
  have KB6 := Lib.hid hbx
  have ONU := machC_one (V := U) X.m (fun i hi => by obtain ⟨a', c', h'⟩ := own_shape (R6.out.mems i hi); rw [h']; rfl)
  have zs : (Try.zeroCells41).size = 75 := by kernel_rfl
  have LX := Lib.hid NX.out.2
  clear hbx hk6 Z3 NX B3
  go_wp2_with fail
  refine wp_region_F (fun k W => (k = 4 → Blk W (w2.heap.size) (boxC U X wv) 70)) [0, 1, 2, 3, 4, 5, 7] (by kernel_rfl) ?_
  refine wpAnyF_take (i := 0) (v := ?v0_1) rfl (by kernel_rfl) (by kernel_rfl) (by kernel_rfl) (by kernel_rfl) (fun _ _ _ h => h) (Or.inl ⟨by rfl, ?y0_1⟩) (fun h => absurd h (by decide)) ?_
  case y0_1 => (intro w hF; clear hF; go_simp; try with_reducible rfl)
  try simp only [List.getElem_toArray, List.getElem_cons_succ, List.getElem_cons_zero, Act.put, List.setIfInBounds_toArray, List.set_cons_zero, List.set_cons_succ]
  refine wpAnyF_take (i := 1) (v := ?v1_1) rfl (by kernel_rfl) (by kernel_rfl) (by kernel_rfl) (by kernel_rfl) (fun _ _ _ h => h) (Or.inl ⟨by rfl, ?y1_1⟩) (fun h => absurd h (by decide)) ?_
  case y1_1 => (intro w hF; clear hF; go_simp; try with_reducible rfl)
  try simp only [List.getElem_toArray, List.getElem_cons_succ, List.getElem_cons_zero, Act.put, List.setIfInBounds_toArray, List.set_cons_zero, List.set_cons_succ]
  refine wpAnyF_take (i := 2) (v := ?v2_1) rfl (by kernel_rfl) (by kernel_rfl) (by kernel_rfl) (by kernel_rfl) (fun _ _ _ h => h) (Or.inl ⟨by rfl, ?y2_1⟩) (fun h => absurd h (by decide)) ?_
  case y2_1 => (intro w hF; clear hF; go_simp; try with_reducible rfl)
  try simp only [List.getElem_toArray, List.getElem_cons_succ, List.getElem_cons_zero, Act.put, List.setIfInBounds_toArray, List.set_cons_zero, List.set_cons_succ]
  refine wpAnyF_take (i := 3) (v := ?v3_1) rfl (by kernel_rfl) (by kernel_rfl) (by kernel_rfl) (by kernel_rfl) (fun _ _ _ h => h) (Or.inl ⟨by rfl, ?y3_1⟩) (fun h => absurd h (by decide)) ?_
  case y3_1 => (intro w hF; clear hF; go_simp; try with_reducible rfl)
  try simp only [List.getElem_toArray, List.getElem_cons_succ, List.getElem_cons_zero, Act.put, List.setIfInBounds_toArray, List.set_cons_zero, List.set_cons_succ]
  refine wpAnyF_take (i := 4) rfl (by kernel_rfl) (by kernel_rfl) (by kernel_rfl) (by kernel_rfl) (fun _ _ _ h => h) (yields_loadA (by rfl) 41 (.tmp 35) rfl (w2.heap.size) 0 75 rfl 70 (boxC U X wv) (machC U X.m) (fun W hF => hF rfl) _ Try.underlying41 rfl (by kernel_rfl) rfl rfl) (fun _ => KB6.out.drew) ?_
  try simp only [List.getElem_toArray, List.getElem_cons_succ, List.getElem_cons_zero, Act.put, List.setIfInBounds_toArray, List.set_cons_zero, List.set_cons_succ]
  refine wpAnyF_take (i := 5) (v := ?v5_1) rfl (by kernel_rfl) (by kernel_rfl) (by kernel_rfl) (by kernel_rfl) (fun _ _ _ h => h) (Or.inl ⟨by rfl, ?y5_1⟩) (fun h => absurd h (by decide)) ?_
  case y5_1 => (intro w hF; clear hF; go_simp; try with_reducible rfl)
  try simp only [List.getElem_toArray, List.getElem_cons_succ, List.getElem_cons_zero, Act.put, List.setIfInBounds_toArray, List.set_cons_zero, List.set_cons_succ]
  refine wpAnyF_ready (rs := [6]) (by kernel_rfl) (by simp) (AllReadyF.cons rfl (fun K hK => ?_) AllReadyF.nil)
  rw [if_pos (by rfl)]
  refine wp_storeW 41 (.tmp 7) (.tmp 36) rfl (w.heap.size + 1) (machC U X.m) rfl rfl 41 Try.zeroCells41 Z6.out.drew (by kernel_rfl) zs ONU ?_
  intro w7 hp_w7 K_w7
  refine hK.out _ _ (Sat.off [4] (fun k w hk => by simp only [List.mem_cons, List.not_mem_nil, or_false, not_or] at hk; exact fun e => absurd e hk) (by kernel_rfl) _ _) ?_
  clear hK K
  refine wpAnyF_take (i := 7) (v := ?v7_2) rfl (by kernel_rfl) (by kernel_rfl) (by kernel_rfl) (by kernel_rfl) (fun _ _ _ h => h) (Or.inl ⟨by rfl, ?y7_2⟩) (fun h => absurd h (by decide)) ?_
  case y7_2 => (intro w hF; clear hF; go_simp; try with_reducible rfl)
  try simp only [List.getElem_toArray, List.getElem_cons_succ, List.getElem_cons_zero, Act.put, List.setIfInBounds_toArray, List.set_cons_zero, List.set_cons_succ]
  refine wpAnyF_done (by kernel_rfl) ?_ _
  go_wp2
  have B7 : Below w.heap.size w w7 := B1.trans ((R6.out.old.drew.mono (Nat.le_trans (Nat.le_of_lt (by omega)) (Nat.le_refl _))).trans ((hp_w7.below).mono (by omega)))
  refine bodyPost_ret (results_tct Try.results16 _ _ (w.heap.size + 1) 41 _ _ rfl K_w7.out Try.underlying41 rfl (by kernel_rfl)) rfl ⟨U, rfl, B7, (RelX.mv_put (w := w6.drew) ⟨R6.out.old.drew, by obtain ⟨wv', h1, h2⟩ := R6.out.box; exact ⟨wv', h1.drew, h2⟩, R6.out.mems, R6.out.fit, R6.out.inn⟩ LX.out (by omega) hp_w7), R6.out.inn, R6.out.fit, fun i g hi hg => by have := (LX.out.own i g hi hg).1; omega⟩
theorem read_aux (V : Nat → Value) (m : Mach) (a : Int) (ha : U16 a) (w : World) (hm : MV w V m) (hi : m.In) (h : m.Right) :
    Calls Try.prog 16 #[.agg (machC V m), .bool true, .int .u16 a] w fun e w' => ∃ U, e = .returned (.tuple #[.int .u8 (readV m true a), .agg (machC U (readX m true a)), .int .i64 0]) ∧ ToldM w w' U (readX m true a) := by
  obtain ⟨X, hX⟩ : ∃ X, X = auxGS ⟨m, [], 0⟩ a := ⟨_, rfl⟩
  have eX : readX m true a = X.m := by unfold readX; rw [if_pos rfl, hX]
  rw [eX]
  have GT := Lib.hid (fun (w0 : World) (V : Nat → Value) (bb B H : Nat) (L : LiesX V bb B H) (w : World) (h : RelX 70 w0 V bb H w ⟨m, [], 0⟩) (hB : B ≤ w.heap.size) => @auxGet_any w0 V bb B H L w ⟨m, [], 0⟩ a ha h hB)
  rw [← hX] at GT
  have eV : readV m true a = auxG m a := by unfold readV; rw [if_pos rfl]
  rw [eV]
  clear hX eX eV
  have CK := Lib.hid (fun W (k : Below w.heap.size w W) => check_any V m W (hm.below k))
  rw [(chk_zero m).2 h] at CK
  have CP := Lib.hid (fun W (k : Below w.heap.size w W) => copy_any V m W (hm.below k) h.lens)
  have ON := Lib.hid (machC_one m (fun i hi => hm.one i hi))
  have HF := Lib.hid (And.intro h.fit hi)
  have BN := Lib.hid box_new
  clear hm h hi
  go_enter Try.func16, Try.ntmps16
  go_wp2_with (first | ((with_reducible show wpList _ _ _ _ _ _); refine wpList_loadW rfl 41 (.tmp 3) rfl (w.heap.size) rfl 41 (machC V m) (show Blk _ (w.heap.size) (machC V m) 41 from (by repeat' (first | (with_reducible first | exact Hid.out (by assumption) | exact Blk.new _ _ _ | (refine Blk.new_at _ _ _ _ ?_; simp; done) | refine Blk.alloc ?_ _ | refine Blk.drewN ?_ _ | refine Blk.drew ?_ | apply Blk.set | refine Blk.put ?_ (by assumption) (by first | (simp; done) | (simp; omega) | omega) | refine Blk.below ?_ (by assumption)) | (refine Blk.setAt ?_ (by first | (simp; done) | (simp; omega))) | rfl))) _ Try.underlying41 rfl (by kernel_rfl) ?_))
  refine (CK.out _ (by repeat' (first | (with_reducible first | exact Below.refl _ _ | assumption | refine below_alloc ?_ _ | refine Below.drew ?_ | refine below_drewN ?_ _ | refine below_then ?_ (by assumption) | refine below_put ?_ (by assumption) (by first | (simp; done) | (simp; omega) | omega) | refine Below.setCell ?_ ?_ _) | (simp; done) | (simp; omega) | omega))).mono ?_
  rintro e w1 ⟨rfl, hb1⟩
  have s1 := hb1.size
  have K1 := Lib.hid (show Blk w1 w.heap.size (machC V m) 41 from (by repeat' (first | (with_reducible first | exact Hid.out (by assumption) | exact Blk.new _ _ _ | (refine Blk.new_at _ _ _ _ ?_; simp; done) | refine Blk.alloc ?_ _ | refine Blk.drewN ?_ _ | refine Blk.drew ?_ | apply Blk.set | refine Blk.put ?_ (by assumption) (by first | (simp; done) | (simp; omega) | omega) | refine Blk.below ?_ (by assumption)) | (refine Blk.setAt ?_ (by first | (simp; done) | (simp; omega))) | rfl)))
  have Z1 := Lib.hid (show Blk w1 (w.heap.size + 1) Try.zeroCells41 41 from (by repeat' (first | (with_reducible first | exact Hid.out (by assumption) | exact Blk.new _ _ _ | (refine Blk.new_at _ _ _ _ ?_; simp; done) | refine Blk.alloc ?_ _ | refine Blk.drewN ?_ _ | refine Blk.drew ?_ | apply Blk.set | refine Blk.put ?_ (by assumption) (by first | (simp; done) | (simp; omega) | omega) | refine Blk.below ?_ (by assumption)) | (refine Blk.setAt ?_ (by first | (simp; done) | (simp; omega))) | rfl)))
  have B1 : Below w.heap.size w w1 := by repeat' (first | (with_reducible first | exact Below.refl _ _ | assumption | refine below_alloc ?_ _ | refine Below.drew ?_ | refine below_drewN ?_ _ | refine below_then ?_ (by assumption) | refine below_put ?_ (by assumption) (by first | (simp; done) | (simp; omega) | omega) | refine Below.setCell ?_ ?_ _) | (simp; done) | (simp; omega) | omega)
  clear hb1
  go_wp2_with (first | ((with_reducible show wpList _ _ _ _ _ _); refine wpList_loadW rfl 41 (.tmp 3) rfl (w.heap.size) rfl 41 (machC V m) (show Blk _ (w.heap.size) (machC V m) 41 from (by repeat' (first | (with_reducible first | exact Hid.out (by assumption) | exact Blk.new _ _ _ | (refine Blk.new_at _ _ _ _ ?_; simp; done) | refine Blk.alloc ?_ _ | refine Blk.drewN ?_ _ | refine Blk.drew ?_ | apply Blk.set | refine Blk.put ?_ (by assumption) (by first | (simp; done) | (simp; omega) | omega) | refine Blk.below ?_ (by assumption)) | (refine Blk.setAt ?_ (by first | (simp; done) | (simp; omega))) | rfl))) _ Try.underlying41 rfl (by kernel_rfl) ?_))
  refine (CP.out _ B1).mono ?_
  rintro e w2 ⟨U, rfl, FR⟩
  have q1 : w.heap.size + 2 ≤ w1.heap.size := by simpa using s1
  have s2 := FR.below.size
  have Z2 := Lib.hid (Z1.out.below FR.below)
  have B2 : Below w.heap.size w w2 := below_then B1 FR.below
  have FH := Lib.hid FR
  clear K1 FR s1 CK CP
  go_wp2_with fail
  rw [BN.out]
  refine (mkmain_any w2.heap.size _).mono ?_
  rintro e w3 ⟨rfl, hb3⟩
  have s3 := hb3.size
  have q3 : w2.heap.size + 1 ≤ w3.heap.size := by simpa using s3
  have Z3 := Lib.hid ((Z2.out.alloc _).below hb3)
  have NX := Lib.hid (relX_new FH.out HF.out.1 HF.out.2 (W' := w3) (bb := w2.heap.size) (T := 70) rfl (((Below.refl _ _).alloc (Nat.le_refl _) _).trans (hb3.mono (by simp))) ((Blk.new w2 _ _).below hb3))
  have B3 : Below w.heap.size w w3 := B2.trans (((Below.refl w2.heap.size w2).alloc (Nat.le_refl _) _).trans (hb3.mono (by simp)) |>.mono (by omega))
  clear hb3 B2 BN FH s3
  go_wp2_with (first | (((with_reducible show wpList _ _ _ _ _ _); refine wpList_storeW rfl 72 (.tmp 11) (.tmp 24) rfl (w3.heap.size) #[.func (.func 45) #[.pointer (some ⟨w2.heap.size, 0, none⟩)] #[], .func (.func 46) #[.pointer (some ⟨w2.heap.size, 0, none⟩)] #[]] rfl rfl 72 _ (show Blk _ (w3.heap.size) #[.nilFunc, .nilFunc] 72 from (by repeat' (first | (with_reducible first | exact Hid.out (by assumption) | exact Blk.new _ _ _ | (refine Blk.new_at _ _ _ _ ?_; simp; done) | refine Blk.alloc ?_ _ | refine Blk.drewN ?_ _ | refine Blk.drew ?_ | apply Blk.set | refine Blk.put ?_ (by assumption) (by first | (simp; done) | (simp; omega) | omega) | refine Blk.below ?_ (by assumption)) | (refine Blk.setAt ?_ (by first | (simp; done) | (simp; omega))) | rfl))) (by kernel_rfl) rfl (by first | (with_reducible assumption) | simp [Value.oneCell']) ?_; intro wa hp_wa K_wa); have la := K_wa.out.lt))
  have qa : w3.heap.size + 1 ≤ wa.heap.size := by have := hp_wa.size; simp at this; omega
  refine (mkaux_any w2.heap.size _).mono ?_
  rintro e wb ⟨rfl, hbb⟩
  have sb := hbb.size
  go_wp2_with (first | (((with_reducible show wpList _ _ _ _ _ _); refine wpList_storeW rfl 72 (.tmp 11) (.tmp 27) rfl (w3.heap.size) #[.func (.func 48) #[.pointer (some ⟨w2.heap.size, 0, none⟩)] #[], .func (.func 49) #[.pointer (some ⟨w2.heap.size, 0, none⟩)] #[]] rfl rfl 72 _ (show Blk _ (w3.heap.size) #[.func (.func 45) #[.pointer (some ⟨w2.heap.size, 0, none⟩)] #[], .func (.func 46) #[.pointer (some ⟨w2.heap.size, 0, none⟩)] #[]] 72 from (by repeat' (first | (with_reducible first | exact Hid.out (by assumption) | exact Blk.new _ _ _ | (refine Blk.new_at _ _ _ _ ?_; simp; done) | refine Blk.alloc ?_ _ | refine Blk.drewN ?_ _ | refine Blk.drew ?_ | apply Blk.set | refine Blk.put ?_ (by assumption) (by first | (simp; done) | (simp; omega) | omega) | refine Blk.below ?_ (by assumption)) | (refine Blk.setAt ?_ (by first | (simp; done) | (simp; omega))) | rfl))) (by kernel_rfl) rfl (by first | (with_reducible assumption) | simp [Value.oneCell']) ?_; intro w4 hp_w4 K_w4); obtain ⟨l4, c4, f4⟩ := K_w4.out.use))
  have q4 : w3.heap.size + 1 ≤ w4.heap.size := by have := hp_w4.size; omega
  refine (GT.out _ _ _ _ _ NX.out.2 _ (NX.out.1.stable NX.out.2 (St.of (n := w3.heap.size) (by repeat' (first | (with_reducible first | exact Below.refl _ _ | assumption | refine below_alloc ?_ _ | refine Below.drew ?_ | refine below_drewN ?_ _ | refine below_then ?_ (by assumption) | refine below_put ?_ (by assumption) (by first | (simp; done) | (simp; omega) | omega) | refine Below.setCell ?_ ?_ _) | (simp; done) | (simp; omega) | omega)) (by omega) (Nat.le_refl _))) (by omega)).mono ?_
  rintro e w6 ⟨rfl, hr6, hk6⟩
  have s6 := hk6.size
  have Z6 := Lib.hid (Z1.out.below hr6.old)
  have R6 := Lib.hid hr6
  obtain ⟨-, ⟨wv, hbx, -⟩, -, -, -⟩ := hr6
  have KB6 := Lib.hid hbx
  have ONU := machC_one (V := U) X.m (fun i hi => by obtain ⟨a', c', h'⟩ := own_shape (R6.out.mems i hi); rw [h']; rfl)
  have zs : (Try.zeroCells41).size = 75 := by kernel_rfl
  have LX := Lib.hid NX.out.2
  clear hbx hk6 Z3 NX B3
  go_wp2_with fail
  refine wp_region_F (fun k W => (k = 4 → Blk W (w2.heap.size) (boxC U X wv) 70)) [0, 1, 2, 3, 4, 5, 7] (by kernel_rfl) ?_
  refine wpAnyF_take (i := 0) (v := ?v0_3) rfl (by kernel_rfl) (by kernel_rfl) (by kernel_rfl) (by kernel_rfl) (fun _ _ _ h => h) (Or.inl ⟨by rfl, ?y0_3⟩) (fun h => absurd h (by decide)) ?_
  case y0_3 => (intro w hF; clear hF; go_simp; try with_reducible rfl)
  try simp only [List.getElem_toArray, List.getElem_cons_succ, List.getElem_cons_zero, Act.put, List.setIfInBounds_toArray, List.set_cons_zero, List.set_cons_succ]
  refine wpAnyF_take (i := 1) (v := ?v1_3) rfl (by kernel_rfl) (by kernel_rfl) (by kernel_rfl) (by kernel_rfl) (fun _ _ _ h => h) (Or.inl ⟨by rfl, ?y1_3⟩) (fun h => absurd h (by decide)) ?_
  case y1_3 => (intro w hF; clear hF; go_simp; try with_reducible rfl)
  try simp only [List.getElem_toArray, List.getElem_cons_succ, List.getElem_cons_zero, Act.put, List.setIfInBounds_toArray, List.set_cons_zero, List.set_cons_succ]
  refine wpAnyF_take (i := 2) (v := ?v2_3) rfl (by kernel_rfl) (by kernel_rfl) (by kernel_rfl) (by kernel_rfl) (fun _ _ _ h => h) (Or.inl ⟨by rfl, ?y2_3⟩) (fun h => absurd h (by decide)) ?_
  case y2_3 => (intro w hF; clear hF; go_simp; try with_reducible rfl)
  try simp only [List.getElem_toArray, List.getElem_cons_succ, List.getElem_cons_zero, Act.put, List.setIfInBounds_toArray, List.set_cons_zero, List.set_cons_succ]
  refine wpAnyF_take (i := 3) (v := ?v3_3) rfl (by kernel_rfl) (by kernel_rfl) (by kernel_rfl) (by kernel_rfl) (fun _ _ _ h => h) (Or.inl ⟨by rfl, ?y3_3⟩) (fun h => absurd h (by decide)) ?_
  case y3_3 => (intro w hF; clear hF; go_simp; try with_reducible rfl)
  try simp only [List.getElem_toArray, List.getElem_cons_succ, List.getElem_cons_zero, Act.put, List.setIfInBounds_toArray, List.set_cons_zero, List.set_cons_succ]
  refine wpAnyF_take (i := 4) rfl (by kernel_rfl) (by kernel_rfl) (by kernel_rfl) (by kernel_rfl) (fun _ _ _ h => h) (yields_loadA (by rfl) 41 (.tmp 35) rfl (w2.heap.size) 0 75 rfl 70 (boxC U X wv) (machC U X.m) (fun W hF => hF rfl) _ Try.underlying41 rfl (by kernel_rfl) rfl rfl) (fun _ => KB6.out.drew) ?_
  try simp only [List.getElem_toArray, List.getElem_cons_succ, List.getElem_cons_zero, Act.put, List.setIfInBounds_toArray, List.set_cons_zero, List.set_cons_succ]
  refine wpAnyF_take (i := 5) (v := ?v5_3) rfl (by kernel_rfl) (by kernel_rfl) (by kernel_rfl) (by kernel_rfl) (fun _ _ _ h => h) (Or.inl ⟨by rfl, ?y5_3⟩) (fun h => absurd h (by decide)) ?_
  case y5_3 => (intro w hF; clear hF; go_simp; try with_reducible rfl)
  try simp only [List.getElem_toArray, List.getElem_cons_succ, List.getElem_cons_zero, Act.put, List.setIfInBounds_toArray, List.set_cons_zero, List.set_cons_succ]
  refine wpAnyF_ready (rs := [6]) (by kernel_rfl) (by simp) (AllReadyF.cons rfl (fun K hK => ?_) AllReadyF.nil)
  rw [if_pos (by rfl)]
  refine wp_storeW 41 (.tmp 7) (.tmp 36) rfl (w.heap.size + 1) (machC U X.m) rfl rfl 41 Try.zeroCells41 Z6.out.drew (by kernel_rfl) zs ONU ?_
  intro w7 hp_w7 K_w7
  refine hK.out _ _ (Sat.off [4] (fun k w hk => by simp only [List.mem_cons, List.not_mem_nil, or_false, not_or] at hk; exact fun e => absurd e hk) (by kernel_rfl) _ _) ?_
  clear hK K
  refine wpAnyF_take (i := 7) (v := ?v7_4) rfl (by kernel_rfl) (by kernel_rfl) (by kernel_rfl) (by kernel_rfl) (fun _ _ _ h => h) (Or.inl ⟨by rfl, ?y7_4⟩) (fun h => absurd h (by decide)) ?_
  case y7_4 => (intro w hF; clear hF; go_simp; try with_reducible rfl)
  try simp only [List.getElem_toArray, List.getElem_cons_succ, List.getElem_cons_zero, Act.put, List.setIfInBounds_toArray, List.set_cons_zero, List.set_cons_succ]
  refine wpAnyF_done (by kernel_rfl) ?_ _
  go_wp2
  have B7 : Below w.heap.size w w7 := B1.trans ((R6.out.old.drew.mono (Nat.le_trans (Nat.le_of_lt (by omega)) (Nat.le_refl _))).trans ((hp_w7.below).mono (by omega)))
  refine bodyPost_ret (results_tct Try.results16 _ _ (w.heap.size + 1) 41 _ _ rfl K_w7.out Try.underlying41 rfl (by kernel_rfl)) rfl ⟨U, rfl, B7, (RelX.mv_put (w := w6.drew) ⟨R6.out.old.drew, by obtain ⟨wv', h1, h2⟩ := R6.out.box; exact ⟨wv', h1.drew, h2⟩, R6.out.mems, R6.out.fit, R6.out.inn⟩ LX.out (by omega) hp_w7), R6.out.inn, R6.out.fit, fun i g hi hg => by have := (LX.out.own i g hi hg).1; omega⟩
end Go.Proofs.Ytimccpmdgfneoaa
