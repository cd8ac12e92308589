/- The program's run clock by clock says what is not right. Conditions: the machine's memories are slices of bytes; what is pressed lies in memory. -/
import Derived.Test.YtkoocfcnfolkhaaGreatDoorSq
import Derived.Test.YtkoocfcnfolkhaaGreatDoorSh
import Derived.Test.YtkoocfcnfolkhaaGreatDoorLockRn
set_option linter.unusedVariables false
set_option linter.unusedSimpArgs false
set_option maxHeartbeats 2000000
set_option maxRecDepth 100000
namespace Go.Proofs.YtkoocfcnfolkhaaGreatDoor
open Go.RowKit Go.Mq
def errL(m:Mach)(ins:List Inp)(n:Int):Int:=if chk m≠0 then chk m else if chkI ins m.ck≠0 then chkI ins m.ck else if n<0\/20000<n\/200000<m.ck+n then 3 else 0
theorem z5o(V:Nat->Value)(m:Mach)(v:Value)(ins:List Inp)(n:Int)(w:World)(hm:MV w V m)(hI:InpsAt w v ins)(h:chk m≠0):Calls Tryz.prog 12 #[.agg (machC V m),v,.int .i64 n] w fun e w'=>e= .returned (.tuple #[.agg Tryz.zeroCells42,.agg #[.slice none 0 0,.slice none 0 0,.slice none 0 0],.int .i64 (chk m)])/\Below w.heap.size w w':=by
 have CK:=zh (fun W (k:Below w.heap.size w W)=>z1F V m W (hm.below k))
 obtain⟨c,ec⟩:∃c,c=chk m:=⟨_,rfl⟩
 rw[<-ec]at CK h⊢
 have hcb:(c !=0)=true:=by rw[bne_iff_ne];exact h
 have ON:=zh (z0G m (fun i hi=>hm.one i hi))
 have ONZ:=z0x
 clear hm h ec hI
 go_enter Tryz.func12,Tryz.ntmps12
 go_wp2_with (first|((with_reducible show wpList _ _ _ _ _ _);refine lW 42 3 rfl rfl (w.heap.size) rfl (machC V m) kB Tryz.underlying42 ?_))
 refine(CK.out _ kL).mono ?_
 rintro e w1 ⟨rfl,hb1⟩
 go_wp2_with (first|((with_reducible show wpList _ _ _ _ _ _);first|(refine sW 42 6 25 rfl rfl (w.heap.size+1) Tryz.zeroCells42 rfl rfl Tryz.zeroCells42 kB ?_;intro w2 hp_w2 K_w2)|(refine sW 46 7 26 rfl rfl (w.heap.size+1+1) #[.slice none 0 0,.slice none 0 0,.slice none 0 0] rfl rfl #[.slice none 0 0,.slice none 0 0,.slice none 0 0] kB ?_;intro w3 hp_w3 K_w3)))
 exact bodyPost_ret (z0z Tryz.results12 _ _ (w.heap.size+1) (w.heap.size+1+1) 42 46 _ _ _ _ rfl (K_w2.out.put hp_w3 (Nat.ne_of_lt (Nat.lt_succ_self _))) Tryz.underlying42 rfl kR rfl K_w3.out Tryz.underlying46 rfl kR) rfl ⟨rfl,kL⟩
theorem z5n(V:Nat->Value)(m:Mach)(v:Value)(ins:List Inp)(n:Int)(w:World)(hm:MV w V m)(hI:InpsAt w v ins)(h0:m.Right)(h:chkI ins m.ck≠0):Calls Tryz.prog 12 #[.agg (machC V m),v,.int .i64 n] w fun e w'=>e= .returned (.tuple #[.agg Tryz.zeroCells42,.agg #[.slice none 0 0,.slice none 0 0,.slice none 0 0],.int .i64 (chkI ins m.ck)])/\Below w.heap.size w w':=by
 have CK:=zh (fun W (k:Below w.heap.size w W)=>z1F V m W (hm.below k))
 rw[(z1E m).2 h0]at CK
 have ck0:=h0.time.1
 have IN:=zh (fun W (k:Below w.heap.size w W)=>z0V v ins m.ck W (hI.below k) (z0C kO))
 obtain⟨c,ec⟩:∃c,c=chkI ins m.ck:=⟨_,rfl⟩
 rw[<-ec]at IN h⊢
 have hcb:(c !=0)=true:=by rw[bne_iff_ne];exact h
 have ON:=zh (z0G m (fun i hi=>hm.one i hi))
 have ONZ:=z0x
 clear hm h ec hI h0 ck0
 go_enter Tryz.func12,Tryz.ntmps12
 go_wp2_with (first|((with_reducible show wpList _ _ _ _ _ _);refine lW 42 3 rfl rfl (w.heap.size) rfl (machC V m) kB Tryz.underlying42 ?_))
 refine(CK.out _ kL).mono ?_
 rintro e w1 ⟨rfl,hb1⟩
 have KM:=zh (show Blk w1 w.heap.size (machC V m) 42 from kB)
 have c72:w1.cell? ⟨w.heap.size,72,none⟩=some (.int .i64 m.ck):=(KM.out.cell 72).trans (mx72 ..)
 have lk:=KM.out.lt
 have K1:=zh (show Blk w1 (w.heap.size+1) Tryz.zeroCells42 42 from kB)
 have K2:=zh (show Blk w1 (w.heap.size+1+1) #[.slice none 0 0,.slice none 0 0,.slice none 0 0] 46 from kB)
 have B1:Below w.heap.size w w1:=kL
 clear hb1 KM
 go_wp2_with (first|((with_reducible show wpList _ _ _ _ _ _);refine lW 42 3 rfl rfl (w.heap.size) rfl (machC V m) kB Tryz.underlying42 ?_))
 refine(IN.out _ B1).mono ?_
 rintro e w4 ⟨rfl,hb4⟩
 have B4:=below_then B1 hb4
 have K1:=zh (K1.out.below hb4)
 have K2:=zh (K2.out.below hb4)
 clear hb4 B1 c72 lk
 go_wp2_with (first|((with_reducible show wpList _ _ _ _ _ _);first|(refine sW 42 6 34 rfl rfl (w.heap.size+1) Tryz.zeroCells42 rfl rfl Tryz.zeroCells42 kB ?_;intro w2 hp_w2 K_w2)|(refine sW 46 7 35 rfl rfl (w.heap.size+1+1) #[.slice none 0 0,.slice none 0 0,.slice none 0 0] rfl rfl #[.slice none 0 0,.slice none 0 0,.slice none 0 0] kB ?_;intro w3 hp_w3 K_w3)))
 exact bodyPost_ret (z0z Tryz.results12 _ _ (w.heap.size+1) (w.heap.size+1+1) 42 46 _ _ _ _ rfl (K_w2.out.put hp_w3 (Nat.ne_of_lt (Nat.lt_succ_self _))) Tryz.underlying42 rfl kR rfl K_w3.out Tryz.underlying46 rfl kR) rfl ⟨rfl,kL⟩
theorem z5m(V:Nat->Value)(m:Mach)(v:Value)(ins:List Inp)(n:Int)(w:World)(hm:MV w V m)(hI:InpsAt w v ins)(h0:m.Right)(h1:chkI ins m.ck=0)(h:n<0\/(¬n<0/\20000<n)\/(¬n<0/\¬20000<n/\200000<m.ck+n)):Calls Tryz.prog 12 #[.agg (machC V m),v,.int .i64 n] w fun e w'=>e= .returned (.tuple #[.agg Tryz.zeroCells42,.agg #[.slice none 0 0,.slice none 0 0,.slice none 0 0],.int .i64 3])/\Below w.heap.size w w':=by
 have CK:=zh (fun W (k:Below w.heap.size w W)=>z1F V m W (hm.below k))
 rw[(z1E m).2 h0]at CK
 have ck0:=h0.time.1
 have IN:=zh (fun W (k:Below w.heap.size w W)=>z0V v ins m.ck W (hI.below k) (z0C kO))
 rw[h1]at IN
 have ON:=zh (z0G m (fun i hi=>hm.one i hi))
 have ONZ:=z0x
 have h':n<0\/(¬n<0/\20000<n)\/(¬n<0/\¬20000<n/\200000<wrap64 (m.ck+n)):=by
  rcases h with h|h|h
  ·exact .inl h
  ·exact .inr (.inl h)
  ·refine .inr (.inr ⟨h.1,h.2.1,?_⟩)
   rw[z0n _ kO kO]
   exact h.2.2
 clear hm hI h0 h1 ck0 h
 rcases h' with hn|⟨hn,hp⟩|⟨hn,hp,hq⟩
 all_goals
  go_enter Tryz.func12,Tryz.ntmps12
  go_wp2_with (first|((with_reducible show wpList _ _ _ _ _ _);refine lW 42 3 rfl rfl (w.heap.size) rfl (machC V m) kB Tryz.underlying42 ?_))
  refine(CK.out _ kL).mono ?_
  rintro e w1 ⟨rfl,hb1⟩
  have KM:=zh (show Blk w1 w.heap.size (machC V m) 42 from kB)
  have c72:w1.cell? ⟨w.heap.size,72,none⟩=some (.int .i64 m.ck):=(KM.out.cell 72).trans (mx72 ..)
  have lk:=KM.out.lt
  have K1:=zh (show Blk w1 (w.heap.size+1) Tryz.zeroCells42 42 from kB)
  have K2:=zh (show Blk w1 (w.heap.size+1+1) #[.slice none 0 0,.slice none 0 0,.slice none 0 0] 46 from kB)
  have B1:Below w.heap.size w w1:=kL
  clear hb1
  go_wp2_with (first|((with_reducible show wpList _ _ _ _ _ _);refine lW 42 3 rfl rfl (w.heap.size) rfl (machC V m) kB Tryz.underlying42 ?_))
  refine(IN.out _ B1).mono ?_
  rintro e w4 ⟨rfl,hb4⟩
  have B4:=below_then B1 hb4
  have K1:=zh (K1.out.below hb4)
  have K2:=zh (K2.out.below hb4)
  have KM4:=zh (KM.out.below hb4)
  have c72:w4.cell? ⟨w.heap.size,72,none⟩=some (.int .i64 m.ck):=(KM4.out.cell 72).trans (mx72 ..)
  have lk:=KM4.out.lt
  clear hb4 B1 KM KM4
  go_wp2_with (first|((with_reducible show wpList _ _ _ _ _ _);first|(refine sW 42 6 50 rfl rfl (w.heap.size+1) Tryz.zeroCells42 rfl rfl Tryz.zeroCells42 kB ?_;intro w2 hp_w2 K_w2)|(refine sW 46 7 51 rfl rfl (w.heap.size+1+1) #[.slice none 0 0,.slice none 0 0,.slice none 0 0] rfl rfl #[.slice none 0 0,.slice none 0 0,.slice none 0 0] kB ?_;intro w3 hp_w3 K_w3)))
  exact bodyPost_ret (z0z Tryz.results12 _ _ (w.heap.size+1) (w.heap.size+1+1) 42 46 _ _ _ _ rfl (K_w2.out.put hp_w3 (Nat.ne_of_lt (Nat.lt_succ_self _))) Tryz.underlying42 rfl kR rfl K_w3.out Tryz.underlying46 rfl kR) rfl ⟨rfl,kL⟩
theorem z6K(V:Nat->Value)(m:Mach)(v:Value)(ins:List Inp)(n:Int)(w:World)(hm:MV w V m)(hI:InpsAt w v ins)(h:errL m ins n≠0):Calls Tryz.prog 12 #[.agg (machC V m),v,.int .i64 n] w fun e w'=>e= .returned (.tuple #[.agg Tryz.zeroCells42,.agg #[.slice none 0 0,.slice none 0 0,.slice none 0 0],.int .i64 (errL m ins n)])/\Below w.heap.size w w':=by
 unfold errL at h⊢
 by_cases h1:chk m=0
 ·rw[if_neg (fun k=>k h1)]at h⊢
  have hr:=(z1E m).1 h1
  by_cases h2:chkI ins m.ck=0
  ·rw[if_neg (fun k=>k h2)]at h⊢
   by_cases h3:n<0\/20000<n\/200000<m.ck+n
   ·rw[if_pos h3]
    exact z5m V m v ins n w hm hI hr h2 kO
   ·rw[if_neg h3]at h;exact absurd rfl h
  ·rw[if_pos h2]
   exact z5n V m v ins n w hm hI hr h2
 ·rw[if_pos h1]
  exact z5o V m v ins n w hm hI h1
end Go.Proofs.YtkoocfcnfolkhaaGreatDoor
