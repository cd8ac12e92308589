/- The program's run clock by clock says what is not right. Conditions: the machine's memories are slices of bytes; what is pressed lies in memory. -/
import Derived.Test.YtkoocfcnfolkhaaGreatDoorSq
import Derived.Test.YtkoocfcnfolkhaaGreatDoorSh
import Derived.Test.YtkoocfcnfolkhaaGreatDoorLockRn
import Derived.Test.YtkoocfcnfolkhaaGreatDoorP17
import Derived.Lib.IndexLaws
import Derived.Lib.IndexBytes
import Derived.Lib.CountLaws
set_option linter.unusedVariables false
set_option linter.unusedSimpArgs false
set_option maxHeartbeats 2000000
set_option maxRecDepth 100000
namespace Go.Proofs.YtkoocfcnfolkhaaGreatDoor
open Go.RowKit Go.Mq
def errL(m:Mach)(ins:List Inp)(n:Int):Int:=if chk m≠0 then chk m else if chkI ins m.ck≠0 then chkI ins m.ck else if n<0\/20000<n\/200000<m.ck+n then 3 else 0
theorem z3R{m:Mach}{ins:List Inp}{n:Int}(h:errL m ins n=0):m.Right/\chkI ins m.ck=0/\0<=n/\n<=20000/\m.ck+n<=200000:=by
 unfold errL at h
 by_cases h1:chk m=0
 ·rw[if_neg (fun k=>k h1)]at h
  by_cases h2:chkI ins m.ck=0
  ·rw[if_neg (fun k=>k h2)]at h
   by_cases h3:n<0\/20000<n\/200000<m.ck+n
   ·rw[if_pos h3]at h;cases h
   ·exact⟨(z0Q m).1 h1,h2,by omega,by omega,by omega⟩
  ·rw[if_pos h2]at h;exact absurd h h2
 ·rw[if_pos h1]at h;exact absurd h h1
theorem z7y(V:Nat->Value)(m:Mach)(v:Value)(ins:List Inp)(n:Int)(w:World)(hm:MV w V m)(hI:InpsAt w v ins)(h:chk m≠0):Calls Tryz.prog 13 #[.agg (machC V m),v,.int .i64 n] w fun e w'=>e= .returned (.tuple #[.agg Tryz.zeroCells42,.agg #[.slice none 0 0,.slice none 0 0,.slice none 0 0],.int .i64 (chk m)])/\Below w.heap.size w w':=by
 have CK:=zh (fun W (k:Below w.heap.size w W)=>z0J V m W (hm.below k))
 obtain⟨c,ec⟩:∃c,c=chk m:=⟨_,rfl⟩
 rw[<-ec]at CK h⊢
 have hcb:(c !=0)=true:=by rw[bne_iff_ne];exact h
 have ON:=zh (z0t m (fun i hi=>hm.one i hi))
 have ONZ:=z0F
 clear hm h ec hI
 go_enter Tryz.func13,Tryz.ntmps13
 go_wp2_with (first|((with_reducible show wpList _ _ _ _ _ _);refine lW 42 3 rfl rfl (w.heap.size) rfl (machC V m) kB Tryz.underlying42 ?_))
 refine(CK.out _ kL).mono ?_
 rintro e w1 ⟨rfl,hb1⟩
 go_wp2_with (first|((with_reducible show wpList _ _ _ _ _ _);first|(refine sW 42 6 24 rfl rfl (w.heap.size+1) Tryz.zeroCells42 rfl rfl Tryz.zeroCells42 kB ?_;intro w2 hp_w2 K_w2)|(refine sW 46 7 25 rfl rfl (w.heap.size+1+1) #[.slice none 0 0,.slice none 0 0,.slice none 0 0] rfl rfl #[.slice none 0 0,.slice none 0 0,.slice none 0 0] kB ?_;intro w3 hp_w3 K_w3)))
 exact bodyPost_ret (z0H Tryz.results13 _ _ (w.heap.size+1) (w.heap.size+1+1) 42 46 _ _ _ _ rfl (K_w2.out.put hp_w3 (Nat.ne_of_lt (Nat.lt_succ_self _))) Tryz.underlying42 rfl kR rfl K_w3.out Tryz.underlying46 rfl kR) rfl ⟨rfl,kL⟩
theorem z7x(V:Nat->Value)(m:Mach)(v:Value)(ins:List Inp)(n:Int)(w:World)(hm:MV w V m)(hI:InpsAt w v ins)(h0:m.Right)(h:chkI ins m.ck≠0):Calls Tryz.prog 13 #[.agg (machC V m),v,.int .i64 n] w fun e w'=>e= .returned (.tuple #[.agg Tryz.zeroCells42,.agg #[.slice none 0 0,.slice none 0 0,.slice none 0 0],.int .i64 (chkI ins m.ck)])/\Below w.heap.size w w':=by
 have CK:=zh (fun W (k:Below w.heap.size w W)=>z0J V m W (hm.below k))
 rw[(z0Q m).2 h0]at CK
 have ck0:=h0.time.1
 have IN:=zh (fun W (k:Below w.heap.size w W)=>z1a v ins m.ck W (hI.below k) (z0y kO))
 obtain⟨c,ec⟩:∃c,c=chkI ins m.ck:=⟨_,rfl⟩
 rw[<-ec]at IN h⊢
 have hcb:(c !=0)=true:=by rw[bne_iff_ne];exact h
 have ON:=zh (z0t m (fun i hi=>hm.one i hi))
 have ONZ:=z0F
 clear hm h ec hI h0 ck0
 go_enter Tryz.func13,Tryz.ntmps13
 go_wp2_with (first|((with_reducible show wpList _ _ _ _ _ _);refine lW 42 3 rfl rfl (w.heap.size) rfl (machC V m) kB Tryz.underlying42 ?_))
 refine(CK.out _ kL).mono ?_
 rintro e w1 ⟨rfl,hb1⟩
 have KM:=zh (show Blk w1 w.heap.size (machC V m) 42 from kB)
 have c72:w1.cell? ⟨w.heap.size,72,none⟩=some (.int .i64 m.ck):=(KM.out.cell 72).trans (mx72 ..)
 have lk:=KM.out.lt
 have K1:=zh (show Blk w1 (w.heap.size+1) Tryz.zeroCells42 42 from kB)
 have K2:=zh (show Blk w1 (w.heap.size+1+1) #[.slice none 0 0,.slice none 0 0,.slice none 0 0] 46 from kB)
 have B1:Below w.heap.size w w1:=kL
 clear hb1 KM
 go_wp2_with (first|((with_reducible show wpList _ _ _ _ _ _);refine lW 42 3 rfl rfl (w.heap.size) rfl (machC V m) kB Tryz.underlying42 ?_))
 refine(IN.out _ B1).mono ?_
 rintro e w4 ⟨rfl,hb4⟩
 have B4:=below_then B1 hb4
 have K1:=zh (K1.out.below hb4)
 have K2:=zh (K2.out.below hb4)
 clear hb4 B1 c72 lk
 go_wp2_with (first|((with_reducible show wpList _ _ _ _ _ _);first|(refine sW 42 6 33 rfl rfl (w.heap.size+1) Tryz.zeroCells42 rfl rfl Tryz.zeroCells42 kB ?_;intro w2 hp_w2 K_w2)|(refine sW 46 7 34 rfl rfl (w.heap.size+1+1) #[.slice none 0 0,.slice none 0 0,.slice none 0 0] rfl rfl #[.slice none 0 0,.slice none 0 0,.slice none 0 0] kB ?_;intro w3 hp_w3 K_w3)))
 exact bodyPost_ret (z0H Tryz.results13 _ _ (w.heap.size+1) (w.heap.size+1+1) 42 46 _ _ _ _ rfl (K_w2.out.put hp_w3 (Nat.ne_of_lt (Nat.lt_succ_self _))) Tryz.underlying42 rfl kR rfl K_w3.out Tryz.underlying46 rfl kR) rfl ⟨rfl,kL⟩
theorem z7w(V:Nat->Value)(m:Mach)(v:Value)(ins:List Inp)(n:Int)(w:World)(hm:MV w V m)(hI:InpsAt w v ins)(h0:m.Right)(h1:chkI ins m.ck=0)(h:n<0\/(¬n<0/\20000<n)\/(¬n<0/\¬20000<n/\200000<m.ck+n)):Calls Tryz.prog 13 #[.agg (machC V m),v,.int .i64 n] w fun e w'=>e= .returned (.tuple #[.agg Tryz.zeroCells42,.agg #[.slice none 0 0,.slice none 0 0,.slice none 0 0],.int .i64 3])/\Below w.heap.size w w':=by
 have CK:=zh (fun W (k:Below w.heap.size w W)=>z0J V m W (hm.below k))
 rw[(z0Q m).2 h0]at CK
 have ck0:=h0.time.1
 have IN:=zh (fun W (k:Below w.heap.size w W)=>z1a v ins m.ck W (hI.below k) (z0y kO))
 rw[h1]at IN
 have ON:=zh (z0t m (fun i hi=>hm.one i hi))
 have ONZ:=z0F
 have h':n<0\/(¬n<0/\20000<n)\/(¬n<0/\¬20000<n/\200000<wrap64 (m.ck+n)):=by
  rcases h with h|h|h
  ·exact .inl h
  ·exact .inr (.inl h)
  ·refine .inr (.inr ⟨h.1,h.2.1,?_⟩)
   rw[z0l _ kO kO]
   exact h.2.2
 clear hm hI h0 h1 ck0 h
 rcases h' with hn|⟨hn,hp⟩|⟨hn,hp,hq⟩
 all_goals
  go_enter Tryz.func13,Tryz.ntmps13
  go_wp2_with (first|((with_reducible show wpList _ _ _ _ _ _);refine lW 42 3 rfl rfl (w.heap.size) rfl (machC V m) kB Tryz.underlying42 ?_))
  refine(CK.out _ kL).mono ?_
  rintro e w1 ⟨rfl,hb1⟩
  have KM:=zh (show Blk w1 w.heap.size (machC V m) 42 from kB)
  have c72:w1.cell? ⟨w.heap.size,72,none⟩=some (.int .i64 m.ck):=(KM.out.cell 72).trans (mx72 ..)
  have lk:=KM.out.lt
  have K1:=zh (show Blk w1 (w.heap.size+1) Tryz.zeroCells42 42 from kB)
  have K2:=zh (show Blk w1 (w.heap.size+1+1) #[.slice none 0 0,.slice none 0 0,.slice none 0 0] 46 from kB)
  have B1:Below w.heap.size w w1:=kL
  clear hb1
  go_wp2_with (first|((with_reducible show wpList _ _ _ _ _ _);refine lW 42 3 rfl rfl (w.heap.size) rfl (machC V m) kB Tryz.underlying42 ?_))
  refine(IN.out _ B1).mono ?_
  rintro e w4 ⟨rfl,hb4⟩
  have B4:=below_then B1 hb4
  have K1:=zh (K1.out.below hb4)
  have K2:=zh (K2.out.below hb4)
  have KM4:=zh (KM.out.below hb4)
  have c72:w4.cell? ⟨w.heap.size,72,none⟩=some (.int .i64 m.ck):=(KM4.out.cell 72).trans (mx72 ..)
  have lk:=KM4.out.lt
  clear hb4 B1 KM KM4
  go_wp2_with (first|((with_reducible show wpList _ _ _ _ _ _);first|(refine sW 42 6 49 rfl rfl (w.heap.size+1) Tryz.zeroCells42 rfl rfl Tryz.zeroCells42 kB ?_;intro w2 hp_w2 K_w2)|(refine sW 46 7 50 rfl rfl (w.heap.size+1+1) #[.slice none 0 0,.slice none 0 0,.slice none 0 0] rfl rfl #[.slice none 0 0,.slice none 0 0,.slice none 0 0] kB ?_;intro w3 hp_w3 K_w3)))
  exact bodyPost_ret (z0H Tryz.results13 _ _ (w.heap.size+1) (w.heap.size+1+1) 42 46 _ _ _ _ rfl (K_w2.out.put hp_w3 (Nat.ne_of_lt (Nat.lt_succ_self _))) Tryz.underlying42 rfl kR rfl K_w3.out Tryz.underlying46 rfl kR) rfl ⟨rfl,kL⟩
theorem z5J(V:Nat->Value)(m:Mach)(v:Value)(ins:List Inp)(n:Int)(w:World)(hm:MV w V m)(hI:InpsAt w v ins)(h:errL m ins n≠0):Calls Tryz.prog 13 #[.agg (machC V m),v,.int .i64 n] w fun e w'=>e= .returned (.tuple #[.agg Tryz.zeroCells42,.agg #[.slice none 0 0,.slice none 0 0,.slice none 0 0],.int .i64 (errL m ins n)])/\Below w.heap.size w w':=by
 unfold errL at h⊢
 by_cases h1:chk m=0
 ·rw[if_neg (fun k=>k h1)]at h⊢
  have hr:=(z0Q m).1 h1
  by_cases h2:chkI ins m.ck=0
  ·rw[if_neg (fun k=>k h2)]at h⊢
   by_cases h3:n<0\/20000<n\/200000<m.ck+n
   ·rw[if_pos h3]
    exact z7w V m v ins n w hm hI hr h2 kO
   ·rw[if_neg h3]at h;exact absurd rfl h
  ·rw[if_pos h2]
   exact z7x V m v ins n w hm hI hr h2
 ·rw[if_pos h1]
  exact z7y V m v ins n w hm hI h1
theorem z6t(V:Nat->Value)(m:Mach)(v:Value)(ins:List Inp)(n:Int)(w:World)(hm:MV w V m)(hI:InpsAt w v ins)(h:chk m≠0):Calls Tryz.prog 12 #[.agg (machC V m),v,.int .i64 n] w fun e w'=>e= .returned (.tuple #[.agg Tryz.zeroCells42,.agg #[.slice none 0 0,.slice none 0 0,.slice none 0 0],.int .i64 (chk m)])/\Below w.heap.size w w':=by
 have CK:=zh (fun W (k:Below w.heap.size w W)=>z0J V m W (hm.below k))
 obtain⟨c,ec⟩:∃c,c=chk m:=⟨_,rfl⟩
 rw[<-ec]at CK h⊢
 have hcb:(c !=0)=true:=by rw[bne_iff_ne];exact h
 have ON:=zh (z0t m (fun i hi=>hm.one i hi))
 have ONZ:=z0F
 clear hm h ec hI
 go_enter Tryz.func12,Tryz.ntmps12
 go_wp2_with (first|((with_reducible show wpList _ _ _ _ _ _);refine lW 42 3 rfl rfl (w.heap.size) rfl (machC V m) kB Tryz.underlying42 ?_))
 refine(CK.out _ kL).mono ?_
 rintro e w1 ⟨rfl,hb1⟩
 go_wp2_with (first|((with_reducible show wpList _ _ _ _ _ _);first|(refine sW 42 6 25 rfl rfl (w.heap.size+1) Tryz.zeroCells42 rfl rfl Tryz.zeroCells42 kB ?_;intro w2 hp_w2 K_w2)|(refine sW 46 7 26 rfl rfl (w.heap.size+1+1) #[.slice none 0 0,.slice none 0 0,.slice none 0 0] rfl rfl #[.slice none 0 0,.slice none 0 0,.slice none 0 0] kB ?_;intro w3 hp_w3 K_w3)))
 exact bodyPost_ret (z0H Tryz.results12 _ _ (w.heap.size+1) (w.heap.size+1+1) 42 46 _ _ _ _ rfl (K_w2.out.put hp_w3 (Nat.ne_of_lt (Nat.lt_succ_self _))) Tryz.underlying42 rfl kR rfl K_w3.out Tryz.underlying46 rfl kR) rfl ⟨rfl,kL⟩
theorem z6s(V:Nat->Value)(m:Mach)(v:Value)(ins:List Inp)(n:Int)(w:World)(hm:MV w V m)(hI:InpsAt w v ins)(h0:m.Right)(h:chkI ins m.ck≠0):Calls Tryz.prog 12 #[.agg (machC V m),v,.int .i64 n] w fun e w'=>e= .returned (.tuple #[.agg Tryz.zeroCells42,.agg #[.slice none 0 0,.slice none 0 0,.slice none 0 0],.int .i64 (chkI ins m.ck)])/\Below w.heap.size w w':=by
 have CK:=zh (fun W (k:Below w.heap.size w W)=>z0J V m W (hm.below k))
 rw[(z0Q m).2 h0]at CK
 have ck0:=h0.time.1
 have IN:=zh (fun W (k:Below w.heap.size w W)=>z1a v ins m.ck W (hI.below k) (z0y kO))
 obtain⟨c,ec⟩:∃c,c=chkI ins m.ck:=⟨_,rfl⟩
 rw[<-ec]at IN h⊢
 have hcb:(c !=0)=true:=by rw[bne_iff_ne];exact h
 have ON:=zh (z0t m (fun i hi=>hm.one i hi))
 have ONZ:=z0F
 clear hm h ec hI h0 ck0
 go_enter Tryz.func12,Tryz.ntmps12
 go_wp2_with (first|((with_reducible show wpList _ _ _ _ _ _);refine lW 42 3 rfl rfl (w.heap.size) rfl (machC V m) kB Tryz.underlying42 ?_))
 refine(CK.out _ kL).mono ?_
 rintro e w1 ⟨rfl,hb1⟩
 have KM:=zh (show Blk w1 w.heap.size (machC V m) 42 from kB)
 have c72:w1.cell? ⟨w.heap.size,72,none⟩=some (.int .i64 m.ck):=(KM.out.cell 72).trans (mx72 ..)
 have lk:=KM.out.lt
 have K1:=zh (show Blk w1 (w.heap.size+1) Tryz.zeroCells42 42 from kB)
 have K2:=zh (show Blk w1 (w.heap.size+1+1) #[.slice none 0 0,.slice none 0 0,.slice none 0 0] 46 from kB)
 have B1:Below w.heap.size w w1:=kL
 clear hb1 KM
 go_wp2_with (first|((with_reducible show wpList _ _ _ _ _ _);refine lW 42 3 rfl rfl (w.heap.size) rfl (machC V m) kB Tryz.underlying42 ?_))
 refine(IN.out _ B1).mono ?_
 rintro e w4 ⟨rfl,hb4⟩
 have B4:=below_then B1 hb4
 have K1:=zh (K1.out.below hb4)
 have K2:=zh (K2.out.below hb4)
 clear hb4 B1 c72 lk
 go_wp2_with (first|((with_reducible show wpList _ _ _ _ _ _);first|(refine sW 42 6 34 rfl rfl (w.heap.size+1) Tryz.zeroCells42 rfl rfl Tryz.zeroCells42 kB ?_;intro w2 hp_w2 K_w2)|(refine sW 46 7 35 rfl rfl (w.heap.size+1+1) #[.slice none 0 0,.slice none 0 0,.slice none 0 0] rfl rfl #[.slice none 0 0,.slice none 0 0,.slice none 0 0] kB ?_;intro w3 hp_w3 K_w3)))
 exact bodyPost_ret (z0H Tryz.results12 _ _ (w.heap.size+1) (w.heap.size+1+1) 42 46 _ _ _ _ rfl (K_w2.out.put hp_w3 (Nat.ne_of_lt (Nat.lt_succ_self _))) Tryz.underlying42 rfl kR rfl K_w3.out Tryz.underlying46 rfl kR) rfl ⟨rfl,kL⟩
theorem z6r(V:Nat->Value)(m:Mach)(v:Value)(ins:List Inp)(n:Int)(w:World)(hm:MV w V m)(hI:InpsAt w v ins)(h0:m.Right)(h1:chkI ins m.ck=0)(h:n<0\/(¬n<0/\20000<n)\/(¬n<0/\¬20000<n/\200000<m.ck+n)):Calls Tryz.prog 12 #[.agg (machC V m),v,.int .i64 n] w fun e w'=>e= .returned (.tuple #[.agg Tryz.zeroCells42,.agg #[.slice none 0 0,.slice none 0 0,.slice none 0 0],.int .i64 3])/\Below w.heap.size w w':=by
 have CK:=zh (fun W (k:Below w.heap.size w W)=>z0J V m W (hm.below k))
 rw[(z0Q m).2 h0]at CK
 have ck0:=h0.time.1
 have IN:=zh (fun W (k:Below w.heap.size w W)=>z1a v ins m.ck W (hI.below k) (z0y kO))
 rw[h1]at IN
 have ON:=zh (z0t m (fun i hi=>hm.one i hi))
 have ONZ:=z0F
 have h':n<0\/(¬n<0/\20000<n)\/(¬n<0/\¬20000<n/\200000<wrap64 (m.ck+n)):=by
  rcases h with h|h|h
  ·exact .inl h
  ·exact .inr (.inl h)
  ·refine .inr (.inr ⟨h.1,h.2.1,?_⟩)
   rw[z0l _ kO kO]
   exact h.2.2
 clear hm hI h0 h1 ck0 h
 rcases h' with hn|⟨hn,hp⟩|⟨hn,hp,hq⟩
 all_goals
  go_enter Tryz.func12,Tryz.ntmps12
  go_wp2_with (first|((with_reducible show wpList _ _ _ _ _ _);refine lW 42 3 rfl rfl (w.heap.size) rfl (machC V m) kB Tryz.underlying42 ?_))
  refine(CK.out _ kL).mono ?_
  rintro e w1 ⟨rfl,hb1⟩
  have KM:=zh (show Blk w1 w.heap.size (machC V m) 42 from kB)
  have c72:w1.cell? ⟨w.heap.size,72,none⟩=some (.int .i64 m.ck):=(KM.out.cell 72).trans (mx72 ..)
  have lk:=KM.out.lt
  have K1:=zh (show Blk w1 (w.heap.size+1) Tryz.zeroCells42 42 from kB)
  have K2:=zh (show Blk w1 (w.heap.size+1+1) #[.slice none 0 0,.slice none 0 0,.slice none 0 0] 46 from kB)
  have B1:Below w.heap.size w w1:=kL
  clear hb1
  go_wp2_with (first|((with_reducible show wpList _ _ _ _ _ _);refine lW 42 3 rfl rfl (w.heap.size) rfl (machC V m) kB Tryz.underlying42 ?_))
  refine(IN.out _ B1).mono ?_
  rintro e w4 ⟨rfl,hb4⟩
  have B4:=below_then B1 hb4
  have K1:=zh (K1.out.below hb4)
  have K2:=zh (K2.out.below hb4)
  have KM4:=zh (KM.out.below hb4)
  have c72:w4.cell? ⟨w.heap.size,72,none⟩=some (.int .i64 m.ck):=(KM4.out.cell 72).trans (mx72 ..)
  have lk:=KM4.out.lt
  clear hb4 B1 KM KM4
  go_wp2_with (first|((with_reducible show wpList _ _ _ _ _ _);first|(refine sW 42 6 50 rfl rfl (w.heap.size+1) Tryz.zeroCells42 rfl rfl Tryz.zeroCells42 kB ?_;intro w2 hp_w2 K_w2)|(refine sW 46 7 51 rfl rfl (w.heap.size+1+1) #[.slice none 0 0,.slice none 0 0,.slice none 0 0] rfl rfl #[.slice none 0 0,.slice none 0 0,.slice none 0 0] kB ?_;intro w3 hp_w3 K_w3)))
  exact bodyPost_ret (z0H Tryz.results12 _ _ (w.heap.size+1) (w.heap.size+1+1) 42 46 _ _ _ _ rfl (K_w2.out.put hp_w3 (Nat.ne_of_lt (Nat.lt_succ_self _))) Tryz.underlying42 rfl kR rfl K_w3.out Tryz.underlying46 rfl kR) rfl ⟨rfl,kL⟩
theorem z4F(V:Nat->Value)(m:Mach)(v:Value)(ins:List Inp)(n:Int)(w:World)(hm:MV w V m)(hI:InpsAt w v ins)(h:errL m ins n≠0):Calls Tryz.prog 12 #[.agg (machC V m),v,.int .i64 n] w fun e w'=>e= .returned (.tuple #[.agg Tryz.zeroCells42,.agg #[.slice none 0 0,.slice none 0 0,.slice none 0 0],.int .i64 (errL m ins n)])/\Below w.heap.size w w':=by
 unfold errL at h⊢
 by_cases h1:chk m=0
 ·rw[if_neg (fun k=>k h1)]at h⊢
  have hr:=(z0Q m).1 h1
  by_cases h2:chkI ins m.ck=0
  ·rw[if_neg (fun k=>k h2)]at h⊢
   by_cases h3:n<0\/20000<n\/200000<m.ck+n
   ·rw[if_pos h3]
    exact z6r V m v ins n w hm hI hr h2 kO
   ·rw[if_neg h3]at h;exact absurd rfl h
  ·rw[if_pos h2]
   exact z6s V m v ins n w hm hI hr h2
 ·rw[if_pos h1]
  exact z6t V m v ins n w hm hI h1
end Go.Proofs.YtkoocfcnfolkhaaGreatDoor
namespace Go.Mq
open Go
theorem z1k(s:List UInt8)(c:UInt8):(Lib.index s [c]= -1/\c∉s)\/∃(a b:List UInt8),s=a++c::b/\c∉a/\Lib.index s [c]=a.length:=by
 rw[Lib.index_one]
 rcases h:decide (Lib.indexByte s c= -1)with _|_
 ·have hn:=of_decide_eq_false h
  have hg:=Lib.indexByte_ge s c
  obtain⟨o,ho⟩:∃o:Nat,Lib.indexByte s c=o:=⟨(Lib.indexByte s c).toNat,by omega⟩
  obtain⟨h1,h2⟩:=Lib.indexByte_some ho
  obtain⟨hlt,he⟩:=List.getElem?_eq_some_iff.1 h1
  refine .inr ⟨s.take o,s.drop (o+1),?_,fun hm=> ?_,?_⟩
  ·rw[<-he,<-List.drop_eq_getElem_cons hlt,List.take_append_drop]
  ·obtain⟨k,hk,e⟩:=List.mem_iff_getElem.1 hm
   rw[List.length_take]at hk
   rw[List.getElem_take]at e
   exact h2 k kO (by rw[List.getElem?_eq_getElem kO,e])
  ·rw[ho,List.length_take];omega
 ·have hn:=of_decide_eq_true h
  refine .inl ⟨hn,fun hm=> ?_⟩
  obtain⟨k,hk,e⟩:=List.mem_iff_getElem.1 hm
  exact Lib.indexByte_none hn k (by rw[List.getElem?_eq_getElem hk,e])
theorem z2G(c:UInt8):∀(n:Nat) (s:List UInt8),s.length<=n->Lib.splitK [c] 0 (Lib.count s [c]) s=sepBy c s
 |n,s,hn=>by
  rcases z1k s c with⟨h1,h2⟩|⟨a,b,rfl,h2,h3⟩
  ·rw[Lib.count_miss h1,z3l c s h2]
   rfl
  ·rw[Lib.count_hit kS h3,Nat.add_comm 1,Lib.splitK,if_neg (by rw[h3];intro e;have:=beq_iff_eq.1 e;omega),z4g c a b h2,h3]
   simp only[Int.toNat_natCast,List.length_singleton,Nat.add_zero]
   have e1:(a++c::b).take a.length=a:=by simp
   have e2:(a++c::b).drop (a.length+1)=b:=by simp
   rw[e1,e2]
   cases n with
   |zero=>simp at hn
   |succ n=>rw[z2G c n b (by simp at hn;omega)]
theorem z6S(c:UInt8)(s:List UInt8):Lib.splitK [c] 0 (Lib.count s [c]) s=sepBy c s:=z2G c _ s (Nat.le_refl _)
theorem z9C(c:UInt8)(s:List UInt8)(h:c∉s):Lib.cut s [c]=(s,[],false):=by
 rcases z1k s c with⟨h1,h2⟩|⟨a,b,rfl,h2,h3⟩
 ·unfold Lib.cut
  rw[if_neg (by rw[h1];omega)]
 ·exact absurd kS h
theorem z0bK(c:UInt8)(a b:List UInt8)(h:c∉a):Lib.cut (a++c::b) [c]=(a,b,true):=by
 rcases z1k (a++c::b) c with⟨h1,h2⟩|⟨a',b',e,h2,h3⟩
 ·exact absurd kS h2
 ·have ha:a'=a/\b'=b:=by
   clear h3
   induction a generalizing a' with
   |nil=>cases a' with
    |nil=>simp at e;exact⟨rfl,e.symm⟩
    |cons x t=>simp at e;exact absurd (by simp[e.1]) h2
   |cons y t ih=>cases a' with
    |nil=>simp at e;exact absurd (by simp[e.1]) h
    |cons x t'=>
     simp only[List.cons_append,List.cons.injEq]at e
     obtain⟨r1,r2⟩:=ih (fun hm=>h (by simp[hm])) t' e.2 (fun hm=>h2 (by simp[hm]))
     exact⟨by rw[r1,e.1],r2⟩
  obtain⟨rfl,rfl⟩:=ha
  unfold Lib.cut
  rw[h3,if_pos kO]
  simp
end Go.Mq
