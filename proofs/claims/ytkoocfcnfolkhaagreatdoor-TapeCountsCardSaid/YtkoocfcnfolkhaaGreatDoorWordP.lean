/- The words' program functions: sums, differences, products, shifts, bytes, and what Flags computes. Conditions: the arguments are words. -/
import Derived.Test.YtkoocfcnfolkhaaGreatDoorSq
import Derived.Test.YtkoocfcnfolkhaaGreatDoorRows
import Derived.Test.YtkoocfcnfolkhaaGreatDoorWordPure
namespace Go.Proofs.YtkoocfcnfolkhaaGreatDoor
open Go.RowKit Go.Mq
theorem z6L(a:Int)(ha:U16 a)(w:World):
  Calls Tryz.prog 168 #[.int .u16 a] w fun e w'=>e= .returned (.tuple #[.int .u8 (a/256),.int .u8 (a%256)])/\w=w':=by
 obtain⟨ha0,ha1⟩:=id ha
 go_enter Tryz.func168,Tryz.ntmps168
 go_wp2
 go_ret2
 exact⟨ret2 rfl (vi (wrap8 a)),rfl⟩
theorem z0am(h l:Int)(h0:0<=h)(h1:h<=255)(l0:0<=l)(l1:l<=255)(w:World):
  Calls Tryz.prog 106 #[.int .u8 h,.int .u8 l] w fun e w'=>e= .returned (.int .u16 (h*256+l))/\w=w':=by
 go_enter Tryz.func106,Tryz.ntmps106
 go_wp2
 go_ret
 refine⟨ret1 (vi ?_),rfl⟩
 rw[show h*256=((h.toNat*256:Nat):Int)from by omega,show l=((l.toNat:Nat):Int)from by omega,u16_or_nat _ _ kO kO,nat_join 8 _ _ kO kO]
 omega
theorem z6S(a b:Int)(ha:U16 a)(hb:U16 b)(w:World):
  Calls Tryz.prog 157 #[.int .u16 a,.int .u16 b] w fun e w'=>e= .returned (.tuple #[.int .u16 (addN a b),.bool (addC a b),.bool (addV a b)])/\w=w':=by
 obtain⟨ha0,ha1⟩:=id ha;obtain⟨hb0,hb1⟩:=id hb
 go_enter Tryz.func157,Tryz.ntmps157
 go_wp2
 go_ret3
 refine⟨ret3 (vi (z0l _)) (vb (?_:decide (IntKind.u16.wrap (a+b)<a)=_)) (vb ?_),rfl⟩
 ·rw[z0l];exact z9S a b ha hb
 ·rw[z0l];exact z9R a b ha hb
theorem z5D(a b:Int)(ha:U16 a)(hb:U16 b)(w:World):
  Calls Tryz.prog 160 #[.int .u16 a,.int .u16 b] w fun e w'=>e= .returned (.tuple #[.int .u16 (subN a b),.bool (subC a b),.bool (subV a b)])/\w=w':=by
 obtain⟨ha0,ha1⟩:=id ha;obtain⟨hb0,hb1⟩:=id hb
 go_enter Tryz.func160,Tryz.ntmps160
 go_wp2
 go_ret3
 refine⟨ret3 (vi (z0l _)) rfl (vb ?_),rfl⟩
 rw[z0l];exact z8K a b ha hb
theorem z8X(a b:Int)(ha:U16 a)(hb:U16 b)(w:World):
  Calls Tryz.prog 166 #[.int .u16 a,.int .u16 b] w fun e w'=>e= .returned (.tuple #[.int .u16 (mulN a b),.bool (mulH a b)])/\w=w':=by
 obtain⟨ha0,ha1⟩:=id ha;obtain⟨hb0,hb1⟩:=id hb
 have h1:0<=a*b:=Int.mul_nonneg ha0 hb0
 have h2:a*b<=65535*65535:=Int.mul_le_mul ha1 hb1 hb0 kO
 go_enter Tryz.func166,Tryz.ntmps166
 go_wp2
 go_ret2
 refine⟨ret2 (vi (z0l _)) (vb (?_:(a*b/65536 !=0)=_)),rfl⟩
 unfold mulH
 rw[Bool.eq_iff_iff]
 simp
 omega
theorem z0ae(a n:Int)(ha:U16 a)(h0:0<=n)(h1:n<=15)(w:World):
  Calls Tryz.prog 133 #[.int .u16 a,.int .i64 n] w fun e w'=>e= .returned (.tuple #[.int .u16 (shlN a n.toNat),.bool (shlO a n.toNat),.int .i64 0])/\Drew w w':=by
 obtain⟨ha0,ha1⟩:=id ha
 by_cases hn:n=0
 ·subst hn
  go_enter Tryz.func133,Tryz.ntmps133
  go_wp2
  go_ret3
  refine⟨ret3 (vi ?_) (vb ?_) rfl,0,rfl⟩
  ·rw[show(0:Int).toNat=0 from rfl,z7c a ha]
  ·rw[show(0:Int).toNat=0 from rfl,z5M a ha]
 ·have hn':(n==0)=false:=beq_eq_false_iff_ne.2 hn
  go_enter Tryz.func133,Tryz.ntmps133
  go_wp2
  go_quiet (fail)
  go_wp2
  go_ret3
  refine⟨ret3 (vi (z0l _)) (vb ?_) rfl,nq,rfl⟩
  rw[show n.toNat=16-(16-n).toNat from by omega]
  exact z7d a (16-n).toNat ha kO kO
theorem z0ad(a n:Int)(ha:U16 a)(h0:0<=n)(h1:n<=15)(w:World):
  Calls Tryz.prog 134 #[.int .u16 a,.int .i64 n] w fun e w'=>e= .returned (.tuple #[.int .u16 (shrN a n.toNat),.bool (shrO a n.toNat),.int .i64 0])/\Drew w w':=by
 obtain⟨ha0,ha1⟩:=id ha
 by_cases hn:n=0
 ·subst hn
  go_enter Tryz.func134,Tryz.ntmps134
  go_wp2
  go_ret3
  refine⟨ret3 (vi ?_) (vb ?_) rfl,0,rfl⟩
  ·rw[show(0:Int).toNat=0 from rfl,z7b]
  ·rw[show(0:Int).toNat=0 from rfl,z5I]
 ·have hn':(n==0)=false:=beq_eq_false_iff_ne.2 hn
  go_enter Tryz.func134,Tryz.ntmps134
  go_wp2
  go_quiet (fail)
  go_wp2
  go_ret3
  refine⟨ret3 (vi rfl) (vb ?_) rfl,nq,rfl⟩
  rw[show n.toNat=(n-1).toNat+1 from by omega,z5J]
  exact z4V a (n-1).toNat ha
theorem nat16{a:Int}(ha:U16 a):a.toNat<2^16:=by unfold U16 at ha;omega
theorem z9i(a b:Int)(_ha:U16 a)(hb:U16 b):a.toNat&&&b.toNat<2^16:=Nat.and_lt_two_pow _ (nat16 hb)
theorem z0av(a b:Int)(ha:U16 a)(hb:U16 b):a.toNat|||b.toNat<2^16:=Nat.or_lt_two_pow (nat16 ha) (nat16 hb)
theorem z0au(a b:Int)(ha:U16 a)(hb:U16 b):a.toNat^^^b.toNat<2^16:=Nat.xor_lt_two_pow (nat16 ha) (nat16 hb)
def NoSum(op:Int):Prop:=(op==7)=false/\(op==15)=false/\(op==8)=false/\(op==14)=false/\(op==9)=false/\(op==10)=false/\(op==11)=false/\(op==28)=false
def reckoners(pa pb:Value):List MapEntry:=[{key:= .int .i64 7,val:= .func (.func 156) #[] #[pa,pb],born:=0},{key:= .int .i64 15,val:= .func (.func 158) #[] #[pa,pb],born:=1},{key:= .int .i64 8,val:= .func (.func 159) #[] #[pa,pb],born:=2},{key:= .int .i64 14,val:= .func (.func 161) #[] #[pa,pb],born:=3},{key:= .int .i64 9,val:= .func (.func 162) #[] #[pa,pb],born:=4},{key:= .int .i64 10,val:= .func (.func 163) #[] #[pa,pb],born:=5},{key:= .int .i64 11,val:= .func (.func 164) #[] #[pa,pb],born:=6},{key:= .int .i64 28,val:= .func (.func 165) #[] #[pa,pb],born:=7}]
def upTo(pa pb:Value)(j:Nat):Array MapEntry:=((reckoners pa pb).take j).toArray
theorem z0B(pa pb:Value):upTo pa pb 0= #[]:=rfl
theorem z6u(w0:World)(pa pb:Value)(n j:Nat)(hn:n=w0.heap.size)(k:Int)(v:Value)(hk:(reckoners pa pb)[j]? =some {key:= .int .i64 k,val:=v,born:=j})
  (hf:Instr.findNow (.int .i64) (.int .i64 k) ((reckoners pa pb).take j) 0=some none):
  (Instr.mapUpdate 264 (.map (some n)) (.int .i64 k) v).run Tryz.prog (w0.alloc (.map (upTo pa pb j) j))= .ok () (w0.alloc (.map (upTo pa pb (j+1)) (j+1))):=by
 have h:=z3W (P:=Tryz.prog) w0 (es:=upTo pa pb j) (clock:=j) (val:=v) hn Tryz.underlying264 Tryz.underlying3 (by simp[MapKept.IsKey]) hf
 rw[h]
 unfold upTo
 rw[List.take_add_one,hk]
 simp
theorem fP(a b:Int)(w:World)(j:Nat)(k:Int)(v:Value)(hk:(reckoners (.pointer (some ⟨w.heap.size,0,none⟩)) (.pointer (some ⟨w.heap.size+1,0,none⟩)))[j]? =some {key:= .int .i64 k,val:=v,born:=j})
  (hf:Instr.findNow (.int .i64) (.int .i64 k) ((reckoners (.pointer (some ⟨w.heap.size,0,none⟩)) (.pointer (some ⟨w.heap.size+1,0,none⟩))).take j) 0=some none):
  (Instr.mapUpdate 264 (.map (some (w.heap.size+1+1))) (.int .i64 k) v).run Tryz.prog (((w.alloc (.cells #[.int .u16 a] 24)).alloc (.cells #[.int .u16 b] 24)).alloc (.map (upTo (.pointer (some ⟨w.heap.size,0,none⟩)) (.pointer (some ⟨w.heap.size+1,0,none⟩)) j) j))= .ok () (((w.alloc (.cells #[.int .u16 a] 24)).alloc (.cells #[.int .u16 b] 24)).alloc (.map (upTo (.pointer (some ⟨w.heap.size,0,none⟩)) (.pointer (some ⟨w.heap.size+1,0,none⟩)) (j+1)) (j+1))):=
 z6u ((w.alloc (.cells #[.int .u16 a] 24)).alloc (.cells #[.int .u16 b] 24)) (.pointer (some ⟨w.heap.size,0,none⟩)) (.pointer (some ⟨w.heap.size+1,0,none⟩)) (w.heap.size+1+1) j kS k v hk hf
theorem z0r(w:World)(f:Fn)(x y:Array Value):(binOp .eql 261 (.func f x y) .nilFunc).run Tryz.prog w= .ok (.bool false) w:=by kernel_rfl
theorem z0m(w:World):(binOp .eql 261 .nilFunc .nilFunc).run Tryz.prog w= .ok (.bool true) w:=by kernel_rfl
theorem z8r(a b:Int):U16 (mulN a b):=by unfold U16 mulN;omega
theorem z8B(a b:Int)(ha:U16 a)(hb:U16 b):U16 (bAnd a b):=by have:=z9i a b ha hb;unfold U16 bAnd;omega
theorem bOr_u(a b:Int)(ha:U16 a)(hb:U16 b):U16 (bOr a b):=by have:=z0av a b ha hb;unfold U16 bOr;omega
theorem z8A(a b:Int)(ha:U16 a)(hb:U16 b):U16 (bXor a b):=by have:=z0au a b ha hb;unfold U16 bXor;omega
theorem z0E(n:Int)(c v:Bool)(hn:U16 n)(w:World):
  Calls Tryz.prog 167 #[.int .u16 n,.bool c,.bool v] w fun e w'=>e= .returned (.agg #[.bool (n==0),.bool (decide (32768<=n)),.bool c,.bool v])/\Below w.heap.size w w':=by
 obtain⟨hn0,hn1⟩:=id hn
 have ht:(n/32768==1)=decide (32768<=n):=by rw[Bool.eq_iff_iff];simp;omega
 go_enter Tryz.func167,Tryz.ntmps167
 go_wp2
 exact bodyPost_ret (v:= .agg #[.bool (n==0),.bool (decide (32768<=n)),.bool c,.bool v]) (by simp[results,Tryz.results167,go_sem]) rfl ⟨rfl,(Below.refl _ _).alloc (Nat.le_refl _) _⟩
theorem fl_7(a b:Int)(ha:U16 a)(hb:U16 b)(pa pb:Addr)(w:World)(ca:w.cell? pa=some (.int .u16 a))(cb:w.cell? pb=some (.int .u16 b)):
  Calls Tryz.prog 156 #[.pointer (some pa),.pointer (some pb)] w fun e w'=>e= .returned (.tuple #[.int .u16 (addN a b),.bool (addC a b),.bool (addV a b)])/\w=w':=by
 obtain⟨ha0,ha1⟩:=id ha;obtain⟨hb0,hb1⟩:=id hb
 go_enter Tryz.func156,Tryz.ntmps156
 go_wp2_with fail
 refine(z6S a b ha hb _).mono ?_
 rintro e w' ⟨rfl,rfl⟩
 go_wp2
 go_ret3
 exact⟨rfl,rfl⟩
theorem fl_15(a b:Int)(ha:U16 a)(hb:U16 b)(pa pb:Addr)(w:World)(ca:w.cell? pa=some (.int .u16 a))(cb:w.cell? pb=some (.int .u16 b)):
  Calls Tryz.prog 158 #[.pointer (some pa),.pointer (some pb)] w fun e w'=>e= .returned (.tuple #[.int .u16 (addN a b),.bool (addC a b),.bool (addV a b)])/\w=w':=by
 obtain⟨ha0,ha1⟩:=id ha;obtain⟨hb0,hb1⟩:=id hb
 go_enter Tryz.func158,Tryz.ntmps158
 go_wp2_with fail
 refine(z6S a b ha hb _).mono ?_
 rintro e w' ⟨rfl,rfl⟩
 go_wp2
 go_ret3
 exact⟨rfl,rfl⟩
theorem fl_8(a b:Int)(ha:U16 a)(hb:U16 b)(pa pb:Addr)(w:World)(ca:w.cell? pa=some (.int .u16 a))(cb:w.cell? pb=some (.int .u16 b)):
  Calls Tryz.prog 159 #[.pointer (some pa),.pointer (some pb)] w fun e w'=>e= .returned (.tuple #[.int .u16 (subN a b),.bool (subC a b),.bool (subV a b)])/\w=w':=by
 obtain⟨ha0,ha1⟩:=id ha;obtain⟨hb0,hb1⟩:=id hb
 go_enter Tryz.func159,Tryz.ntmps159
 go_wp2_with fail
 refine(z5D a b ha hb _).mono ?_
 rintro e w' ⟨rfl,rfl⟩
 go_wp2
 go_ret3
 exact⟨rfl,rfl⟩
theorem fl_14(a b:Int)(ha:U16 a)(hb:U16 b)(pa pb:Addr)(w:World)(ca:w.cell? pa=some (.int .u16 a))(cb:w.cell? pb=some (.int .u16 b)):
  Calls Tryz.prog 161 #[.pointer (some pa),.pointer (some pb)] w fun e w'=>e= .returned (.tuple #[.int .u16 (subN a b),.bool (subC a b),.bool (subV a b)])/\w=w':=by
 obtain⟨ha0,ha1⟩:=id ha;obtain⟨hb0,hb1⟩:=id hb
 go_enter Tryz.func161,Tryz.ntmps161
 go_wp2_with fail
 refine(z5D a b ha hb _).mono ?_
 rintro e w' ⟨rfl,rfl⟩
 go_wp2
 go_ret3
 exact⟨rfl,rfl⟩
theorem fl_9(a b:Int)(ha:U16 a)(hb:U16 b)(pa pb:Addr)(w:World)(ca:w.cell? pa=some (.int .u16 a))(cb:w.cell? pb=some (.int .u16 b)):
  Calls Tryz.prog 162 #[.pointer (some pa),.pointer (some pb)] w fun e w'=>e= .returned (.tuple #[.int .u16 (bAnd a b),.bool (false),.bool (false)])/\w=w':=by
 obtain⟨ha0,ha1⟩:=id ha;obtain⟨hb0,hb1⟩:=id hb
 go_enter Tryz.func162,Tryz.ntmps162
 go_wp2
 go_ret3
 exact⟨ret3 (vi (u16_and a b ha0 kO hb0 kO)) rfl rfl,rfl⟩
theorem fl_10(a b:Int)(ha:U16 a)(hb:U16 b)(pa pb:Addr)(w:World)(ca:w.cell? pa=some (.int .u16 a))(cb:w.cell? pb=some (.int .u16 b)):
  Calls Tryz.prog 163 #[.pointer (some pa),.pointer (some pb)] w fun e w'=>e= .returned (.tuple #[.int .u16 (bOr a b),.bool (false),.bool (false)])/\w=w':=by
 obtain⟨ha0,ha1⟩:=id ha;obtain⟨hb0,hb1⟩:=id hb
 go_enter Tryz.func163,Tryz.ntmps163
 go_wp2
 go_ret3
 exact⟨ret3 (vi (u16_or a b ha0 kO hb0 kO)) rfl rfl,rfl⟩
theorem fl_11(a b:Int)(ha:U16 a)(hb:U16 b)(pa pb:Addr)(w:World)(ca:w.cell? pa=some (.int .u16 a))(cb:w.cell? pb=some (.int .u16 b)):
  Calls Tryz.prog 164 #[.pointer (some pa),.pointer (some pb)] w fun e w'=>e= .returned (.tuple #[.int .u16 (bXor a b),.bool (false),.bool (false)])/\w=w':=by
 obtain⟨ha0,ha1⟩:=id ha;obtain⟨hb0,hb1⟩:=id hb
 go_enter Tryz.func164,Tryz.ntmps164
 go_wp2
 go_ret3
 exact⟨ret3 (vi (u16_xor a b ha0 kO hb0 kO)) rfl rfl,rfl⟩
theorem fl_28(a b:Int)(ha:U16 a)(hb:U16 b)(pa pb:Addr)(w:World)(ca:w.cell? pa=some (.int .u16 a))(cb:w.cell? pb=some (.int .u16 b)):
  Calls Tryz.prog 165 #[.pointer (some pa),.pointer (some pb)] w fun e w'=>e= .returned (.tuple #[.int .u16 (mulN a b),.bool (mulH a b),.bool (false)])/\w=w':=by
 obtain⟨ha0,ha1⟩:=id ha;obtain⟨hb0,hb1⟩:=id hb
 go_enter Tryz.func165,Tryz.ntmps165
 go_wp2_with fail
 refine(z8X a b ha hb _).mono ?_
 rintro e w' ⟨rfl,rfl⟩
 go_wp2
 go_ret3
 exact⟨rfl,rfl⟩
set_option maxHeartbeats 400000 in
theorem z9s(a b:Int)(ha:U16 a)(hb:U16 b)(w:World):
  Calls Tryz.prog 135 #[.int .i64 7,.int .u16 a,.int .u16 b] w fun e w'=>e= .returned (.tuple #[.int .u16 (addN a b),.bool (addN a b==0),.bool (decide (32768<=addN a b)),.bool (addC a b),.bool (addV a b),.int .i64 0])/\Below w.heap.size w w':=by
 obtain⟨ha0,ha1⟩:=id ha;obtain⟨hb0,hb1⟩:=id hb
 have hmm:= @run_makeMap Tryz.prog
 have eq1:=z0r
 have eq0:=z0m
 have p0:=fP a b w 0 7 _ rfl rfl
 have p1:=fP a b w 1 15 _ rfl rfl
 have p2:=fP a b w 2 8 _ rfl rfl
 have p3:=fP a b w 3 14 _ rfl rfl
 have p4:=fP a b w 4 9 _ rfl rfl
 have p5:=fP a b w 5 10 _ rfl rfl
 have p6:=fP a b w 6 11 _ rfl rfl
 have p7:=fP a b w 7 28 _ rfl rfl
 rw[z0B]at p0
 have get:=z0v (P:=Tryz.prog) ((w.alloc (.cells #[.int .u16 a] 24)).alloc (.cells #[.int .u16 b] 24)) (es:=upTo (.pointer (some ⟨w.heap.size,0,none⟩)) (.pointer (some ⟨w.heap.size+1,0,none⟩)) 8) (clock:=8) (n:=w.heap.size+1+1) kS Tryz.underlying264 Tryz.underlying3 (key:= .int .i64 7) (by simp[MapKept.IsKey]) (i:=0) (v:= .func (.func 156) #[] #[.pointer (some ⟨w.heap.size,0,none⟩),.pointer (some ⟨w.heap.size+1,0,none⟩)]) rfl
 go_enter Tryz.func135,Tryz.ntmps135
 go_wp2_with fail
 refine(fl_7 a b ha hb _ _ _ (by go_simp) (by go_simp)).mono ?_
 rintro e w1 ⟨rfl,rfl⟩
 go_wp2_with fail
 refine(z0E (addN a b) (addC a b) (addV a b) (z3T a b) _).mono ?_
 rintro e w2 ⟨rfl,hb2⟩
 go_wp2
 go_quiet (fail)
 go_wp2
 have hs:=hb2.size
 simp at hs
 exact bodyPost_ret (v:= .tuple #[.int .u16 (addN a b),.bool (addN a b==0),.bool (decide (32768<=addN a b)),.bool (addC a b),.bool (addV a b),.int .i64 0]) (by simp[results,Tryz.results135,go_sem]) rfl
  ⟨rfl,((((((Below.refl _ _).alloc (Nat.le_refl _) _).alloc kS _).alloc (by simp;omega) _).trans (hb2.mono (by simp;omega))).alloc kO _).trans ((Drew.refl _).drewN _ |>.below _)⟩
set_option maxHeartbeats 400000 in
theorem z7N(a b:Int)(ha:U16 a)(hb:U16 b)(w:World):
  Calls Tryz.prog 135 #[.int .i64 15,.int .u16 a,.int .u16 b] w fun e w'=>e= .returned (.tuple #[.int .u16 (addN a b),.bool (addN a b==0),.bool (decide (32768<=addN a b)),.bool (addC a b),.bool (addV a b),.int .i64 0])/\Below w.heap.size w w':=by
 obtain⟨ha0,ha1⟩:=id ha;obtain⟨hb0,hb1⟩:=id hb
 have hmm:= @run_makeMap Tryz.prog
 have eq1:=z0r
 have eq0:=z0m
 have p0:=fP a b w 0 7 _ rfl rfl
 have p1:=fP a b w 1 15 _ rfl rfl
 have p2:=fP a b w 2 8 _ rfl rfl
 have p3:=fP a b w 3 14 _ rfl rfl
 have p4:=fP a b w 4 9 _ rfl rfl
 have p5:=fP a b w 5 10 _ rfl rfl
 have p6:=fP a b w 6 11 _ rfl rfl
 have p7:=fP a b w 7 28 _ rfl rfl
 rw[z0B]at p0
 have get:=z0v (P:=Tryz.prog) ((w.alloc (.cells #[.int .u16 a] 24)).alloc (.cells #[.int .u16 b] 24)) (es:=upTo (.pointer (some ⟨w.heap.size,0,none⟩)) (.pointer (some ⟨w.heap.size+1,0,none⟩)) 8) (clock:=8) (n:=w.heap.size+1+1) kS Tryz.underlying264 Tryz.underlying3 (key:= .int .i64 15) (by simp[MapKept.IsKey]) (i:=1) (v:= .func (.func 158) #[] #[.pointer (some ⟨w.heap.size,0,none⟩),.pointer (some ⟨w.heap.size+1,0,none⟩)]) rfl
 go_enter Tryz.func135,Tryz.ntmps135
 go_wp2_with fail
 refine(fl_15 a b ha hb _ _ _ (by go_simp) (by go_simp)).mono ?_
 rintro e w1 ⟨rfl,rfl⟩
 go_wp2_with fail
 refine(z0E (addN a b) (addC a b) (addV a b) (z3T a b) _).mono ?_
 rintro e w2 ⟨rfl,hb2⟩
 go_wp2
 go_quiet (fail)
 go_wp2
 have hs:=hb2.size
 simp at hs
 exact bodyPost_ret (v:= .tuple #[.int .u16 (addN a b),.bool (addN a b==0),.bool (decide (32768<=addN a b)),.bool (addC a b),.bool (addV a b),.int .i64 0]) (by simp[results,Tryz.results135,go_sem]) rfl
  ⟨rfl,((((((Below.refl _ _).alloc (Nat.le_refl _) _).alloc kS _).alloc (by simp;omega) _).trans (hb2.mono (by simp;omega))).alloc kO _).trans ((Drew.refl _).drewN _ |>.below _)⟩
set_option maxHeartbeats 400000 in
theorem z9r(a b:Int)(ha:U16 a)(hb:U16 b)(w:World):
  Calls Tryz.prog 135 #[.int .i64 8,.int .u16 a,.int .u16 b] w fun e w'=>e= .returned (.tuple #[.int .u16 (subN a b),.bool (subN a b==0),.bool (decide (32768<=subN a b)),.bool (subC a b),.bool (subV a b),.int .i64 0])/\Below w.heap.size w w':=by
 obtain⟨ha0,ha1⟩:=id ha;obtain⟨hb0,hb1⟩:=id hb
 have hmm:= @run_makeMap Tryz.prog
 have eq1:=z0r
 have eq0:=z0m
 have p0:=fP a b w 0 7 _ rfl rfl
 have p1:=fP a b w 1 15 _ rfl rfl
 have p2:=fP a b w 2 8 _ rfl rfl
 have p3:=fP a b w 3 14 _ rfl rfl
 have p4:=fP a b w 4 9 _ rfl rfl
 have p5:=fP a b w 5 10 _ rfl rfl
 have p6:=fP a b w 6 11 _ rfl rfl
 have p7:=fP a b w 7 28 _ rfl rfl
 rw[z0B]at p0
 have get:=z0v (P:=Tryz.prog) ((w.alloc (.cells #[.int .u16 a] 24)).alloc (.cells #[.int .u16 b] 24)) (es:=upTo (.pointer (some ⟨w.heap.size,0,none⟩)) (.pointer (some ⟨w.heap.size+1,0,none⟩)) 8) (clock:=8) (n:=w.heap.size+1+1) kS Tryz.underlying264 Tryz.underlying3 (key:= .int .i64 8) (by simp[MapKept.IsKey]) (i:=2) (v:= .func (.func 159) #[] #[.pointer (some ⟨w.heap.size,0,none⟩),.pointer (some ⟨w.heap.size+1,0,none⟩)]) rfl
 go_enter Tryz.func135,Tryz.ntmps135
 go_wp2_with fail
 refine(fl_8 a b ha hb _ _ _ (by go_simp) (by go_simp)).mono ?_
 rintro e w1 ⟨rfl,rfl⟩
 go_wp2_with fail
 refine(z0E (subN a b) (subC a b) (subV a b) (z4w a b) _).mono ?_
 rintro e w2 ⟨rfl,hb2⟩
 go_wp2
 go_quiet (fail)
 go_wp2
 have hs:=hb2.size
 simp at hs
 exact bodyPost_ret (v:= .tuple #[.int .u16 (subN a b),.bool (subN a b==0),.bool (decide (32768<=subN a b)),.bool (subC a b),.bool (subV a b),.int .i64 0]) (by simp[results,Tryz.results135,go_sem]) rfl
  ⟨rfl,((((((Below.refl _ _).alloc (Nat.le_refl _) _).alloc kS _).alloc (by simp;omega) _).trans (hb2.mono (by simp;omega))).alloc kO _).trans ((Drew.refl _).drewN _ |>.below _)⟩
set_option maxHeartbeats 400000 in
theorem z7O(a b:Int)(ha:U16 a)(hb:U16 b)(w:World):
  Calls Tryz.prog 135 #[.int .i64 14,.int .u16 a,.int .u16 b] w fun e w'=>e= .returned (.tuple #[.int .u16 (subN a b),.bool (subN a b==0),.bool (decide (32768<=subN a b)),.bool (subC a b),.bool (subV a b),.int .i64 0])/\Below w.heap.size w w':=by
 obtain⟨ha0,ha1⟩:=id ha;obtain⟨hb0,hb1⟩:=id hb
 have hmm:= @run_makeMap Tryz.prog
 have eq1:=z0r
 have eq0:=z0m
 have p0:=fP a b w 0 7 _ rfl rfl
 have p1:=fP a b w 1 15 _ rfl rfl
 have p2:=fP a b w 2 8 _ rfl rfl
 have p3:=fP a b w 3 14 _ rfl rfl
 have p4:=fP a b w 4 9 _ rfl rfl
 have p5:=fP a b w 5 10 _ rfl rfl
 have p6:=fP a b w 6 11 _ rfl rfl
 have p7:=fP a b w 7 28 _ rfl rfl
 rw[z0B]at p0
 have get:=z0v (P:=Tryz.prog) ((w.alloc (.cells #[.int .u16 a] 24)).alloc (.cells #[.int .u16 b] 24)) (es:=upTo (.pointer (some ⟨w.heap.size,0,none⟩)) (.pointer (some ⟨w.heap.size+1,0,none⟩)) 8) (clock:=8) (n:=w.heap.size+1+1) kS Tryz.underlying264 Tryz.underlying3 (key:= .int .i64 14) (by simp[MapKept.IsKey]) (i:=3) (v:= .func (.func 161) #[] #[.pointer (some ⟨w.heap.size,0,none⟩),.pointer (some ⟨w.heap.size+1,0,none⟩)]) rfl
 go_enter Tryz.func135,Tryz.ntmps135
 go_wp2_with fail
 refine(fl_14 a b ha hb _ _ _ (by go_simp) (by go_simp)).mono ?_
 rintro e w1 ⟨rfl,rfl⟩
 go_wp2_with fail
 refine(z0E (subN a b) (subC a b) (subV a b) (z4w a b) _).mono ?_
 rintro e w2 ⟨rfl,hb2⟩
 go_wp2
 go_quiet (fail)
 go_wp2
 have hs:=hb2.size
 simp at hs
 exact bodyPost_ret (v:= .tuple #[.int .u16 (subN a b),.bool (subN a b==0),.bool (decide (32768<=subN a b)),.bool (subC a b),.bool (subV a b),.int .i64 0]) (by simp[results,Tryz.results135,go_sem]) rfl
  ⟨rfl,((((((Below.refl _ _).alloc (Nat.le_refl _) _).alloc kS _).alloc (by simp;omega) _).trans (hb2.mono (by simp;omega))).alloc kO _).trans ((Drew.refl _).drewN _ |>.below _)⟩
set_option maxHeartbeats 400000 in
theorem z9q(a b:Int)(ha:U16 a)(hb:U16 b)(w:World):
  Calls Tryz.prog 135 #[.int .i64 9,.int .u16 a,.int .u16 b] w fun e w'=>e= .returned (.tuple #[.int .u16 (bAnd a b),.bool (bAnd a b==0),.bool (decide (32768<=bAnd a b)),.bool (false),.bool (false),.int .i64 0])/\Below w.heap.size w w':=by
 obtain⟨ha0,ha1⟩:=id ha;obtain⟨hb0,hb1⟩:=id hb
 have hmm:= @run_makeMap Tryz.prog
 have eq1:=z0r
 have eq0:=z0m
 have p0:=fP a b w 0 7 _ rfl rfl
 have p1:=fP a b w 1 15 _ rfl rfl
 have p2:=fP a b w 2 8 _ rfl rfl
 have p3:=fP a b w 3 14 _ rfl rfl
 have p4:=fP a b w 4 9 _ rfl rfl
 have p5:=fP a b w 5 10 _ rfl rfl
 have p6:=fP a b w 6 11 _ rfl rfl
 have p7:=fP a b w 7 28 _ rfl rfl
 rw[z0B]at p0
 have get:=z0v (P:=Tryz.prog) ((w.alloc (.cells #[.int .u16 a] 24)).alloc (.cells #[.int .u16 b] 24)) (es:=upTo (.pointer (some ⟨w.heap.size,0,none⟩)) (.pointer (some ⟨w.heap.size+1,0,none⟩)) 8) (clock:=8) (n:=w.heap.size+1+1) kS Tryz.underlying264 Tryz.underlying3 (key:= .int .i64 9) (by simp[MapKept.IsKey]) (i:=4) (v:= .func (.func 162) #[] #[.pointer (some ⟨w.heap.size,0,none⟩),.pointer (some ⟨w.heap.size+1,0,none⟩)]) rfl
 go_enter Tryz.func135,Tryz.ntmps135
 go_wp2_with fail
 refine(fl_9 a b ha hb _ _ _ (by go_simp) (by go_simp)).mono ?_
 rintro e w1 ⟨rfl,rfl⟩
 go_wp2_with fail
 refine(z0E (bAnd a b) (false) (false) (z8B a b ha hb) _).mono ?_
 rintro e w2 ⟨rfl,hb2⟩
 go_wp2
 go_quiet (fail)
 go_wp2
 have hs:=hb2.size
 simp at hs
 exact bodyPost_ret (v:= .tuple #[.int .u16 (bAnd a b),.bool (bAnd a b==0),.bool (decide (32768<=bAnd a b)),.bool (false),.bool (false),.int .i64 0]) (by simp[results,Tryz.results135,go_sem]) rfl
  ⟨rfl,((((((Below.refl _ _).alloc (Nat.le_refl _) _).alloc kS _).alloc (by simp;omega) _).trans (hb2.mono (by simp;omega))).alloc kO _).trans ((Drew.refl _).drewN _ |>.below _)⟩
set_option maxHeartbeats 400000 in
theorem z7Q(a b:Int)(ha:U16 a)(hb:U16 b)(w:World):
  Calls Tryz.prog 135 #[.int .i64 10,.int .u16 a,.int .u16 b] w fun e w'=>e= .returned (.tuple #[.int .u16 (bOr a b),.bool (bOr a b==0),.bool (decide (32768<=bOr a b)),.bool (false),.bool (false),.int .i64 0])/\Below w.heap.size w w':=by
 obtain⟨ha0,ha1⟩:=id ha;obtain⟨hb0,hb1⟩:=id hb
 have hmm:= @run_makeMap Tryz.prog
 have eq1:=z0r
 have eq0:=z0m
 have p0:=fP a b w 0 7 _ rfl rfl
 have p1:=fP a b w 1 15 _ rfl rfl
 have p2:=fP a b w 2 8 _ rfl rfl
 have p3:=fP a b w 3 14 _ rfl rfl
 have p4:=fP a b w 4 9 _ rfl rfl
 have p5:=fP a b w 5 10 _ rfl rfl
 have p6:=fP a b w 6 11 _ rfl rfl
 have p7:=fP a b w 7 28 _ rfl rfl
 rw[z0B]at p0
 have get:=z0v (P:=Tryz.prog) ((w.alloc (.cells #[.int .u16 a] 24)).alloc (.cells #[.int .u16 b] 24)) (es:=upTo (.pointer (some ⟨w.heap.size,0,none⟩)) (.pointer (some ⟨w.heap.size+1,0,none⟩)) 8) (clock:=8) (n:=w.heap.size+1+1) kS Tryz.underlying264 Tryz.underlying3 (key:= .int .i64 10) (by simp[MapKept.IsKey]) (i:=5) (v:= .func (.func 163) #[] #[.pointer (some ⟨w.heap.size,0,none⟩),.pointer (some ⟨w.heap.size+1,0,none⟩)]) rfl
 go_enter Tryz.func135,Tryz.ntmps135
 go_wp2_with fail
 refine(fl_10 a b ha hb _ _ _ (by go_simp) (by go_simp)).mono ?_
 rintro e w1 ⟨rfl,rfl⟩
 go_wp2_with fail
 refine(z0E (bOr a b) (false) (false) (bOr_u a b ha hb) _).mono ?_
 rintro e w2 ⟨rfl,hb2⟩
 go_wp2
 go_quiet (fail)
 go_wp2
 have hs:=hb2.size
 simp at hs
 exact bodyPost_ret (v:= .tuple #[.int .u16 (bOr a b),.bool (bOr a b==0),.bool (decide (32768<=bOr a b)),.bool (false),.bool (false),.int .i64 0]) (by simp[results,Tryz.results135,go_sem]) rfl
  ⟨rfl,((((((Below.refl _ _).alloc (Nat.le_refl _) _).alloc kS _).alloc (by simp;omega) _).trans (hb2.mono (by simp;omega))).alloc kO _).trans ((Drew.refl _).drewN _ |>.below _)⟩
set_option maxHeartbeats 400000 in
theorem z7P(a b:Int)(ha:U16 a)(hb:U16 b)(w:World):
  Calls Tryz.prog 135 #[.int .i64 11,.int .u16 a,.int .u16 b] w fun e w'=>e= .returned (.tuple #[.int .u16 (bXor a b),.bool (bXor a b==0),.bool (decide (32768<=bXor a b)),.bool (false),.bool (false),.int .i64 0])/\Below w.heap.size w w':=by
 obtain⟨ha0,ha1⟩:=id ha;obtain⟨hb0,hb1⟩:=id hb
 have hmm:= @run_makeMap Tryz.prog
 have eq1:=z0r
 have eq0:=z0m
 have p0:=fP a b w 0 7 _ rfl rfl
 have p1:=fP a b w 1 15 _ rfl rfl
 have p2:=fP a b w 2 8 _ rfl rfl
 have p3:=fP a b w 3 14 _ rfl rfl
 have p4:=fP a b w 4 9 _ rfl rfl
 have p5:=fP a b w 5 10 _ rfl rfl
 have p6:=fP a b w 6 11 _ rfl rfl
 have p7:=fP a b w 7 28 _ rfl rfl
 rw[z0B]at p0
 have get:=z0v (P:=Tryz.prog) ((w.alloc (.cells #[.int .u16 a] 24)).alloc (.cells #[.int .u16 b] 24)) (es:=upTo (.pointer (some ⟨w.heap.size,0,none⟩)) (.pointer (some ⟨w.heap.size+1,0,none⟩)) 8) (clock:=8) (n:=w.heap.size+1+1) kS Tryz.underlying264 Tryz.underlying3 (key:= .int .i64 11) (by simp[MapKept.IsKey]) (i:=6) (v:= .func (.func 164) #[] #[.pointer (some ⟨w.heap.size,0,none⟩),.pointer (some ⟨w.heap.size+1,0,none⟩)]) rfl
 go_enter Tryz.func135,Tryz.ntmps135
 go_wp2_with fail
 refine(fl_11 a b ha hb _ _ _ (by go_simp) (by go_simp)).mono ?_
 rintro e w1 ⟨rfl,rfl⟩
 go_wp2_with fail
 refine(z0E (bXor a b) (false) (false) (z8A a b ha hb) _).mono ?_
 rintro e w2 ⟨rfl,hb2⟩
 go_wp2
 go_quiet (fail)
 go_wp2
 have hs:=hb2.size
 simp at hs
 exact bodyPost_ret (v:= .tuple #[.int .u16 (bXor a b),.bool (bXor a b==0),.bool (decide (32768<=bXor a b)),.bool (false),.bool (false),.int .i64 0]) (by simp[results,Tryz.results135,go_sem]) rfl
  ⟨rfl,((((((Below.refl _ _).alloc (Nat.le_refl _) _).alloc kS _).alloc (by simp;omega) _).trans (hb2.mono (by simp;omega))).alloc kO _).trans ((Drew.refl _).drewN _ |>.below _)⟩
set_option maxHeartbeats 400000 in
theorem z7M(a b:Int)(ha:U16 a)(hb:U16 b)(w:World):
  Calls Tryz.prog 135 #[.int .i64 28,.int .u16 a,.int .u16 b] w fun e w'=>e= .returned (.tuple #[.int .u16 (mulN a b),.bool (mulN a b==0),.bool (decide (32768<=mulN a b)),.bool (mulH a b),.bool (false),.int .i64 0])/\Below w.heap.size w w':=by
 obtain⟨ha0,ha1⟩:=id ha;obtain⟨hb0,hb1⟩:=id hb
 have hmm:= @run_makeMap Tryz.prog
 have eq1:=z0r
 have eq0:=z0m
 have p0:=fP a b w 0 7 _ rfl rfl
 have p1:=fP a b w 1 15 _ rfl rfl
 have p2:=fP a b w 2 8 _ rfl rfl
 have p3:=fP a b w 3 14 _ rfl rfl
 have p4:=fP a b w 4 9 _ rfl rfl
 have p5:=fP a b w 5 10 _ rfl rfl
 have p6:=fP a b w 6 11 _ rfl rfl
 have p7:=fP a b w 7 28 _ rfl rfl
 rw[z0B]at p0
 have get:=z0v (P:=Tryz.prog) ((w.alloc (.cells #[.int .u16 a] 24)).alloc (.cells #[.int .u16 b] 24)) (es:=upTo (.pointer (some ⟨w.heap.size,0,none⟩)) (.pointer (some ⟨w.heap.size+1,0,none⟩)) 8) (clock:=8) (n:=w.heap.size+1+1) kS Tryz.underlying264 Tryz.underlying3 (key:= .int .i64 28) (by simp[MapKept.IsKey]) (i:=7) (v:= .func (.func 165) #[] #[.pointer (some ⟨w.heap.size,0,none⟩),.pointer (some ⟨w.heap.size+1,0,none⟩)]) rfl
 go_enter Tryz.func135,Tryz.ntmps135
 go_wp2_with fail
 refine(fl_28 a b ha hb _ _ _ (by go_simp) (by go_simp)).mono ?_
 rintro e w1 ⟨rfl,rfl⟩
 go_wp2_with fail
 refine(z0E (mulN a b) (mulH a b) (false) (z8r a b) _).mono ?_
 rintro e w2 ⟨rfl,hb2⟩
 go_wp2
 go_quiet (fail)
 go_wp2
 have hs:=hb2.size
 simp at hs
 exact bodyPost_ret (v:= .tuple #[.int .u16 (mulN a b),.bool (mulN a b==0),.bool (decide (32768<=mulN a b)),.bool (mulH a b),.bool (false),.int .i64 0]) (by simp[results,Tryz.results135,go_sem]) rfl
  ⟨rfl,((((((Below.refl _ _).alloc (Nat.le_refl _) _).alloc kS _).alloc (by simp;omega) _).trans (hb2.mono (by simp;omega))).alloc kO _).trans ((Drew.refl _).drewN _ |>.below _)⟩
theorem z7L(op a b:Int)(h:NoSum op)(w:World):
  Calls Tryz.prog 135 #[.int .i64 op,.int .u16 a,.int .u16 b] w fun e w'=>e= .returned (.tuple #[.int .u16 0,.bool false,.bool false,.bool false,.bool false,.int .i64 5])/\Below w.heap.size w w':=by
 obtain⟨n1,n2,n3,n4,n5,n6,n7,n8⟩:=h
 have hmm:= @run_makeMap Tryz.prog
 have eq1:=z0r
 have eq0:=z0m
 have p0:=fP a b w 0 7 _ rfl rfl
 have p1:=fP a b w 1 15 _ rfl rfl
 have p2:=fP a b w 2 8 _ rfl rfl
 have p3:=fP a b w 3 14 _ rfl rfl
 have p4:=fP a b w 4 9 _ rfl rfl
 have p5:=fP a b w 5 10 _ rfl rfl
 have p6:=fP a b w 6 11 _ rfl rfl
 have p7:=fP a b w 7 28 _ rfl rfl
 rw[z0B]at p0
 have get:=z3z (P:=Tryz.prog) ((w.alloc (.cells #[.int .u16 a] 24)).alloc (.cells #[.int .u16 b] 24)) (es:=upTo (.pointer (some ⟨w.heap.size,0,none⟩)) (.pointer (some ⟨w.heap.size+1,0,none⟩)) 8) (clock:=8) (n:=w.heap.size+1+1) kS Tryz.underlying264 Tryz.underlying3 (key:= .int .i64 op) (by simp[MapKept.IsKey]) (z:= .nilFunc) (by simp[upTo,reckoners,Instr.findNow,Instr.sameNow,n1,n2,n3,n4,n5,n6,n7,n8]) (fun w=>by kernel_rfl)
 go_enter Tryz.func135,Tryz.ntmps135
 go_wp2
 exact bodyPost_ret (v:= .tuple #[.int .u16 0,.bool false,.bool false,.bool false,.bool false,.int .i64 5]) (by simp[results,Tryz.results135,go_sem]) rfl
  ⟨rfl,((((Below.refl _ _).alloc (Nat.le_refl _) _).alloc kS _).alloc (by simp;omega) _)⟩
end Go.Proofs.YtkoocfcnfolkhaaGreatDoor
