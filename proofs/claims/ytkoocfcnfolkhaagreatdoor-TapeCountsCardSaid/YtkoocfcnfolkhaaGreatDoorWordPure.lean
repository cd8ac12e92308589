/- Plain mathematics of words: sums, differences, products, shifts, signed values, over Int. Conditions: none; no program in sight. -/
import Derived.Test.YtkoocfcnfolkhaaGreatDoorSq
import Derived.Test.YtkoocfcnfolkhaaGreatDoorBase
namespace Go.Mq
def sg(a:Int):Int:=if 32768<=a then a-65536 else a
def addN(a b:Int):Int:=(a+b)%65536
def addC(a b:Int):Bool:=decide (65536<=a+b)
def addV(a b:Int):Bool:=decide (32767<sg a+sg b\/sg a+sg b< -32768)
def subN(a b:Int):Int:=(a-b)%65536
def subC(a b:Int):Bool:=decide (a<b)
def subV(a b:Int):Bool:=decide (32767<sg a-sg b\/sg a-sg b< -32768)
def mulN(a b:Int):Int:=a*b%65536
def mulH(a b:Int):Bool:=decide (65536<=a*b)
def shlN(a:Int)(n:Nat):Int:=a*2^n%65536
def shlO(a:Int)(n:Nat):Bool:=decide (a*2^n/65536%2=1)
def shrN(a:Int)(n:Nat):Int:=a/2^n
def shrO(a:Int)(n:Nat):Bool:=decide (a*2/2^n%2=1)
def lowest(a:Int)(s:Nat):Int:=if 2^s<=2*(a%2^s)then a%2^s-2^s else a%2^s
def bAnd(a b:Int):Int:=((a.toNat&&&b.toNat:Nat):Int)
def bOr(a b:Int):Int:=((a.toNat|||b.toNat:Nat):Int)
def bXor(a b:Int):Int:=((a.toNat^^^b.toNat:Nat):Int)
theorem z1X{a:Int}(h:a<=65535):a.toNat<65536:=by omega
theorem z2i(x:Nat)(h:x<65536):x.testBit 15=decide (32768<=x):=by
 rw[Nat.testBit_eq_decide_div_mod_eq]
 congr 1
 apply propext
 omega
theorem z9V(x:Nat)(h:x<65536):((x:Int)/32768==1)=x.testBit 15:=by
 rw[z2i x h,Bool.eq_iff_iff]
 simp
 omega
theorem z1T(a b c d:Int)(ha:U16 a)(hb:U16 b)(hc:U16 c)(hd:U16 d):
  (bits .and .u16 (bits .xor .u16 a b) (bits .xor .u16 c d)/32768==1)=(((decide (32768<=a)) ^^ (decide (32768<=b)))&&((decide (32768<=c)) ^^ (decide (32768<=d)))):=by
 obtain⟨ha0,ha1⟩:=ha;obtain⟨hb0,hb1⟩:=hb;obtain⟨hc0,hc1⟩:=hc;obtain⟨hd0,hd1⟩:=hd
 have x1:a.toNat^^^b.toNat<65536:=Nat.xor_lt_two_pow (n:=16) kO kO
 have x2:c.toNat^^^d.toNat<65536:=Nat.xor_lt_two_pow (n:=16) kO kO
 rw[u16_xor a b ha0 kO hb0 kO,u16_xor c d hc0 kO hd0 kO,u16_and_nat _ _ x1 x2]
 rw[z9V _ (Nat.and_lt_two_pow (n:=16) _ x2),Nat.testBit_and,Nat.testBit_xor,Nat.testBit_xor,z2i _ (z1X ha1),z2i _ (z1X hb1),z2i _ (z1X hc1),z2i _ (z1X hd1)]
 congr 2
 ·rw[Bool.eq_iff_iff];simp;omega
 ·rw[Bool.eq_iff_iff];simp;omega
 ·rw[Bool.eq_iff_iff];simp;omega
 ·rw[Bool.eq_iff_iff];simp;omega
theorem z3T(a b:Int):U16 (addN a b):=by unfold U16 addN;omega
theorem z4w(a b:Int):U16 (subN a b):=by unfold U16 subN;omega
theorem z8k(a:Int)(k:Nat):U16 (shlN a k):=by unfold U16 shlN;omega
theorem z7c(a:Int)(ha:U16 a):shlN a 0=a:=by unfold U16 at ha;unfold shlN;simp;omega
theorem z5M(a:Int)(ha:U16 a):shlO a 0=false:=by unfold U16 at ha;unfold shlO;simp;omega
theorem z7b(a:Int):shrN a 0=a:=by unfold shrN;simp
theorem z5I(a:Int):shrO a 0=false:=by unfold shrO;simp
theorem z5K(a:Int)(k:Nat)(ha:U16 a):U16 (shrN a k):=by
 unfold U16 at*;unfold shrN
 have:(0:Int)<2^k:=Int.pow_pos kO
 exact⟨Int.ediv_nonneg ha.1 kO,by have:=Int.ediv_le_self (a:=a) (2^k) ha.1;omega⟩
theorem z5J(a:Int)(k:Nat):shrO a (k+1)=decide (shrN a k%2=1):=by
 unfold shrO shrN;rw[Int.pow_succ,Int.mul_ediv_mul_of_pos_left _ _ kO]
theorem and1(x:Int)(h:U16 x):bits .and .u16 x 1=x%2:=by
 have h2:x.toNat<65536:=by unfold U16 at h;omega
 rw[show x=((x.toNat:Nat):Int)from by unfold U16 at h;omega,show(1:Int)=((1:Nat):Int)from rfl,u16_and_nat _ _ h2 kO,nat_mask1]
 omega
theorem z4V(a:Int)(k:Nat)(ha:U16 a):(bits .and .u16 (a/2^k) 1==1)=decide (shrN a k%2=1):=by
 rw[show a/2^k=shrN a k from rfl,and1 _ (z5K a k ha)];rfl
theorem z7d(a:Int)(k:Nat)(ha:U16 a)(h1:1<=k)(h2:k<=16):(bits .and .u16 (a/2^k) 1==1)=shlO a (16-k):=by
 rw[z4V a k ha]
 unfold shlO shrN
 have e:(65536:Int)=2^k*2^(16-k):=by rw[<-Int.pow_add];rw[show k+(16-k)=16 from by omega];rfl
 rw[e,Int.mul_ediv_mul_of_pos_left _ _ (Int.pow_pos kO)]
theorem z9S(a b:Int)(ha:U16 a)(hb:U16 b):decide (addN a b<a)=addC a b:=by
 unfold U16 at ha hb;unfold addN addC;rw[Bool.eq_iff_iff];simp;omega
theorem z9R(a b:Int)(ha:U16 a)(hb:U16 b):(bits .and .u16 (bits .xor .u16 a (addN a b)) (bits .xor .u16 b (addN a b))/32768==1)=addV a b:=by
 rw[z1T _ _ _ _ ha (z3T a b) hb (z3T a b)]
 unfold U16 at ha hb;unfold addN addV sg
 rw[Bool.eq_iff_iff]
 by_cases h1:32768<=a<;>by_cases h2:32768<=b<;>simp[h1,h2]<;>omega
theorem z8K(a b:Int)(ha:U16 a)(hb:U16 b):(bits .and .u16 (bits .xor .u16 a b) (bits .xor .u16 a (subN a b))/32768==1)=subV a b:=by
 rw[z1T _ _ _ _ ha hb ha (z4w a b)]
 unfold U16 at ha hb;unfold subN subV sg
 rw[Bool.eq_iff_iff]
 by_cases h1:32768<=a<;>by_cases h2:32768<=b<;>simp[h1,h2]<;>omega
end Go.Mq
