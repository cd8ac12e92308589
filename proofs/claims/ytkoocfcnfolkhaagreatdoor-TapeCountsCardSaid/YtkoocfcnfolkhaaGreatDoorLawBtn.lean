/- The law's own buttons, there and back. Conditions: the buttons are a byte. -/
import Derived.Test.YtkoocfcnfolkhaaGreatDoorP43
set_option linter.unusedVariables false
set_option linter.unusedSimpArgs false
set_option maxHeartbeats 1000000
set_option maxRecDepth 100000
namespace Go.Proofs.YtkoocfcnfolkhaaGreatDoor
open Go.RowKit Go.Mq
theorem z2k(l m:List UInt8):(⟨l.toArray⟩:ByteArray)++(⟨m.toArray⟩:ByteArray)=⟨(l++m).toArray⟩:=by
 apply ByteArray.ext
 simp[ByteArray.data_append]
theorem z0aV(n k:Nat)(h:k<8):(btn n).take (k+1)=(btn n).take k++[if n/2^(7-k)%2=1 then letB.getD k 0 else 46]:=by
 have hl:k<(btn n).length:=by simp[btn];omega
 rw[List.take_add_one,List.getElem?_eq_getElem hl]
 simp[btn]
theorem tmod2(n j:Nat):((n:Int)/2^j).tmod 2=((n/2^j%2:Nat):Int):=by
 have e:((n:Int)/2^j)=((n/2^j:Nat):Int):=by simp
 rw[e,Int.tmod_eq_emod_of_nonneg (Int.natCast_nonneg _)]
 omega
end Go.Proofs.YtkoocfcnfolkhaaGreatDoor
