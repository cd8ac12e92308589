/- The closed fact of the laws of the run clock by clock; is a frame's number great? Conditions: the library's variables hold what they were laid with. -/
import Derived.Test.YtkoocfcnfolkhaaGreatDoorSh
import Derived.Test.YtkoocfcnfolkhaaGreatDoorLockRn
import Derived.Test.YtkoocfcnfolkhaaGreatDoorP37
import Derived.Test.YtkoocfcnfolkhaaGreatDoorBusM
set_option linter.unusedVariables false
set_option linter.unusedSimpArgs false
set_option maxHeartbeats 4000000
set_option maxRecDepth 100000
namespace Go.Proofs.YtkoocfcnfolkhaaGreatDoor
open Go.RowKit Go.Mq
def lkR:List Int:=[0,6,0,0,0,0,17,0,128,0,49,33,216,0]
theorem bld_l:buildF [46,119,111,114,100,32,54,10,46,119,111,114,100,32,48,10,46,119,111,114,100,32,48,10,108,100,105,32,114,49,44,32,51,50,55,54,56,10,115,116,98,32,114,49,44,32,114,49,44,32,49,10,104,108,116,10]=(lkR,0,0):=by decide+kernel
def lkM:Mach:=newMach lkR []
def lkF:Cn:=lkN (cn0 lkM []) 64
theorem z0cM:lkF.ls.length=1:=by decide+kernel
theorem z0cL:lkF.ss.length=4:=by decide+kernel
theorem z0cK:lkF.x.m.mc.wt=true:=by decide+kernel
theorem z0ai:lkF.x.m.ck=64:=by decide+kernel
theorem z0cN:lkF.x.m.bm.ln=1:=by decide+kernel
theorem lkM_lit:lkM.sd.wt=0/\lkM.bm.ln=0/\lkM.bm.pt=0/\lkM.bm.fr=0/\lkM.ck=0/\lkM.mr=0/\lkM.ar=0:=by decide+kernel
theorem z5F(w:World):InpsAt w (.slice none 0 0) []:=⟨none,0,rfl,by simp,by simp[maxLen],by simp,fun h=>by simp at h⟩
theorem z1K{w w':World}{U:Nat->Value}{lv sv wv:Value}{m:Mach}{ls:List Ln}{ss:List Int}{ws:List Wr}(h:RunTold w w' U lv sv wv m ls ss ws):(machC U m).all (·.oneCell')=true:=z5i h.told
theorem z1b{w w':World}{U:Nat->Value}{lv sv wv:Value}{m:Mach}{ls:List Ln}{ss:List Int}{ws:List Wr}(h:RunTold w w' U lv sv wv m ls ss ws):(#[lv,sv,wv]:Array Value).all (·.oneCell')=true:=by
 obtain⟨a1,c1,rfl⟩:=z0c h.lns
 obtain⟨a2,c2,rfl⟩:=z0c h.sms
 obtain⟨a3,c3,rfl⟩:=z0c h.wrs
 simp[Value.oneCell']
theorem z2z(V:Nat->Value)(m:Mach)(n:Int)(w:World)(h1:(machC V m).all (·.oneCell')=true):
  Calls Tryz.prog 11 #[.agg (machC V m),.int .i64 n] w fun e w'=>e= .returned (.bool (decide (19000<m.bm.fr)))/\Below w.heap.size w w':=by
 have ON:=zh h1
 have c64:(w.alloc (.cells (machC V m) 42)).cell? ⟨w.heap.size,64,none⟩=some (.int .i64 m.bm.fr):=((Blk.new w _ _).cell 64).trans (mx64 ..)
 generalize m.bm.fr=f at*
 clear h1
 go_enter Tryz.func11,Tryz.ntmps11
 go_wp2
 go_ret
 exact⟨rfl,kL⟩
end Go.Proofs.YtkoocfcnfolkhaaGreatDoor
