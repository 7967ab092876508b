/- What the functions of this seat that lie on the laws' road compute (part LX), each for every input. By AI agents. -/
import Derived.Test.YtbmjlaknnpmgpaaGreatDoorLG
import Derived.Test.YtbmjlaknnpmgpaaGreatDoorLI
import Derived.Test.YtbmjlaknnpmgpaaGreatDoorLT
set_option linter.all false
set_option linter.all false

set_option maxRecDepth 20000
set_option maxHeartbeats 2000000
namespace Go.Ab
open Go.Proofs
noncomputable def f9w (y6:a2d×w9) (y8:o6×Int) (k108:Int) (a109:Int) (x107:Unit):Option (Fl Unit Bool) :=
 (e95 (l6.mk 24 y6.1.x_.Resources y6.1.x_.Grants y6.1.x_.Stores y6.1.x_.Mints) y6.1.w_ a109 y8.1.Readers y8.1.Public).bind fun y129=>grp (((!decide (y129.2=0))||decide (y8.1.Severity.Score<y129.1.Score))) fun b132=>grp ((b132||decide (y8.1.Severity.Level<y129.1.Level))) fun b133=>bif b133 then some (.ex false) else some (.nx ())
noncomputable def f3f (l_:List Int):Option Bool :=
 bif decide (600<(l_.length:Int)) then d9q.bind fun y4=>some y4 else (e8x (w9.mk l_ 0)).bind fun y6=>(d9e (a2d.mk y6.1.d_ y6.1.a_ y6.1.r_ (l6.mk 24 y6.1.x_.Resources y6.1.x_.Grants y6.1.x_.Stores y6.1.x_.Mints) y6.1.w_ y6.1.f_ y6.1.c_ y6.1.fleet_ y6.1.s_ y6.1.group_)).bind fun y8=>bif (!decide (y8.2=0)) then some false else bif (!decide (y8.1.Fingerprint=y6.1.f_.Fingerprint)) then some false else bif (!decide (y8.1.Spots=(y6.1.f_.Where.length:Int))) then some false else (e9k y6.1.fleet_ y6.1.s_).bind fun y15=>bif (!(y8.1.Rotated==y15)) then some false else (e9i y6.1.group_ 1).bind fun y16=>bif (!(y8.1.Dead==y16)) then some false else (e00 y6.1.d_ y6.1.a_ y6.1.c_).bind fun y18=>jn (α:=Int) (bif y8.1.Public then chk (a0l (y8.1.Readers+1)) (some (y8.1.Readers+1)) else some y8.1.Readers) fun j19=>(e9a y6.1.d_ y6.1.a_ y6.1.c_).bind fun y21=>grp (((!decide (j19=(y18.1.length:Int)))||(!(y21.2==decide (0≤y8.1.Since))))) fun b31=>grp ((b31||(y21.2&&(!decide (y8.1.Since=y21.1))))) fun b32=>grp ((b32||((!y21.2)&&(!decide (y8.1.Since=(-1)))))) fun b33=>bif b33 then some false else (e98 y6.1.r_ y6.1.f_.Fingerprint).bind fun y80=>(a0x (f9w y6 y8) y80 0 ()).bind fun o=>o.elim (fun x134=>d9q.bind fun y137=>some y137) (fun r135=>some r135)
def f6i:List (Nat×RN):=[(3,⟨[],[.c 3 0 [21] []],[]⟩),(4,⟨[.gc [3,33,34,35,36,37,38,41,42,43,44,45,46,47,50,51,52,53,54,55,56,57,60,61,62,63,64,65,98,99,100,101,102,105,106,107,108,109,110,111,114,115,116,117,118,119,120,149,150,151,152,153,154,157,158,159,160,161,162]],[],[]⟩),(8,⟨[.gc [3,4,98,99,100,101,102,105,106,107,108,109,110,111,114,115,116,117,118,119,120,149,150,151,152,153,154,157,158,159,160,161,162]],[],[]⟩),(9,⟨[.gc [3,4,6,98,99,100,101,102,105,106,107,108,109,110,111,114,115,116,117,118,119,120,149,150,151,152,153,154,157,158,159,160,161,162]],[],[]⟩),(13,⟨[.gc [3,4,6,8,9,10,98,99,100,101,102,105,106,107,108,109,110,111,114,115,116,117,118,119,120,149,150,151,152,153,154,157,158,159,160,161,162]],[],[.v 5 10,.v 12 19,.v 21 28]⟩),(15,⟨[.gc [3,4,149,150,151,152,153,154,157,158,159,160,161,162]],[],[]⟩),(19,⟨[.gc [3,4,13,14,127,128,129,149,150,151,152,153,154,157,158,159,160,161,162]],[],[.v 3 9,.v 11 17]⟩)]
@[irreducible] def d63:MC:=rdc (cK Tryz.prog Tryz.f5 f6i [] 16)
@[irreducible] def e1r:MC:=rdc (cK Tryz.prog Tryz.f5 f6i [(16,d63)] 10000012)
attribute [go_sem] f9w
instance:LI d63 129 128 [3,4,127,128] [4,3] (fun y:Unit=>[]) (fun y=>[]) []:=⟨⟩
instance:LI e1r 0 0 [3,4,6] [4,3] (fun y:Int=>[(8,.int .i64 y)]) (fun y=>[]) []:=⟨⟩
instance f7b {l_:List Int}:WJ (f3f l_) 5 [.sl (l_.map (V.int .i64))] .bool:=wX Tryz.func5 f6i [(16,d63),(10000012,e1r)] (h:=fun _ _ h hQ M=>by have:SwA [(1000,21)]:=⟨⟩;unfold f3f at h;exact tX)
end Go.Ab
