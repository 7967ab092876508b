/- What the functions of this seat that lie on the laws' road compute (part MI), each for every input. By AI agents. -/
import Derived.Test.YtoojdaakeiadjaaGreatDoorLD
import Derived.Test.YtoojdaakeiadjaaGreatDoorAbFun
set_option linter.all false
set_option maxRecDepth 20000
set_option maxHeartbeats 2000000
namespace Go.Ab
open Go.Proofs
def a1n (x409:Int×q8):Option (Fl (Int×q8) (Sum q8 (d9×q8))) :=
 bif decide (x409.1≤8) then (F_w x409.1).bind fun y536=>chk (a1o (y536.length+[32].length)) ((c9a x409.2 (y536++[32])).bind fun y537=>bif (!y537.1) then chk (a0c (x409.1+1)) (some (.nx ((x409.1+1),y537.2))) else jn (α:=Bool) (bif decide (x409.1=1) then some true else bif decide (x409.1=2) then some true else some (decide (x409.1=3))) fun j554=>bif j554 then (d4u y537.2 [34]).bind fun y556=>(e2q y556.tF [34]).bind fun y558=>grp ((y556.jF||(!y558.2.2))) fun b559=>some (.ex (.inr ((d9.mk x409.1 y558.1 0 0 []),(q8.mk y558.2.1 b559)))) else bif decide (x409.1=7) then (e2p y537.2).bind fun y562=>(puE y562.1 10 64).bind fun y563=>grp ((y562.2.jF||(!y563.2))) fun b564=>some (.ex (.inr ((d9.mk x409.1 [] 0 y563.1 []),(q8.mk y562.2.tF b564)))) else (e2p y537.2).bind fun y567=>(c5a y567.1).bind fun y568=>grp ((y567.2.jF||(!y568.2))) fun b569=>some (.ex (.inr ((d9.mk x409.1 [] y568.1 0 []),(q8.mk y567.2.tF b569))))) else some (.ex (.inl x409.2))
theorem a5t  (x409:Int×q8):Le (a1n x409) (f1f x409):=by
 unfold a1n f1f
 (repeat' (with_reducible first|exact Le.refl|assumption|(refine Le.bind ?_ fun _=>?_)|(refine Le.jn ?_ fun _=>?_)|(refine Le.grp fun _=>?_)|(refine Le.chk ?_)|(refine Le.cond ?_ ?_)|(refine Le.fl (fun _=>?_) fun _=>?_)|(refine Le.sum (fun _=>?_) fun _=>?_)|(refine Le.forL (fun _ _ _=>?_) _ _ _)|(refine Le.foldL (fun _ _ _=>?_) _ _ _)|(refine Le.loop fun _=>?_)|(refine Le.perm fun _=>?_)|(refine Le.amb ?_)|exact Le.sort))
def a2d (r_:q8):Option (d9×q8) :=
 (iter a1n 100000 (1,r_)).bind fun r570=>Sum.elim (fun u571=>some ((d9.mk 0 [] 0 0 []),(q8.mk u571.tF true))) (fun u572=>some u572) r570
theorem a7j {r_:q8}:Le (a2d r_) (f00 r_):=by
 unfold a2d f00
 (repeat' (with_reducible first|exact Le.refl|assumption|(refine Le.bind ?_ fun _=>?_)|(refine Le.jn ?_ fun _=>?_)|(refine Le.grp fun _=>?_)|(refine Le.chk ?_)|(refine Le.cond ?_ ?_)|(refine Le.fl (fun _=>?_) fun _=>?_)|(refine Le.sum (fun _=>?_) fun _=>?_)|(refine Le.forL (fun _ _ _=>?_) _ _ _)|(refine Le.foldL (fun _ _ _=>?_) _ _ _)|(refine Le.loop fun _=>?_)|(refine Le.perm fun _=>?_)|(refine Le.amb ?_)|exact Le.sort|apply a5t))
def a0b:Nat→q8→Int→Option (d9×q8)
 | 0,_,_=>none
 | n+1,r_,kE =>
 grp ((r_.jF||decide (20<kE))) fun b81=>bif b81 then some ((d9.mk 0 [] 0 0 []),(q8.mk r_.tF true)) else (c9a r_ [110,111,116,32,40]).bind fun y83=>bif y83.1 then chk (a0c (kE+1)) ((a0b n y83.2 (kE+1)).bind fun y85=>(d4u y85.2 [41]).bind fun y87=>some ((d9.mk 9 [] 0 0 [y85.1]),y87)) else (c9a y83.2 [40]).bind fun y89=>bif y89.1 then chk (a0c (kE+1)) ((a0b n y89.2 (kE+1)).bind fun y91=>jn (α:=Int) ((d4v y91.2.tF [32,111,114,32]).bind fun y96=>bif y96 then some 11 else some 10) fun j94=>(iter (fun (x148:Int×(List d9)×q8)=>((F_w x148.1).bind fun y164=>chk (a1o ([32].length+y164.length)) (chk (a1o ((([32]:Str)++y164).length+[32].length)) ((c9a x148.2.2 ((([32]:Str)++y164)++[32])).bind fun y165=>bif y165.1 then chk (a0c (kE+1)) ((a0b n y165.2 (kE+1)).bind fun y166=>chk (room (x148.2.1.length+[y166.1].length) 64) (some (.nx (x148.1,(x148.2.1++[y166.1]),y166.2)))) else some (.ex (x148.1,x148.2.1,y165.2)))):Option (Fl (Int×(List d9)×q8) (Int×(List d9)×q8)))) 100000 (j94,[y91.1],y91.2)).bind fun r167=>(d4u r167.2.2 [41]).bind fun y169=>some ((d9.mk r167.1 [] 0 0 r167.2.1),y169)) else (a2d y89.2).bind fun y171=>some (y171.1,y171.2)
theorem a3a:∀n m,n≤m→(∀(r_:q8) (kE:Int),Le (a0b n r_ kE) (c9e m r_ kE))
 | 0,m,_=>by
  refine ?_
  all_goals (intros;first|(simp only [a0b];exact Le.non))
 | n+1,0,h=>absurd h (by omega)
 | n+1,m+1,h=>by
  have ih:=a3a n m (by omega)
  have ih_rule_reader_condition:=ih
  intros;simp only [a0b,c9e];(repeat' (with_reducible first|exact Le.refl|assumption|(refine Le.bind ?_ fun _=>?_)|(refine Le.jn ?_ fun _=>?_)|(refine Le.grp fun _=>?_)|(refine Le.chk ?_)|(refine Le.cond ?_ ?_)|(refine Le.fl (fun _=>?_) fun _=>?_)|(refine Le.sum (fun _=>?_) fun _=>?_)|(refine Le.forL (fun _ _ _=>?_) _ _ _)|(refine Le.foldL (fun _ _ _=>?_) _ _ _)|(refine Le.loop fun _=>?_)|(refine Le.perm fun _=>?_)|(refine Le.amb ?_)|exact Le.sort|exact ih_rule_reader_condition _ _|exact a7j))
def a3q (r_:q8) (kE:Int):Option (d9×q8):=a0b 400 r_ kE
theorem a5u {r_:q8} {kE:Int}:Le (a3q r_ kE) (F_9 r_ kE):=Le.lim (n:=400) fun m hm=>(a3a 400 m hm) _ _
def a9n (qH:Str):Option (l7×Bool) :=
 (f0t qH [10]).bind fun y3=>(e2q y3 [58]).bind fun y4=>chk (a1o ([58].length+y4.2.1.length)) ((e1a (([58]:Str)++y4.2.1) [58,32,114,101,97,108,32,105,102,32]).bind fun y6=>jn (α:=Bool×Str×l7) (bif (!y6.2) then chk (a1o ([58].length+y4.2.1.length)) ((e1a (([58]:Str)++y4.2.1) [58,32,102,97,108,115,101,32,105,102,32]).bind fun y11=>some (y11.2,y11.1,(l7.mk y4.1 (d9.mk 0 [] 0 0 []) 2))) else some (y4.2.2,y6.1,(l7.mk y4.1 (d9.mk 0 [] 0 0 []) 1))) fun j9=>(a3q (q8.mk j9.2.1 false) 1).bind fun y13=>bif j9.1 then bif (!y13.2.jF) then some ((l7.mk j9.2.2.Name y13.1 j9.2.2.Verdict),decide (y13.2.tF=[])) else some ((l7.mk j9.2.2.Name y13.1 j9.2.2.Verdict),false) else some ((l7.mk j9.2.2.Name y13.1 j9.2.2.Verdict),false))
theorem a92 {qH:Str}:Le (a9n qH) (e9x qH):=by
 unfold a9n e9x
 (repeat' (with_reducible first|exact Le.refl|assumption|(refine Le.bind ?_ fun _=>?_)|(refine Le.jn ?_ fun _=>?_)|(refine Le.grp fun _=>?_)|(refine Le.chk ?_)|(refine Le.cond ?_ ?_)|(refine Le.fl (fun _=>?_) fun _=>?_)|(refine Le.sum (fun _=>?_) fun _=>?_)|(refine Le.forL (fun _ _ _=>?_) _ _ _)|(refine Le.foldL (fun _ _ _=>?_) _ _ _)|(refine Le.loop fun _=>?_)|(refine Le.perm fun _=>?_)|(refine Le.amb ?_)|exact Le.sort|exact a5u))
def a3j:Nat→d9→Option Int
 | 0,_=>none
 | n+1,c_ =>
 (forL (fun (k45:Int) (a46:d9) (x44:Int)=>((a3j n a46).bind fun y54=>chk (a0c (x44+y54)) (bif decide (60<(x44+y54)) then some (.ex 61) else some (.nx (x44+y54))):Option (Fl Int Int))) c_.Kids 0 1).bind fun o=>o.elim (fun x55=>some x55) (fun r56=>some r56)
theorem b1e:∀n m,n≤m→(∀(c_:d9),Le (a3j n c_) (c9d m c_))
 | 0,m,_=>by
  refine ?_
  all_goals (intros;first|(simp only [a3j];exact Le.non))
 | n+1,0,h=>absurd h (by omega)
 | n+1,m+1,h=>by
  have ih:=b1e n m (by omega)
  have ih_rule_terms:=ih
  intros;simp only [a3j,c9d];(repeat' (with_reducible first|exact Le.refl|assumption|(refine Le.bind ?_ fun _=>?_)|(refine Le.jn ?_ fun _=>?_)|(refine Le.grp fun _=>?_)|(refine Le.chk ?_)|(refine Le.cond ?_ ?_)|(refine Le.fl (fun _=>?_) fun _=>?_)|(refine Le.sum (fun _=>?_) fun _=>?_)|(refine Le.forL (fun _ _ _=>?_) _ _ _)|(refine Le.foldL (fun _ _ _=>?_) _ _ _)|(refine Le.loop fun _=>?_)|(refine Le.perm fun _=>?_)|(refine Le.amb ?_)|exact Le.sort|exact ih_rule_terms _))
def b3h (c_:d9):Option Int:=a3j 400 c_
theorem b5m {c_:d9}:Le (b3h c_) (F_g c_):=Le.lim (n:=400) fun m hm=>(b1e 400 m hm) _
def a3o:Nat→d9→Int→Option Int
 | 0,_,_=>none
 | n+1,c_,gG =>
 bif decide (gG=0) then some 1 else (foldL (fun (k30:Int) (a31:d9) (x29:Int)=>(chk (a0c (gG - 1)) ((a3o n a31 (gG - 1)).bind fun y35=>some (max x29 y35)):Option Int)) c_.Kids 0 0).bind fun x36=>chk (a0c (x36+1)) (some (x36+1))
theorem b1f:∀n m,n≤m→(∀(c_:d9) (gG:Int),Le (a3o n c_ gG) (c9c m c_ gG))
 | 0,m,_=>by
  refine ?_
  all_goals (intros;first|(simp only [a3o];exact Le.non))
 | n+1,0,h=>absurd h (by omega)
 | n+1,m+1,h=>by
  have ih:=b1f n m (by omega)
  have ih_rule_depth:=ih
  intros;simp only [a3o,c9c];(repeat' (with_reducible first|exact Le.refl|assumption|(refine Le.bind ?_ fun _=>?_)|(refine Le.jn ?_ fun _=>?_)|(refine Le.grp fun _=>?_)|(refine Le.chk ?_)|(refine Le.cond ?_ ?_)|(refine Le.fl (fun _=>?_) fun _=>?_)|(refine Le.sum (fun _=>?_) fun _=>?_)|(refine Le.forL (fun _ _ _=>?_) _ _ _)|(refine Le.foldL (fun _ _ _=>?_) _ _ _)|(refine Le.loop fun _=>?_)|(refine Le.perm fun _=>?_)|(refine Le.amb ?_)|exact Le.sort|exact ih_rule_depth _ _))
def b3k (c_:d9) (gG:Int):Option Int:=a3o 400 c_ gG
theorem b5p {c_:d9} {gG:Int}:Le (b3k c_ gG) (F_h c_ gG):=Le.lim (n:=400) fun m hm=>(b1f 400 m hm) _ _
mutual
def a3k:Nat→d9→Option Bool
 | 0,_=>none
 | n+1,k_ =>
 (a3l n k_).bind fun y2=>some (!y2)
def a00:Nat→(List d9)→Option Int
 | 0,_=>none
 | n+1,s_ =>
 (forL (fun (k31:Int) (a32:d9) (x30:Unit)=>((a3k n a32).bind fun y40=>bif y40 then some (.ex k31) else some (.nx ()):Option (Fl Unit Int))) s_ 0 ()).bind fun o=>o.elim (fun x41=>some (-1)) (fun r42=>some r42)
def u7:Nat→(List d9)→Option Bool
 | 0,_=>none
 | n+1,s_ =>
 (a00 n s_).bind fun y2=>some (decide (0≤y2))
def a3l:Nat→d9→Option Bool
 | 0,_=>none
 | n+1,c_ =>
 jn (α:=Bool) (jn (α:=Bool) (bif decide (c_.Op=1) then some true else bif decide (c_.Op=2) then some true else some (decide (c_.Op=3))) fun j18=>bif j18 then (e3a c_.Text).bind fun y19=>grp ((y19&&decide (c_.Number=0))) fun b20=>grp ((b20&&decide (c_.Print=0))) fun b21=>grp ((b21&&decide ((c_.Kids.length:Int)=0))) fun b22=>some b22 else jn (α:=Bool) (bif decide (c_.Op=4) then some true else bif decide (c_.Op=5) then some true else bif decide (c_.Op=6) then some true else some (decide (c_.Op=8))) fun j23=>bif j23 then grp ((decide (c_.Text=[])&&decide (0≤c_.Number))) fun b24=>grp ((b24&&decide (c_.Number≤1099511627776))) fun b25=>grp ((b25&&decide (c_.Print=0))) fun b26=>grp ((b26&&decide ((c_.Kids.length:Int)=0))) fun b27=>some b27 else bif decide (c_.Op=7) then grp ((decide (c_.Text=[])&&decide (c_.Number=0))) fun b28=>grp ((b28&&decide ((c_.Kids.length:Int)=0))) fun b29=>some b29 else jn (α:=Bool) (bif decide (c_.Op=9) then some true else bif decide (c_.Op=10) then some true else some (decide (c_.Op=11))) fun j30=>bif j30 then grp ((decide (c_.Text=[])&&decide (c_.Number=0))) fun b31=>grp ((b31&&decide (c_.Print=0))) fun b32=>grp ((b32&&((decide (c_.Op=9)&&decide ((c_.Kids.length:Int)=1))||((!decide (c_.Op=9))&&decide (2≤(c_.Kids.length:Int)))))) fun b33=>some b33 else some false) fun j17=>jn (α:=Bool) (bif j17 then (u7 n c_.Kids).bind fun y37=>some (!y37) else some false) fun j38=>some j38
end
theorem a07:∀n m,n≤m→(∀(k_:d9),Le (a3k n k_) (c5g m k_))∧(∀(s_:List d9),Le (a00 n s_) (c5f m s_))∧(∀(s_:List d9),Le (u7 n s_) (c3e m s_))∧(∀(c_:d9),Le (a3l n c_) (c3g m c_))
 | 0,m,_=>by
  refine ⟨?_,?_,?_,?_⟩
  all_goals (intros;first|(simp only [a3k,a00,u7,a3l];exact Le.non))
 | n+1,0,h=>absurd h (by omega)
 | n+1,m+1,h=>by
  have ih:=a07 n m (by omega)
  obtain ⟨ih_rule_right_1,ih_slices_IndexFunc_api_Term_api_Term_of_rule_right_1,ih_slices_ContainsFunc_api_Term_api_Term_of_rule_right_1,ih_rule_right⟩:=ih
  refine ⟨?_,?_,?_,?_⟩
  ·intros;simp only [a3k,c5g];(repeat' (with_reducible first|exact Le.refl|assumption|(refine Le.bind ?_ fun _=>?_)|(refine Le.jn ?_ fun _=>?_)|(refine Le.grp fun _=>?_)|(refine Le.chk ?_)|(refine Le.cond ?_ ?_)|(refine Le.fl (fun _=>?_) fun _=>?_)|(refine Le.sum (fun _=>?_) fun _=>?_)|(refine Le.forL (fun _ _ _=>?_) _ _ _)|(refine Le.foldL (fun _ _ _=>?_) _ _ _)|(refine Le.loop fun _=>?_)|(refine Le.perm fun _=>?_)|(refine Le.amb ?_)|exact Le.sort|exact ih_rule_right_1 _|exact ih_slices_IndexFunc_api_Term_api_Term_of_rule_right_1 _|exact ih_slices_ContainsFunc_api_Term_api_Term_of_rule_right_1 _|exact ih_rule_right _))
  ·intros;simp only [a00,c5f];(repeat' (with_reducible first|exact Le.refl|assumption|(refine Le.bind ?_ fun _=>?_)|(refine Le.jn ?_ fun _=>?_)|(refine Le.grp fun _=>?_)|(refine Le.chk ?_)|(refine Le.cond ?_ ?_)|(refine Le.fl (fun _=>?_) fun _=>?_)|(refine Le.sum (fun _=>?_) fun _=>?_)|(refine Le.forL (fun _ _ _=>?_) _ _ _)|(refine Le.foldL (fun _ _ _=>?_) _ _ _)|(refine Le.loop fun _=>?_)|(refine Le.perm fun _=>?_)|(refine Le.amb ?_)|exact Le.sort|exact ih_rule_right_1 _|exact ih_slices_IndexFunc_api_Term_api_Term_of_rule_right_1 _|exact ih_slices_ContainsFunc_api_Term_api_Term_of_rule_right_1 _|exact ih_rule_right _))
  ·intros;simp only [u7,c3e];(repeat' (with_reducible first|exact Le.refl|assumption|(refine Le.bind ?_ fun _=>?_)|(refine Le.jn ?_ fun _=>?_)|(refine Le.grp fun _=>?_)|(refine Le.chk ?_)|(refine Le.cond ?_ ?_)|(refine Le.fl (fun _=>?_) fun _=>?_)|(refine Le.sum (fun _=>?_) fun _=>?_)|(refine Le.forL (fun _ _ _=>?_) _ _ _)|(refine Le.foldL (fun _ _ _=>?_) _ _ _)|(refine Le.loop fun _=>?_)|(refine Le.perm fun _=>?_)|(refine Le.amb ?_)|exact Le.sort|exact ih_rule_right_1 _|exact ih_slices_IndexFunc_api_Term_api_Term_of_rule_right_1 _|exact ih_slices_ContainsFunc_api_Term_api_Term_of_rule_right_1 _|exact ih_rule_right _))
  ·intros;simp only [a3l,c3g];(repeat' (with_reducible first|exact Le.refl|assumption|(refine Le.bind ?_ fun _=>?_)|(refine Le.jn ?_ fun _=>?_)|(refine Le.grp fun _=>?_)|(refine Le.chk ?_)|(refine Le.cond ?_ ?_)|(refine Le.fl (fun _=>?_) fun _=>?_)|(refine Le.sum (fun _=>?_) fun _=>?_)|(refine Le.forL (fun _ _ _=>?_) _ _ _)|(refine Le.foldL (fun _ _ _=>?_) _ _ _)|(refine Le.loop fun _=>?_)|(refine Le.perm fun _=>?_)|(refine Le.amb ?_)|exact Le.sort|exact ih_rule_right_1 _|exact ih_slices_IndexFunc_api_Term_api_Term_of_rule_right_1 _|exact ih_slices_ContainsFunc_api_Term_api_Term_of_rule_right_1 _|exact ih_rule_right _))
def b3i (c_:d9):Option Bool:=a3l 400 c_
theorem b5n {c_:d9}:Le (b3i c_) (F_4 c_):=Le.lim (n:=400) fun m hm=>(a07 400 m hm).2.2.2 _
def a9o (c_:d9):Option Int :=
 (b3h c_).bind fun y8=>bif decide (60<y8) then some 3 else (b3k c_ 20).bind fun y10=>bif decide (20<y10) then some 9 else (b3i c_).bind fun y12=>bif (!y12) then some 1 else some 0
theorem b65 {c_:d9}:Le (a9o c_) (d4t c_):=by
 unfold a9o d4t
 (repeat' (with_reducible first|exact Le.refl|assumption|(refine Le.bind ?_ fun _=>?_)|(refine Le.jn ?_ fun _=>?_)|(refine Le.grp fun _=>?_)|(refine Le.chk ?_)|(refine Le.cond ?_ ?_)|(refine Le.fl (fun _=>?_) fun _=>?_)|(refine Le.sum (fun _=>?_) fun _=>?_)|(refine Le.forL (fun _ _ _=>?_) _ _ _)|(refine Le.foldL (fun _ _ _=>?_) _ _ _)|(refine Le.loop fun _=>?_)|(refine Le.perm fun _=>?_)|(refine Le.amb ?_)|exact Le.sort|exact b5m|exact b5p|exact b5n))
def a8d (r_:l7):Option Int :=
 (e2x r_.Name).bind fun y4=>bif (!y4) then some 4 else (a9o r_.When).bind fun y8=>bif (!decide (y8=0)) then some y8 else grp (((!decide (r_.Verdict=1))&&(!decide (r_.Verdict=2)))) fun b12=>bif b12 then some 1 else some 0
theorem a5d {r_:l7}:Le (a8d r_) (e1c r_):=by
 unfold a8d e1c
 (repeat' (with_reducible first|exact Le.refl|assumption|(refine Le.bind ?_ fun _=>?_)|(refine Le.jn ?_ fun _=>?_)|(refine Le.grp fun _=>?_)|(refine Le.chk ?_)|(refine Le.cond ?_ ?_)|(refine Le.fl (fun _=>?_) fun _=>?_)|(refine Le.sum (fun _=>?_) fun _=>?_)|(refine Le.forL (fun _ _ _=>?_) _ _ _)|(refine Le.foldL (fun _ _ _=>?_) _ _ _)|(refine Le.loop fun _=>?_)|(refine Le.perm fun _=>?_)|(refine Le.amb ?_)|exact Le.sort|exact b65))
def a5g (k31:Int) (a32:l7) (x30:Unit):Option (Fl Unit Int) :=
 (a8d a32).bind fun y40=>bif (!decide (y40=0)) then some (.ex y40) else some (.nx ())
theorem a6c  (k31:Int) (a32:l7) (x30:Unit):Le (a5g k31 a32 x30) (e2w k31 a32 x30):=by
 unfold a5g e2w
 (repeat' (with_reducible first|exact Le.refl|assumption|(refine Le.bind ?_ fun _=>?_)|(refine Le.jn ?_ fun _=>?_)|(refine Le.grp fun _=>?_)|(refine Le.chk ?_)|(refine Le.cond ?_ ?_)|(refine Le.fl (fun _=>?_) fun _=>?_)|(refine Le.sum (fun _=>?_) fun _=>?_)|(refine Le.forL (fun _ _ _=>?_) _ _ _)|(refine Le.foldL (fun _ _ _=>?_) _ _ _)|(refine Le.loop fun _=>?_)|(refine Le.perm fun _=>?_)|(refine Le.amb ?_)|exact Le.sort|exact a5d))
def a5f (l_:List l7) (k73:Int) (a74:l7) (x72:Unit):Option (Fl Unit Int) :=
 chk (inc 0 k73 l_.length) ((e9r (l_.take ((k73).toNat)) a74).bind fun y82=>bif y82 then some (.ex 7) else some (.nx ()))
theorem b0t  (l_:List l7) (k73:Int) (a74:l7) (x72:Unit):Le (a5f l_ k73 a74 x72) (e2t l_ k73 a74 x72):=by
 unfold a5f e2t
 (repeat' (with_reducible first|exact Le.refl|assumption|(refine Le.bind ?_ fun _=>?_)|(refine Le.jn ?_ fun _=>?_)|(refine Le.grp fun _=>?_)|(refine Le.chk ?_)|(refine Le.cond ?_ ?_)|(refine Le.fl (fun _=>?_) fun _=>?_)|(refine Le.sum (fun _=>?_) fun _=>?_)|(refine Le.forL (fun _ _ _=>?_) _ _ _)|(refine Le.foldL (fun _ _ _=>?_) _ _ _)|(refine Le.loop fun _=>?_)|(refine Le.perm fun _=>?_)|(refine Le.amb ?_)|exact Le.sort|exact a5d|apply a6c))
def a6d (l_:List l7):Option Int :=
 bif decide (40<(l_.length:Int)) then some 3 else (forL a5g l_ 0 ()).bind fun o=>o.elim (fun x41=>(forL (a5f l_) l_ 0 ()).bind fun o=>o.elim (fun x83=>some 0) (fun r84=>some r84)) (fun r42=>some r42)
theorem a5e {l_:List l7}:Le (a6d l_) (d3o l_):=by
 unfold a6d d3o
 (repeat' (with_reducible first|exact Le.refl|assumption|(refine Le.bind ?_ fun _=>?_)|(refine Le.jn ?_ fun _=>?_)|(refine Le.grp fun _=>?_)|(refine Le.chk ?_)|(refine Le.cond ?_ ?_)|(refine Le.fl (fun _=>?_) fun _=>?_)|(refine Le.sum (fun _=>?_) fun _=>?_)|(refine Le.forL (fun _ _ _=>?_) _ _ _)|(refine Le.foldL (fun _ _ _=>?_) _ _ _)|(refine Le.loop fun _=>?_)|(refine Le.perm fun _=>?_)|(refine Le.amb ?_)|exact Le.sort|exact a5d|apply a6c|apply b0t))
def a2b:Nat→d9→Option Str
 | 0,_=>none
 | n+1,c_ =>
 jn (α:=Bool) (bif decide (c_.Op=1) then some true else bif decide (c_.Op=2) then some true else some (decide (c_.Op=3))) fun j49=>bif j49 then (F_w c_.Op).bind fun y51=>chk (a1o (y51.length+[32,34].length)) (chk (a1o ((y51++[32,34]).length+c_.Text.length)) (chk (a1o (((y51++[32,34])++c_.Text).length+[34].length)) (some (((y51++[32,34])++c_.Text)++[34])))) else bif decide (c_.Op=7) then (F_w c_.Op).bind fun y54=>chk (a1o (y54.length+[32].length)) ((e79 c_.Print 10).bind fun y55=>chk (a1o ((y54++[32]).length+y55.length)) (some ((y54++[32])++y55))) else bif decide (c_.Op=9) then chk (inb 0 c_.Kids.length) ((a2b n (c_.Kids.getD 0 default)).bind fun y57=>chk (a1o ([110,111,116,32,40].length+y57.length)) (chk (a1o ((([110,111,116,32,40]:Str)++y57).length+[41].length)) (some ((([110,111,116,32,40]:Str)++y57)++[41])))) else jn (α:=Bool) (bif decide (c_.Op=10) then some true else some (decide (c_.Op=11))) fun j58=>bif j58 then (foldL (fun (k88:Int) (a89:d9) (x87:List Str)=>((a2b n a89).bind fun y93=>chk (room (x87.length+[y93].length) 16) (some (x87++[y93])):Option (List Str))) c_.Kids 0 []).bind fun x94=>(F_w c_.Op).bind fun y97=>chk (a1o ([32].length+y97.length)) (chk (a1o ((([32]:Str)++y97).length+[32].length)) ((c7c x94 ((([32]:Str)++y97)++[32])).bind fun y98=>chk (a1o ([40].length+y98.length)) (chk (a1o ((([40]:Str)++y98).length+[41].length)) (some ((([40]:Str)++y98)++[41]))))) else (F_w c_.Op).bind fun y101=>chk (a1o (y101.length+[32].length)) ((c4n c_.Number).bind fun y102=>chk (a1o ((y101++[32]).length+y102.length)) (some ((y101++[32])++y102)))
theorem b1d:∀n m,n≤m→(∀(c_:d9),Le (a2b n c_) (c9z m c_))
 | 0,m,_=>by
  refine ?_
  all_goals (intros;first|(simp only [a2b];exact Le.non))
 | n+1,0,h=>absurd h (by omega)
 | n+1,m+1,h=>by
  have ih:=b1d n m (by omega)
  have ih_rule_write:=ih
  intros;simp only [a2b,c9z];(repeat' (with_reducible first|exact Le.refl|assumption|(refine Le.bind ?_ fun _=>?_)|(refine Le.jn ?_ fun _=>?_)|(refine Le.grp fun _=>?_)|(refine Le.chk ?_)|(refine Le.cond ?_ ?_)|(refine Le.fl (fun _=>?_) fun _=>?_)|(refine Le.sum (fun _=>?_) fun _=>?_)|(refine Le.forL (fun _ _ _=>?_) _ _ _)|(refine Le.foldL (fun _ _ _=>?_) _ _ _)|(refine Le.loop fun _=>?_)|(refine Le.perm fun _=>?_)|(refine Le.amb ?_)|exact Le.sort|exact ih_rule_write _))
def b3g (c_:d9):Option Str:=a2b 400 c_
theorem a8c {c_:d9}:Le (b3g c_) (F_7 c_):=Le.lim (n:=400) fun m hm=>(b1d 400 m hm) _
def a6k (k58:Int) (a59:l7) (x57:List UInt8):Option (List UInt8) :=
 jn (α:=Str) (bif decide (a59.Verdict=2) then some [58,32,102,97,108,115,101,32,105,102,32] else some [58,32,114,101,97,108,32,105,102,32]) fun j69=>chk (a1o (a59.Name.length+j69.length)) ((b3g a59.When).bind fun y70=>chk (a1o ((a59.Name++j69).length+y70.length)) (chk (a1o (((a59.Name++j69)++y70).length+[10].length)) ((bws x57 (((a59.Name++j69)++y70)++[10])).bind fun y71=>some y71)))
theorem b2e  (k58:Int) (a59:l7) (x57:List UInt8):Le (a6k k58 a59 x57) (f1s k58 a59 x57):=by
 unfold a6k f1s
 (repeat' (with_reducible first|exact Le.refl|assumption|(refine Le.bind ?_ fun _=>?_)|(refine Le.jn ?_ fun _=>?_)|(refine Le.grp fun _=>?_)|(refine Le.chk ?_)|(refine Le.cond ?_ ?_)|(refine Le.fl (fun _=>?_) fun _=>?_)|(refine Le.sum (fun _=>?_) fun _=>?_)|(refine Le.forL (fun _ _ _=>?_) _ _ _)|(refine Le.foldL (fun _ _ _=>?_) _ _ _)|(refine Le.loop fun _=>?_)|(refine Le.perm fun _=>?_)|(refine Le.amb ?_)|exact Le.sort|exact a8c))
def a9m (l_:List l7):Option Str :=
 (foldL a6k l_ 0 ([]:Str)).bind fun x72=>(f5x x72).bind fun y74=>some y74
theorem a90 {l_:List l7}:Le (a9m l_) (e3d l_):=by
 unfold a9m e3d
 (repeat' (with_reducible first|exact Le.refl|assumption|(refine Le.bind ?_ fun _=>?_)|(refine Le.jn ?_ fun _=>?_)|(refine Le.grp fun _=>?_)|(refine Le.chk ?_)|(refine Le.cond ?_ ?_)|(refine Le.fl (fun _=>?_) fun _=>?_)|(refine Le.sum (fun _=>?_) fun _=>?_)|(refine Le.forL (fun _ _ _=>?_) _ _ _)|(refine Le.foldL (fun _ _ _=>?_) _ _ _)|(refine Le.loop fun _=>?_)|(refine Le.perm fun _=>?_)|(refine Le.amb ?_)|exact Le.sort|exact a8c|apply b2e))
def a5h (k40:Int) (a33:Str) (x32:List l7):Option (Fl (List l7) ((List l7)×Int)) :=
 (a9n a33).bind fun y42=>grp (((!y42.2)||decide ((x32.length:Int)=40))) fun b46=>bif b46 then some (.ex ([],4)) else chk (room (x32.length+[y42.1].length) 88) (some (.nx (x32++[y42.1])))
theorem b0u  (k40:Int) (a33:Str) (x32:List l7):Le (a5h k40 a33 x32) (f0r k40 a33 x32):=by
 unfold a5h f0r
 (repeat' (with_reducible first|exact Le.refl|assumption|(refine Le.bind ?_ fun _=>?_)|(refine Le.jn ?_ fun _=>?_)|(refine Le.grp fun _=>?_)|(refine Le.chk ?_)|(refine Le.cond ?_ ?_)|(refine Le.fl (fun _=>?_) fun _=>?_)|(refine Le.sum (fun _=>?_) fun _=>?_)|(refine Le.forL (fun _ _ _=>?_) _ _ _)|(refine Le.foldL (fun _ _ _=>?_) _ _ _)|(refine Le.loop fun _=>?_)|(refine Le.perm fun _=>?_)|(refine Le.amb ?_)|exact Le.sort|exact a92|exact a5e|exact a90))
def a8e (s_:Str):Option ((List l7)×Int) :=
 bif decide (65536<(s_.length:Int)) then some ([],3) else (f5f s_).bind fun y23=>(forL a5h (a1c s_) 0 []).bind fun o=>o.elim (fun x47=>(a6d x47).bind fun y55=>bif (!decide (y55=0)) then some ([],4) else (a9m x47).bind fun y56=>bif (!decide (y56=s_)) then some ([],4) else some (x47,0)) (fun r48=>some r48)
theorem b5q {s_:Str}:Le (a8e s_) (f05 s_):=by
 unfold a8e f05
 (repeat' (with_reducible first|exact Le.refl|assumption|(refine Le.bind ?_ fun _=>?_)|(refine Le.jn ?_ fun _=>?_)|(refine Le.grp fun _=>?_)|(refine Le.chk ?_)|(refine Le.cond ?_ ?_)|(refine Le.fl (fun _=>?_) fun _=>?_)|(refine Le.sum (fun _=>?_) fun _=>?_)|(refine Le.forL (fun _ _ _=>?_) _ _ _)|(refine Le.foldL (fun _ _ _=>?_) _ _ _)|(refine Le.loop fun _=>?_)|(refine Le.perm fun _=>?_)|(refine Le.amb ?_)|exact Le.sort|exact a92|exact a5e|exact a90|apply b0u))
mutual
def a1f:Nat→d9→(List l6)→l5→l8→Option Bool
 | 0,_,_,_,_=>none
 | n+1,k_,p_,p__,kC =>
 (a3n n k_ p_ p__ kC).bind fun y2=>some y2
def a3m:Nat→d9→(List l6)→l5→l8→Option Bool
 | 0,_,_,_,_=>none
 | n+1,k_,qG,gD,qC =>
 (a1f n k_ qG gD qC).bind fun y2=>some (!y2)
def a01:Nat→(List d9)→(List l6)→l5→l8→Option Int
 | 0,_,_,_,_=>none
 | n+1,s_,gB,qA,jA =>
 (forL (fun (k31:Int) (a32:d9) (x30:Unit)=>((a3m n a32 gB qA jA).bind fun y40=>bif y40 then some (.ex k31) else some (.nx ()):Option (Fl Unit Int))) s_ 0 ()).bind fun o=>o.elim (fun x41=>some (-1)) (fun r42=>some r42)
def w9:Nat→(List d9)→(List l6)→l5→l8→Option Bool
 | 0,_,_,_,_=>none
 | n+1,s_,gB,qA,jA =>
 (a01 n s_ gB qA jA).bind fun y2=>some (decide (0≤y2))
def a02:Nat→(List d9)→(List l6)→l5→l8→Option Int
 | 0,_,_,_,_=>none
 | n+1,s_,tC,qB,jB =>
 (forL (fun (k31:Int) (a32:d9) (x30:Unit)=>((a1f n a32 tC qB jB).bind fun y40=>bif y40 then some (.ex k31) else some (.nx ()):Option (Fl Unit Int))) s_ 0 ()).bind fun o=>o.elim (fun x41=>some (-1)) (fun r42=>some r42)
def x8:Nat→(List d9)→(List l6)→l5→l8→Option Bool
 | 0,_,_,_,_=>none
 | n+1,s_,tC,qB,jB =>
 (a02 n s_ tC qB jB).bind fun y2=>some (decide (0≤y2))
def a3n:Nat→d9→(List l6)→l5→l8→Option Bool
 | 0,_,_,_,_=>none
 | n+1,c_,jC,f_,s_ =>
 bif decide (c_.Op=1) then bif decide (0≤f_.Kind) then bif decide (f_.Kind<(jC.length:Int)) then chk (inb f_.Kind jC.length) (some (decide ((jC.getD (f_.Kind).toNat default).Name=c_.Text))) else some false else some false else bif decide (c_.Op=2) then (d4v s_.Place.Path c_.Text).bind fun y12=>some y12 else bif decide (c_.Op=3) then (e2s s_.Place.Path c_.Text).bind fun y14=>some y14 else bif decide (c_.Op=4) then some (decide (s_.Place.Source=c_.Number)) else bif decide (c_.Op=5) then some (decide (c_.Number≤(s_.Layers.length:Int))) else bif decide (c_.Op=6) then jn (α:=Bool) (bif decide (s_.From≤s_.To) then some (decide ((IntKind.wrap .u64 c_.Number)≤(IntKind.wrap .u64 ((IntKind.wrap .u64 s_.To) - (IntKind.wrap .u64 s_.From))))) else some false) fun j16=>some j16 else bif decide (c_.Op=7) then some (decide (f_.Fingerprint=c_.Print)) else bif decide (c_.Op=8) then some (decide (s_.Place.Time<c_.Number)) else bif decide (c_.Op=9) then chk (inb 0 c_.Kids.length) ((a1f n (c_.Kids.getD 0 default) jC f_ s_).bind fun y18=>some (!y18)) else bif decide (c_.Op=10) then (w9 n c_.Kids jC f_ s_).bind fun y20=>some (!y20) else (x8 n c_.Kids jC f_ s_).bind fun y22=>some y22
end
theorem a08:∀n m,n≤m→(∀(k_:d9) (p_:List l6) (p__:l5) (kC:l8),Le (a1f n k_ p_ p__ kC) (b5l m k_ p_ p__ kC))∧(∀(k_:d9) (qG:List l6) (gD:l5) (qC:l8),Le (a3m n k_ qG gD qC) (b9z m k_ qG gD qC))∧(∀(s_:List d9) (gB:List l6) (qA:l5) (jA:l8),Le (a01 n s_ gB qA jA) (c02 m s_ gB qA jA))∧(∀(s_:List d9) (gB:List l6) (qA:l5) (jA:l8),Le (w9 n s_ gB qA jA) (b9w m s_ gB qA jA))∧(∀(s_:List d9) (tC:List l6) (qB:l5) (jB:l8),Le (a02 n s_ tC qB jB) (c01 m s_ tC qB jB))∧(∀(s_:List d9) (tC:List l6) (qB:l5) (jB:l8),Le (x8 n s_ tC qB jB) (b9v m s_ tC qB jB))∧(∀(c_:d9) (jC:List l6) (f_:l5) (s_:l8),Le (a3n n c_ jC f_ s_) (b9x m c_ jC f_ s_))
 | 0,m,_=>by
  refine ⟨?_,?_,?_,?_,?_,?_,?_⟩
  all_goals (intros;first|(simp only [a1f,a3m,a01,w9,a02,x8,a3n];exact Le.non))
 | n+1,0,h=>absurd h (by omega)
 | n+1,m+1,h=>by
  have ih:=a08 n m (by omega)
  obtain ⟨ih_rule_holds_1,ih_rule_holds_2,ih_slices_IndexFunc_api_Term_api_Term_of_rule_holds_2,ih_slices_ContainsFunc_api_Term_api_Term_of_rule_holds_2,ih_slices_IndexFunc_api_Term_api_Term_of_rule_holds_1,ih_slices_ContainsFunc_api_Term_api_Term_of_rule_holds_1,ih_rule_holds⟩:=ih
  refine ⟨?_,?_,?_,?_,?_,?_,?_⟩
  ·intros;simp only [a1f,b5l];(repeat' (with_reducible first|exact Le.refl|assumption|(refine Le.bind ?_ fun _=>?_)|(refine Le.jn ?_ fun _=>?_)|(refine Le.grp fun _=>?_)|(refine Le.chk ?_)|(refine Le.cond ?_ ?_)|(refine Le.fl (fun _=>?_) fun _=>?_)|(refine Le.sum (fun _=>?_) fun _=>?_)|(refine Le.forL (fun _ _ _=>?_) _ _ _)|(refine Le.foldL (fun _ _ _=>?_) _ _ _)|(refine Le.loop fun _=>?_)|(refine Le.perm fun _=>?_)|(refine Le.amb ?_)|exact Le.sort|exact ih_rule_holds_1 _ _ _ _|exact ih_rule_holds_2 _ _ _ _|exact ih_slices_IndexFunc_api_Term_api_Term_of_rule_holds_2 _ _ _ _|exact ih_slices_ContainsFunc_api_Term_api_Term_of_rule_holds_2 _ _ _ _|exact ih_slices_IndexFunc_api_Term_api_Term_of_rule_holds_1 _ _ _ _|exact ih_slices_ContainsFunc_api_Term_api_Term_of_rule_holds_1 _ _ _ _|exact ih_rule_holds _ _ _ _))
  ·intros;simp only [a3m,b9z];(repeat' (with_reducible first|exact Le.refl|assumption|(refine Le.bind ?_ fun _=>?_)|(refine Le.jn ?_ fun _=>?_)|(refine Le.grp fun _=>?_)|(refine Le.chk ?_)|(refine Le.cond ?_ ?_)|(refine Le.fl (fun _=>?_) fun _=>?_)|(refine Le.sum (fun _=>?_) fun _=>?_)|(refine Le.forL (fun _ _ _=>?_) _ _ _)|(refine Le.foldL (fun _ _ _=>?_) _ _ _)|(refine Le.loop fun _=>?_)|(refine Le.perm fun _=>?_)|(refine Le.amb ?_)|exact Le.sort|exact ih_rule_holds_1 _ _ _ _|exact ih_rule_holds_2 _ _ _ _|exact ih_slices_IndexFunc_api_Term_api_Term_of_rule_holds_2 _ _ _ _|exact ih_slices_ContainsFunc_api_Term_api_Term_of_rule_holds_2 _ _ _ _|exact ih_slices_IndexFunc_api_Term_api_Term_of_rule_holds_1 _ _ _ _|exact ih_slices_ContainsFunc_api_Term_api_Term_of_rule_holds_1 _ _ _ _|exact ih_rule_holds _ _ _ _))
  ·intros;simp only [a01,c02];(repeat' (with_reducible first|exact Le.refl|assumption|(refine Le.bind ?_ fun _=>?_)|(refine Le.jn ?_ fun _=>?_)|(refine Le.grp fun _=>?_)|(refine Le.chk ?_)|(refine Le.cond ?_ ?_)|(refine Le.fl (fun _=>?_) fun _=>?_)|(refine Le.sum (fun _=>?_) fun _=>?_)|(refine Le.forL (fun _ _ _=>?_) _ _ _)|(refine Le.foldL (fun _ _ _=>?_) _ _ _)|(refine Le.loop fun _=>?_)|(refine Le.perm fun _=>?_)|(refine Le.amb ?_)|exact Le.sort|exact ih_rule_holds_1 _ _ _ _|exact ih_rule_holds_2 _ _ _ _|exact ih_slices_IndexFunc_api_Term_api_Term_of_rule_holds_2 _ _ _ _|exact ih_slices_ContainsFunc_api_Term_api_Term_of_rule_holds_2 _ _ _ _|exact ih_slices_IndexFunc_api_Term_api_Term_of_rule_holds_1 _ _ _ _|exact ih_slices_ContainsFunc_api_Term_api_Term_of_rule_holds_1 _ _ _ _|exact ih_rule_holds _ _ _ _))
  ·intros;simp only [w9,b9w];(repeat' (with_reducible first|exact Le.refl|assumption|(refine Le.bind ?_ fun _=>?_)|(refine Le.jn ?_ fun _=>?_)|(refine Le.grp fun _=>?_)|(refine Le.chk ?_)|(refine Le.cond ?_ ?_)|(refine Le.fl (fun _=>?_) fun _=>?_)|(refine Le.sum (fun _=>?_) fun _=>?_)|(refine Le.forL (fun _ _ _=>?_) _ _ _)|(refine Le.foldL (fun _ _ _=>?_) _ _ _)|(refine Le.loop fun _=>?_)|(refine Le.perm fun _=>?_)|(refine Le.amb ?_)|exact Le.sort|exact ih_rule_holds_1 _ _ _ _|exact ih_rule_holds_2 _ _ _ _|exact ih_slices_IndexFunc_api_Term_api_Term_of_rule_holds_2 _ _ _ _|exact ih_slices_ContainsFunc_api_Term_api_Term_of_rule_holds_2 _ _ _ _|exact ih_slices_IndexFunc_api_Term_api_Term_of_rule_holds_1 _ _ _ _|exact ih_slices_ContainsFunc_api_Term_api_Term_of_rule_holds_1 _ _ _ _|exact ih_rule_holds _ _ _ _))
  ·intros;simp only [a02,c01];(repeat' (with_reducible first|exact Le.refl|assumption|(refine Le.bind ?_ fun _=>?_)|(refine Le.jn ?_ fun _=>?_)|(refine Le.grp fun _=>?_)|(refine Le.chk ?_)|(refine Le.cond ?_ ?_)|(refine Le.fl (fun _=>?_) fun _=>?_)|(refine Le.sum (fun _=>?_) fun _=>?_)|(refine Le.forL (fun _ _ _=>?_) _ _ _)|(refine Le.foldL (fun _ _ _=>?_) _ _ _)|(refine Le.loop fun _=>?_)|(refine Le.perm fun _=>?_)|(refine Le.amb ?_)|exact Le.sort|exact ih_rule_holds_1 _ _ _ _|exact ih_rule_holds_2 _ _ _ _|exact ih_slices_IndexFunc_api_Term_api_Term_of_rule_holds_2 _ _ _ _|exact ih_slices_ContainsFunc_api_Term_api_Term_of_rule_holds_2 _ _ _ _|exact ih_slices_IndexFunc_api_Term_api_Term_of_rule_holds_1 _ _ _ _|exact ih_slices_ContainsFunc_api_Term_api_Term_of_rule_holds_1 _ _ _ _|exact ih_rule_holds _ _ _ _))
  ·intros;simp only [x8,b9v];(repeat' (with_reducible first|exact Le.refl|assumption|(refine Le.bind ?_ fun _=>?_)|(refine Le.jn ?_ fun _=>?_)|(refine Le.grp fun _=>?_)|(refine Le.chk ?_)|(refine Le.cond ?_ ?_)|(refine Le.fl (fun _=>?_) fun _=>?_)|(refine Le.sum (fun _=>?_) fun _=>?_)|(refine Le.forL (fun _ _ _=>?_) _ _ _)|(refine Le.foldL (fun _ _ _=>?_) _ _ _)|(refine Le.loop fun _=>?_)|(refine Le.perm fun _=>?_)|(refine Le.amb ?_)|exact Le.sort|exact ih_rule_holds_1 _ _ _ _|exact ih_rule_holds_2 _ _ _ _|exact ih_slices_IndexFunc_api_Term_api_Term_of_rule_holds_2 _ _ _ _|exact ih_slices_ContainsFunc_api_Term_api_Term_of_rule_holds_2 _ _ _ _|exact ih_slices_IndexFunc_api_Term_api_Term_of_rule_holds_1 _ _ _ _|exact ih_slices_ContainsFunc_api_Term_api_Term_of_rule_holds_1 _ _ _ _|exact ih_rule_holds _ _ _ _))
  ·intros;simp only [a3n,b9x];(repeat' (with_reducible first|exact Le.refl|assumption|(refine Le.bind ?_ fun _=>?_)|(refine Le.jn ?_ fun _=>?_)|(refine Le.grp fun _=>?_)|(refine Le.chk ?_)|(refine Le.cond ?_ ?_)|(refine Le.fl (fun _=>?_) fun _=>?_)|(refine Le.sum (fun _=>?_) fun _=>?_)|(refine Le.forL (fun _ _ _=>?_) _ _ _)|(refine Le.foldL (fun _ _ _=>?_) _ _ _)|(refine Le.loop fun _=>?_)|(refine Le.perm fun _=>?_)|(refine Le.amb ?_)|exact Le.sort|exact ih_rule_holds_1 _ _ _ _|exact ih_rule_holds_2 _ _ _ _|exact ih_slices_IndexFunc_api_Term_api_Term_of_rule_holds_2 _ _ _ _|exact ih_slices_ContainsFunc_api_Term_api_Term_of_rule_holds_2 _ _ _ _|exact ih_slices_IndexFunc_api_Term_api_Term_of_rule_holds_1 _ _ _ _|exact ih_slices_ContainsFunc_api_Term_api_Term_of_rule_holds_1 _ _ _ _|exact ih_rule_holds _ _ _ _))
def b3j (c_:d9) (jC:List l6) (f_:l5) (s_:l8):Option Bool:=a3n 400 c_ jC f_ s_
theorem b5o {c_:d9} {jC:List l6} {f_:l5} {s_:l8}:Le (b3j c_ jC f_ s_) (F_6 c_ jC f_ s_):=Le.lim (n:=400) fun m hm=>(a08 400 m hm).2.2.2.2.2.2 _ _ _ _
def a5i (r_:l7) (p_:List l6) (p__:l5) (kC:l8):Option Bool :=
 (b3j r_.When p_ p__ kC).bind fun y2=>some y2
theorem a6e {r_:l7} {p_:List l6} {p__:l5} {kC:l8}:Le (a5i r_ p_ p__ kC) (e2r r_ p_ p__ kC):=by
 unfold a5i e2r
 (repeat' (with_reducible first|exact Le.refl|assumption|(refine Le.bind ?_ fun _=>?_)|(refine Le.jn ?_ fun _=>?_)|(refine Le.grp fun _=>?_)|(refine Le.chk ?_)|(refine Le.cond ?_ ?_)|(refine Le.fl (fun _=>?_) fun _=>?_)|(refine Le.sum (fun _=>?_) fun _=>?_)|(refine Le.forL (fun _ _ _=>?_) _ _ _)|(refine Le.foldL (fun _ _ _=>?_) _ _ _)|(refine Le.loop fun _=>?_)|(refine Le.perm fun _=>?_)|(refine Le.amb ?_)|exact Le.sort|exact b5o))
def a04 (tC:List l6) (qB:l5) (jB:l8) (k31:Int) (a32:l7) (x30:Unit):Option (Fl Unit Int) :=
 (a5i a32 tC qB jB).bind fun y40=>bif y40 then some (.ex k31) else some (.nx ())
theorem a0u  (tC:List l6) (qB:l5) (jB:l8) (k31:Int) (a32:l7) (x30:Unit):Le (a04 tC qB jB k31 a32 x30) (e1d tC qB jB k31 a32 x30):=by
 unfold a04 e1d
 (repeat' (with_reducible first|exact Le.refl|assumption|(refine Le.bind ?_ fun _=>?_)|(refine Le.jn ?_ fun _=>?_)|(refine Le.grp fun _=>?_)|(refine Le.chk ?_)|(refine Le.cond ?_ ?_)|(refine Le.fl (fun _=>?_) fun _=>?_)|(refine Le.sum (fun _=>?_) fun _=>?_)|(refine Le.forL (fun _ _ _=>?_) _ _ _)|(refine Le.foldL (fun _ _ _=>?_) _ _ _)|(refine Le.loop fun _=>?_)|(refine Le.perm fun _=>?_)|(refine Le.amb ?_)|exact Le.sort|exact a6e))
def a05 (s_:List l7) (tC:List l6) (qB:l5) (jB:l8):Option Int :=
 (forL (a04 tC qB jB) s_ 0 ()).bind fun o=>o.elim (fun x41=>some (-1)) (fun r42=>some r42)
theorem a0y {s_:List l7} {tC:List l6} {qB:l5} {jB:l8}:Le (a05 s_ tC qB jB) (e2v s_ tC qB jB):=by
 unfold a05 e2v
 (repeat' (with_reducible first|exact Le.refl|assumption|(refine Le.bind ?_ fun _=>?_)|(refine Le.jn ?_ fun _=>?_)|(refine Le.grp fun _=>?_)|(refine Le.chk ?_)|(refine Le.cond ?_ ?_)|(refine Le.fl (fun _=>?_) fun _=>?_)|(refine Le.sum (fun _=>?_) fun _=>?_)|(refine Le.forL (fun _ _ _=>?_) _ _ _)|(refine Le.foldL (fun _ _ _=>?_) _ _ _)|(refine Le.loop fun _=>?_)|(refine Le.perm fun _=>?_)|(refine Le.amb ?_)|exact Le.sort|exact a6e|apply a0u))
def a7k (l_:List l7) (jC:List l6) (f_:l5) (s_:l8):Option (Int×Int) :=
 (a05 l_ jC f_ s_).bind fun y2=>bif decide (y2<0) then some (1,(-1)) else chk (inb y2 l_.length) (some ((l_.getD (y2).toNat default).Verdict,y2))
theorem b3t {l_:List l7} {jC:List l6} {f_:l5} {s_:l8}:Le (a7k l_ jC f_ s_) (e1b l_ jC f_ s_):=by
 unfold a7k e1b
 (repeat' (with_reducible first|exact Le.refl|assumption|(refine Le.bind ?_ fun _=>?_)|(refine Le.jn ?_ fun _=>?_)|(refine Le.grp fun _=>?_)|(refine Le.chk ?_)|(refine Le.cond ?_ ?_)|(refine Le.fl (fun _=>?_) fun _=>?_)|(refine Le.sum (fun _=>?_) fun _=>?_)|(refine Le.forL (fun _ _ _=>?_) _ _ _)|(refine Le.foldL (fun _ _ _=>?_) _ _ _)|(refine Le.loop fun _=>?_)|(refine Le.perm fun _=>?_)|(refine Le.amb ?_)|exact Le.sort|exact a0y))
def a8f (l_:List l7) (jC:List l6) (f_:l5) (kH:Int):Option (Int×Int) :=
 grp ((decide (kH<0)||decide ((f_.Where.length:Int)≤kH))) fun b7=>bif b7 then some (1,(-1)) else (a6d l_).bind fun y8=>bif (!decide (y8=0)) then some (1,(-1)) else chk (inb kH f_.Where.length) ((a7k l_ jC f_ (f_.Where.getD (kH).toNat default)).bind fun y10=>some (y10.1,y10.2))
theorem b5r {l_:List l7} {jC:List l6} {f_:l5} {kH:Int}:Le (a8f l_ jC f_ kH) (c99 l_ jC f_ kH):=by
 unfold a8f c99
 (repeat' (with_reducible first|exact Le.refl|assumption|(refine Le.bind ?_ fun _=>?_)|(refine Le.jn ?_ fun _=>?_)|(refine Le.grp fun _=>?_)|(refine Le.chk ?_)|(refine Le.cond ?_ ?_)|(refine Le.fl (fun _=>?_) fun _=>?_)|(refine Le.sum (fun _=>?_) fun _=>?_)|(refine Le.forL (fun _ _ _=>?_) _ _ _)|(refine Le.foldL (fun _ _ _=>?_) _ _ _)|(refine Le.loop fun _=>?_)|(refine Le.perm fun _=>?_)|(refine Le.amb ?_)|exact Le.sort|exact a5e|exact b3t))
def b1c:Option Bool :=
 (a8e [100,111,99,115,58,32,102,97,108,115,101,32,105,102,32,112,97,116,104,32,34,100,111,99,115,47,34,10]).bind fun y2=>(a8f y2.1 [] (l5.mk 0 0 [(l8.mk (b0s.mk 0 [100,111,99,115,47,120] 0) [] 0 0)]) 0).bind fun y4=>grp ((decide (y2.2=0)&&decide ((y2.1.length:Int)=1))) fun b8=>grp ((b8&&decide (y4.1=2))) fun b9=>grp ((b9&&decide (y4.2=0))) fun b10=>some b10
theorem b3z:Le (b1c ) (e2o ):=by
 unfold b1c e2o
 (repeat' (with_reducible first|exact Le.refl|assumption|(refine Le.bind ?_ fun _=>?_)|(refine Le.jn ?_ fun _=>?_)|(refine Le.grp fun _=>?_)|(refine Le.chk ?_)|(refine Le.cond ?_ ?_)|(refine Le.fl (fun _=>?_) fun _=>?_)|(refine Le.sum (fun _=>?_) fun _=>?_)|(refine Le.forL (fun _ _ _=>?_) _ _ _)|(refine Le.foldL (fun _ _ _=>?_) _ _ _)|(refine Le.loop fun _=>?_)|(refine Le.perm fun _=>?_)|(refine Le.amb ?_)|exact Le.sort|exact b5q|exact b5r))
def a2j:Nat→o7→Int→Option Int
 | 0,_,_=>none
 | n+1,n_,jE =>
 chk (a0c (jE+1)) ((iter (fun (x37:Int×Int)=>(grp ((decide (x37.2<(n_.Kids.length:Int))&&decide (x37.1≤200))) fun b47=>bif b47 then chk (inb x37.2 n_.Kids.length) ((a2j n (n_.Kids.getD (x37.2).toNat default) x37.1).bind fun y49=>chk (a0c (x37.2+1)) (some (.nx (y49,(x37.2+1))))) else some (.ex x37.1):Option (Fl (Int×Int) Int))) 100000 ((jE+1),0)).bind fun r50=>some r50)
theorem a96:∀n m,n≤m→(∀(n_:o7) (jE:Int),Le (a2j n n_ jE) (d3q m n_ jE))
 | 0,m,_=>by
  refine ?_
  all_goals (intros;first|(simp only [a2j];exact Le.non))
 | n+1,0,h=>absurd h (by omega)
 | n+1,m+1,h=>by
  have ih:=a96 n m (by omega)
  have ih_ref05_count:=ih
  intros;simp only [a2j,d3q];(repeat' (with_reducible first|exact Le.refl|assumption|(refine Le.bind ?_ fun _=>?_)|(refine Le.jn ?_ fun _=>?_)|(refine Le.grp fun _=>?_)|(refine Le.chk ?_)|(refine Le.cond ?_ ?_)|(refine Le.fl (fun _=>?_) fun _=>?_)|(refine Le.sum (fun _=>?_) fun _=>?_)|(refine Le.forL (fun _ _ _=>?_) _ _ _)|(refine Le.foldL (fun _ _ _=>?_) _ _ _)|(refine Le.loop fun _=>?_)|(refine Le.perm fun _=>?_)|(refine Le.amb ?_)|exact Le.sort|exact ih_ref05_count _ _))
def b1a (n_:o7) (jE:Int):Option Int:=a2j 400 n_ jE
theorem b3w {n_:o7} {jE:Int}:Le (b1a n_ jE) (F_l n_ jE):=Le.lim (n:=400) fun m hm=>(a96 400 m hm) _ _
def a7m (n_:o7):Option Int :=
 (b1a n_ 0).bind fun y2=>some (min y2 201)
theorem b3x {n_:o7}:Le (a7m n_) (e9q n_):=by
 unfold a7m e9q
 (repeat' (with_reducible first|exact Le.refl|assumption|(refine Le.bind ?_ fun _=>?_)|(refine Le.jn ?_ fun _=>?_)|(refine Le.grp fun _=>?_)|(refine Le.chk ?_)|(refine Le.cond ?_ ?_)|(refine Le.fl (fun _=>?_) fun _=>?_)|(refine Le.sum (fun _=>?_) fun _=>?_)|(refine Le.forL (fun _ _ _=>?_) _ _ _)|(refine Le.foldL (fun _ _ _=>?_) _ _ _)|(refine Le.loop fun _=>?_)|(refine Le.perm fun _=>?_)|(refine Le.amb ?_)|exact Le.sort|exact b3w))
def a2i:Nat→o7→Option Int
 | 0,_=>none
 | n+1,n_ =>
 (iter (fun (x17:Int×Int)=>(bif decide (x17.2<(n_.Kids.length:Int)) then chk (inb x17.2 n_.Kids.length) ((a2i n (n_.Kids.getD (x17.2).toNat default)).bind fun y21=>chk (a0c (x17.2+1)) (some (.nx ((max x17.1 y21),(x17.2+1))))) else some (.ex x17.1):Option (Fl (Int×Int) Int))) 100000 (0,0)).bind fun r22=>chk (a0c (r22+1)) (some (r22+1))
theorem a95:∀n m,n≤m→(∀(n_:o7),Le (a2i n n_) (d3p m n_))
 | 0,m,_=>by
  refine ?_
  all_goals (intros;first|(simp only [a2i];exact Le.non))
 | n+1,0,h=>absurd h (by omega)
 | n+1,m+1,h=>by
  have ih:=a95 n m (by omega)
  have ih_ref05_depth:=ih
  intros;simp only [a2i,d3p];(repeat' (with_reducible first|exact Le.refl|assumption|(refine Le.bind ?_ fun _=>?_)|(refine Le.jn ?_ fun _=>?_)|(refine Le.grp fun _=>?_)|(refine Le.chk ?_)|(refine Le.cond ?_ ?_)|(refine Le.fl (fun _=>?_) fun _=>?_)|(refine Le.sum (fun _=>?_) fun _=>?_)|(refine Le.forL (fun _ _ _=>?_) _ _ _)|(refine Le.foldL (fun _ _ _=>?_) _ _ _)|(refine Le.loop fun _=>?_)|(refine Le.perm fun _=>?_)|(refine Le.amb ?_)|exact Le.sort|exact ih_ref05_depth _))
def b0z (n_:o7):Option Int:=a2i 400 n_
theorem b3v {n_:o7}:Le (b0z n_) (F_m n_):=Le.lim (n:=400) fun m hm=>(a95 400 m hm) _
def a4d (l_:List o9) (x19:Int):Option (Fl Int (Sum Unit Bool)) :=
 bif decide (x19<(l_.length:Int)) then jn (α:=Fl (Int×Bool×Bool×Bool) Bool) (chk (inb x19 l_.length) (chk (inb x19 l_.length) (bif decide ((((l_.getD (x19).toNat default).High).toNat:Int)<(((l_.getD (x19).toNat default).Low).toNat:Int)) then some (.ex false) else bif decide (0<x19) then chk (inb x19 l_.length) (chk (a0c (x19 - 1)) (chk (inb (x19 - 1) l_.length) (chk (a0c ((((l_.getD ((x19 - 1)).toNat default).High).toNat:Int)+2)) (bif decide ((((l_.getD (x19).toNat default).Low).toNat:Int)<((((l_.getD ((x19 - 1)).toNat default).High).toNat:Int)+2)) then some (.ex false) else some (.nx (x19,decide (0<x19),true,decide ((((l_.getD (x19).toNat default).Low).toNat:Int)<((((l_.getD ((x19 - 1)).toNat default).High).toNat:Int)+2)))))))) else some (.nx (x19,decide (0<x19),false,false))))) fun o=>o.elim (fun j22=>chk (a0c (x19+1)) (some (.nx (x19+1)))) (fun r23=>some (.ex (.inr r23))) else some (.ex (.inl ()))
theorem a8u  (l_:List o9) (x19:Int):Le (a4d l_ x19) (f1e l_ x19):=by
 unfold a4d f1e
 (repeat' (with_reducible first|exact Le.refl|assumption|(refine Le.bind ?_ fun _=>?_)|(refine Le.jn ?_ fun _=>?_)|(refine Le.grp fun _=>?_)|(refine Le.chk ?_)|(refine Le.cond ?_ ?_)|(refine Le.fl (fun _=>?_) fun _=>?_)|(refine Le.sum (fun _=>?_) fun _=>?_)|(refine Le.forL (fun _ _ _=>?_) _ _ _)|(refine Le.foldL (fun _ _ _=>?_) _ _ _)|(refine Le.loop fun _=>?_)|(refine Le.perm fun _=>?_)|(refine Le.amb ?_)|exact Le.sort))
def a6o (l_:List o9):Option Bool :=
 (iter (a4d l_) 100000 0).bind fun r24=>Sum.elim (fun u25=>some (decide (0<(l_.length:Int)))) (fun u26=>some u26) r24
theorem b2h {l_:List o9}:Le (a6o l_) (e9u l_):=by
 unfold a6o e9u
 (repeat' (with_reducible first|exact Le.refl|assumption|(refine Le.bind ?_ fun _=>?_)|(refine Le.jn ?_ fun _=>?_)|(refine Le.grp fun _=>?_)|(refine Le.chk ?_)|(refine Le.cond ?_ ?_)|(refine Le.fl (fun _=>?_) fun _=>?_)|(refine Le.sum (fun _=>?_) fun _=>?_)|(refine Le.forL (fun _ _ _=>?_) _ _ _)|(refine Le.foldL (fun _ _ _=>?_) _ _ _)|(refine Le.loop fun _=>?_)|(refine Le.perm fun _=>?_)|(refine Le.amb ?_)|exact Le.sort|apply a8u))
def a5p (n_:o7) (x9:Int):Option (Fl Int (Sum Unit Bool)) :=
 bif decide (x9<(n_.Kids.length:Int)) then chk (inb x9 n_.Kids.length) (bif decide ((n_.Kids.getD (x9).toNat default).Op=n_.Op) then some (.ex (.inr false)) else chk (a0c (x9+1)) (some (.nx (x9+1)))) else some (.ex (.inl ()))
theorem b0y  (n_:o7) (x9:Int):Le (a5p n_ x9) (f1d n_ x9):=by
 unfold a5p f1d
 (repeat' (with_reducible first|exact Le.refl|assumption|(refine Le.bind ?_ fun _=>?_)|(refine Le.jn ?_ fun _=>?_)|(refine Le.grp fun _=>?_)|(refine Le.chk ?_)|(refine Le.cond ?_ ?_)|(refine Le.fl (fun _=>?_) fun _=>?_)|(refine Le.sum (fun _=>?_) fun _=>?_)|(refine Le.forL (fun _ _ _=>?_) _ _ _)|(refine Le.foldL (fun _ _ _=>?_) _ _ _)|(refine Le.loop fun _=>?_)|(refine Le.perm fun _=>?_)|(refine Le.amb ?_)|exact Le.sort))
def a8i (n_:o7):Option Bool :=
 (iter (a5p n_) 100000 0).bind fun r10=>Sum.elim (fun u11=>grp ((decide (2≤(n_.Kids.length:Int))&&decide ((n_.Ranges.length:Int)=0))) fun b16=>grp ((b16&&decide (n_.Min=0))) fun b17=>grp ((b17&&decide (n_.Max=0))) fun b18=>some b18) (fun u12=>some u12) r10
theorem b5u {n_:o7}:Le (a8i n_) (e9z n_):=by
 unfold a8i e9z
 (repeat' (with_reducible first|exact Le.refl|assumption|(refine Le.bind ?_ fun _=>?_)|(refine Le.jn ?_ fun _=>?_)|(refine Le.grp fun _=>?_)|(refine Le.chk ?_)|(refine Le.cond ?_ ?_)|(refine Le.fl (fun _=>?_) fun _=>?_)|(refine Le.sum (fun _=>?_) fun _=>?_)|(refine Le.forL (fun _ _ _=>?_) _ _ _)|(refine Le.foldL (fun _ _ _=>?_) _ _ _)|(refine Le.loop fun _=>?_)|(refine Le.perm fun _=>?_)|(refine Le.amb ?_)|exact Le.sort|apply b0y))
def a2h:Nat→o7→Option Bool
 | 0,_=>none
 | n+1,n_ =>
 jn (α:=Bool) (bif decide (n_.Op=1) then (a6o n_.Ranges).bind fun y14=>grp ((y14&&decide ((n_.Kids.length:Int)=0))) fun b15=>grp ((b15&&decide (n_.Min=0))) fun b16=>grp ((b16&&decide (n_.Max=0))) fun b17=>some b17 else jn (α:=Bool) (bif decide (n_.Op=2) then some true else some (decide (n_.Op=3))) fun j18=>bif j18 then (a8i n_).bind fun y19=>some y19 else bif decide (n_.Op=4) then grp ((decide ((n_.Kids.length:Int)=1)&&decide ((n_.Ranges.length:Int)=0))) fun b20=>grp ((b20&&decide (0≤n_.Min))) fun b21=>grp ((b21&&decide (1≤n_.Max))) fun b22=>grp ((b22&&decide (n_.Min≤n_.Max))) fun b23=>grp ((b23&&decide (n_.Max≤64))) fun b24=>grp ((b24&&((!decide (n_.Min=1))||(!decide (n_.Max=1))))) fun b25=>some b25 else some false) fun j13=>(iter (fun (x62:Bool×Int)=>(grp ((decide (x62.2<(n_.Kids.length:Int))&&x62.1)) fun b72=>bif b72 then chk (inb x62.2 n_.Kids.length) ((a2h n (n_.Kids.getD (x62.2).toNat default)).bind fun y74=>chk (a0c (x62.2+1)) (some (.nx (y74,(x62.2+1))))) else some (.ex x62.1):Option (Fl (Bool×Int) Bool))) 100000 (j13,0)).bind fun r75=>some r75
theorem a94:∀n m,n≤m→(∀(n_:o7),Le (a2h n n_) (d3s m n_))
 | 0,m,_=>by
  refine ?_
  all_goals (intros;first|(simp only [a2h];exact Le.non))
 | n+1,0,h=>absurd h (by omega)
 | n+1,m+1,h=>by
  have ih:=a94 n m (by omega)
  have ih_ref05_right:=ih
  intros;simp only [a2h,d3s];(repeat' (with_reducible first|exact Le.refl|assumption|(refine Le.bind ?_ fun _=>?_)|(refine Le.jn ?_ fun _=>?_)|(refine Le.grp fun _=>?_)|(refine Le.chk ?_)|(refine Le.cond ?_ ?_)|(refine Le.fl (fun _=>?_) fun _=>?_)|(refine Le.sum (fun _=>?_) fun _=>?_)|(refine Le.forL (fun _ _ _=>?_) _ _ _)|(refine Le.foldL (fun _ _ _=>?_) _ _ _)|(refine Le.loop fun _=>?_)|(refine Le.perm fun _=>?_)|(refine Le.amb ?_)|exact Le.sort|exact ih_ref05_right _|exact b2h|exact b5u))
def b0x (n_:o7):Option Bool:=a2h 400 n_
theorem b3u {n_:o7}:Le (b0x n_) (F_c n_):=Le.lim (n:=400) fun m hm=>(a94 400 m hm) _
def a1a:Nat→o7→Bool→Option Int
 | 0,_,_=>none
 | n+1,n_,jG =>
 jn (α:=Fl Int Int) (bif decide (n_.Op=1) then some (.ex 1) else bif decide (n_.Op=2) then (iter (fun (x47:Int×Int)=>(bif decide (x47.2<(n_.Kids.length:Int)) then chk (inb x47.2 n_.Kids.length) ((a1a n (n_.Kids.getD (x47.2).toNat default) jG).bind fun y51=>chk (a0c (x47.1+y51)) (chk (a0c (x47.2+1)) (some (.nx ((x47.1+y51),(x47.2+1)))))) else some (.ex x47.1):Option (Fl (Int×Int) Int))) 100000 (0,0)).bind fun r52=>some (.nx r52) else bif decide (n_.Op=3) then chk (inb 0 n_.Kids.length) ((a1a n (n_.Kids.getD 0 default) jG).bind fun y54=>(iter (fun (x71:Int×Int)=>(bif decide (x71.2<(n_.Kids.length:Int)) then jn (α:=Int) (chk (inb x71.2 n_.Kids.length) ((a1a n (n_.Kids.getD (x71.2).toNat default) jG).bind fun y87=>grp ((jG&&decide (x71.1<y87))) fun b90=>grp ((b90||((!jG)&&decide (y87<x71.1)))) fun b91=>bif b91 then some y87 else some x71.1)) fun j85=>chk (a0c (x71.2+1)) (some (.nx (j85,(x71.2+1)))) else some (.ex x71.1):Option (Fl (Int×Int) Int))) 100000 (y54,1)).bind fun r92=>some (.nx r92)) else jn (α:=Int) (bif jG then some n_.Max else some n_.Min) fun j93=>chk (inb 0 n_.Kids.length) ((a1a n (n_.Kids.getD 0 default) jG).bind fun y94=>chk (a0c (j93*y94)) (some (.nx (j93*y94))))) fun o=>o.elim (fun j40=>some (min j40 1025)) (fun r95=>some r95)
theorem b1h:∀n m,n≤m→(∀(n_:o7) (jG:Bool),Le (a1a n n_ jG) (c5n m n_ jG))
 | 0,m,_=>by
  refine ?_
  all_goals (intros;first|(simp only [a1a];exact Le.non))
 | n+1,0,h=>absurd h (by omega)
 | n+1,m+1,h=>by
  have ih:=b1h n m (by omega)
  have ih_ref05_size:=ih
  intros;simp only [a1a,c5n];(repeat' (with_reducible first|exact Le.refl|assumption|(refine Le.bind ?_ fun _=>?_)|(refine Le.jn ?_ fun _=>?_)|(refine Le.grp fun _=>?_)|(refine Le.chk ?_)|(refine Le.cond ?_ ?_)|(refine Le.fl (fun _=>?_) fun _=>?_)|(refine Le.sum (fun _=>?_) fun _=>?_)|(refine Le.forL (fun _ _ _=>?_) _ _ _)|(refine Le.foldL (fun _ _ _=>?_) _ _ _)|(refine Le.loop fun _=>?_)|(refine Le.perm fun _=>?_)|(refine Le.amb ?_)|exact Le.sort|exact ih_ref05_size _ _))
def a6i (n_:o7) (jG:Bool):Option Int:=a1a 400 n_ jG
theorem a5o {n_:o7} {jG:Bool}:Le (a6i n_ jG) (F_2 n_ jG):=Le.lim (n:=400) fun m hm=>(b1h 400 m hm) _ _
def a3s (n_:o7):Option Int :=
 (a7m n_).bind fun y4=>bif decide (200<y4) then some 3 else (b0z n_).bind fun y8=>bif decide (20<y8) then some 9 else (b0x n_).bind fun y12=>bif (!y12) then some 1 else (a6i n_ true).bind fun y16=>bif decide (1024<y16) then some 3 else some 0
theorem a4m {n_:o7}:Le (a3s n_) (e0z n_):=by
 unfold a3s e0z
 (repeat' (with_reducible first|exact Le.refl|assumption|(refine Le.bind ?_ fun _=>?_)|(refine Le.jn ?_ fun _=>?_)|(refine Le.grp fun _=>?_)|(refine Le.chk ?_)|(refine Le.cond ?_ ?_)|(refine Le.fl (fun _=>?_) fun _=>?_)|(refine Le.sum (fun _=>?_) fun _=>?_)|(refine Le.forL (fun _ _ _=>?_) _ _ _)|(refine Le.foldL (fun _ _ _=>?_) _ _ _)|(refine Le.loop fun _=>?_)|(refine Le.perm fun _=>?_)|(refine Le.amb ?_)|exact Le.sort|exact b3x|exact b3v|exact b3u|exact a5o))
def a3p:Nat→o7→Option Int
 | 0,_=>none
 | n+1,n_ =>
 bif decide (n_.Op=1) then some 1 else (iter (fun (x17:Int×Int)=>(bif decide (x17.2<(n_.Kids.length:Int)) then chk (inb x17.2 n_.Kids.length) ((a3p n (n_.Kids.getD (x17.2).toNat default)).bind fun y21=>chk (a0c (x17.1+y21)) (chk (a0c (x17.2+1)) (some (.nx ((x17.1+y21),(x17.2+1)))))) else some (.ex x17.1):Option (Fl (Int×Int) Int))) 100000 (0,0)).bind fun r22=>jn (α:=Int) (bif decide (n_.Op=4) then chk (a0c (r22*n_.Max)) (some (r22*n_.Max)) else some r22) fun j23=>some (min j23 601)
theorem b1g:∀n m,n≤m→(∀(n_:o7),Le (a3p n n_) (d3r m n_))
 | 0,m,_=>by
  refine ?_
  all_goals (intros;first|(simp only [a3p];exact Le.non))
 | n+1,0,h=>absurd h (by omega)
 | n+1,m+1,h=>by
  have ih:=b1g n m (by omega)
  have ih_ref06_sets:=ih
  intros;simp only [a3p,d3r];(repeat' (with_reducible first|exact Le.refl|assumption|(refine Le.bind ?_ fun _=>?_)|(refine Le.jn ?_ fun _=>?_)|(refine Le.grp fun _=>?_)|(refine Le.chk ?_)|(refine Le.cond ?_ ?_)|(refine Le.fl (fun _=>?_) fun _=>?_)|(refine Le.sum (fun _=>?_) fun _=>?_)|(refine Le.forL (fun _ _ _=>?_) _ _ _)|(refine Le.foldL (fun _ _ _=>?_) _ _ _)|(refine Le.loop fun _=>?_)|(refine Le.perm fun _=>?_)|(refine Le.amb ?_)|exact Le.sort|exact ih_ref06_sets _))
def b3l (n_:o7):Option Int:=a3p 400 n_
theorem b5t {n_:o7}:Le (b3l n_) (F_f n_):=Le.lim (n:=400) fun m hm=>(b1g 400 m hm) _
def a1g (a_:a0h) (b_:a0h) (x7:Int×(List (List Int))):Option (Fl (Int×(List (List Int))) (List (List Int))) :=
 bif decide (x7.1<(a_.qE.length:Int)) then chk (inb x7.1 a_.qE.length) (chk (inb x7.1 a_.qE.length) (chk (inb (a_.qE.getD (x7.1).toNat default) x7.2.length) (chk (room ((x7.2.getD (((a_.qE.getD (x7.1).toNat default)).toNat) default).length+b_.vG.length) 8) (chk (inb (a_.qE.getD (x7.1).toNat default) x7.2.length) (chk (a0c (x7.1+1)) (some (.nx ((x7.1+1),x7.2.set (((a_.qE.getD (x7.1).toNat default)).toNat) (x7.2.getD (((a_.qE.getD (x7.1).toNat default)).toNat) default++b_.vG))))))))) else some (.ex x7.2)
theorem a5k  (a_:a0h) (b_:a0h) (x7:Int×(List (List Int))):Le (a1g a_ b_ x7) (f1o a_ b_ x7):=by
 unfold a1g f1o
 (repeat' (with_reducible first|exact Le.refl|assumption|(refine Le.bind ?_ fun _=>?_)|(refine Le.jn ?_ fun _=>?_)|(refine Le.grp fun _=>?_)|(refine Le.chk ?_)|(refine Le.cond ?_ ?_)|(refine Le.fl (fun _=>?_) fun _=>?_)|(refine Le.sum (fun _=>?_) fun _=>?_)|(refine Le.forL (fun _ _ _=>?_) _ _ _)|(refine Le.foldL (fun _ _ _=>?_) _ _ _)|(refine Le.loop fun _=>?_)|(refine Le.perm fun _=>?_)|(refine Le.amb ?_)|exact Le.sort))
def a1b (w_:o8) (a_:a0h) (b_:a0h):Option (a0h×o8) :=
 (iter (a1g a_ b_) 100000 (0,w_.jD)).bind fun r8=>jn (α:=Bool×(List Int)×(List Int)) (bif a_.jH then chk (room (([]:List Int).length+a_.vG.length) 8) (chk (room (([]:List Int).length+b_.qE.length) 8) (some (b_.jH,(([]:List Int)++a_.vG),(([]:List Int)++b_.qE)))) else chk (room (([]:List Int).length+a_.vG.length) 8) (chk (room (([]:List Int).length+b_.qE.length) 8) (some (false,(([]:List Int)++a_.vG),(([]:List Int)++b_.qE))))) fun j9=>jn (α:=Bool×(List Int)) (bif a_.jH then chk (room (j9.2.1.length+b_.vG.length) 8) (some (j9.1,(j9.2.1++b_.vG))) else some (j9.1,j9.2.1)) fun j10=>bif b_.jH then chk (room (j9.2.2.length+a_.qE.length) 8) (some ((a0h.mk j10.1 j10.2 (j9.2.2++a_.qE)),(o8.mk w_.qD r8))) else some ((a0h.mk j10.1 j10.2 j9.2.2),(o8.mk w_.qD r8))
theorem a6x {w_:o8} {a_:a0h} {b_:a0h}:Le (a1b w_ a_ b_) (e3c w_ a_ b_):=by
 unfold a1b e3c
 (repeat' (with_reducible first|exact Le.refl|assumption|(refine Le.bind ?_ fun _=>?_)|(refine Le.jn ?_ fun _=>?_)|(refine Le.grp fun _=>?_)|(refine Le.chk ?_)|(refine Le.cond ?_ ?_)|(refine Le.fl (fun _=>?_) fun _=>?_)|(refine Le.sum (fun _=>?_) fun _=>?_)|(refine Le.forL (fun _ _ _=>?_) _ _ _)|(refine Le.foldL (fun _ _ _=>?_) _ _ _)|(refine Le.loop fun _=>?_)|(refine Le.perm fun _=>?_)|(refine Le.amb ?_)|exact Le.sort|apply a5k))
def a0q:Nat→o8→o7→Option (a0h×o8)
 | 0,_,_=>none
 | n+1,w_,n_ =>
 bif decide (n_.Op=1) then chk (room (w_.qD.length+[n_.Ranges].length) 24) (chk (a9v w_.jD.length 24) (chk (a0c (((w_.qD++[n_.Ranges]).length:Int) - 1)) (some ((a0h.mk false [(((w_.qD++[n_.Ranges]).length:Int) - 1)] [(((w_.qD++[n_.Ranges]).length:Int) - 1)]),(o8.mk (w_.qD++[n_.Ranges]) (w_.jD++[[]])))))) else bif decide (n_.Op=2) then (iter (fun (x115:Int×(List (List o9))×(List (List Int))×a0h)=>(bif decide (x115.1<(n_.Kids.length:Int)) then chk (inb x115.1 n_.Kids.length) ((a0q n (o8.mk x115.2.1 x115.2.2.1) (n_.Kids.getD (x115.1).toNat default)).bind fun y122=>(a1b (o8.mk y122.2.qD y122.2.jD) x115.2.2.2 y122.1).bind fun y123=>chk (a0c (x115.1+1)) (some (.nx ((x115.1+1),y123.2.qD,y123.2.jD,y123.1)))) else some (.ex (x115.2.1,x115.2.2.1,x115.2.2.2)):Option (Fl (Int×(List (List o9))×(List (List Int))×a0h) ((List (List o9))×(List (List Int))×a0h)))) 100000 (0,w_.qD,w_.jD,(a0h.mk true [] []))).bind fun r124=>some (r124.2.2,(o8.mk r124.1 r124.2.1)) else bif decide (n_.Op=3) then (iter (fun (x171:Int×(List (List o9))×(List (List Int))×Bool×(List Int)×(List Int))=>(bif decide (x171.1<(n_.Kids.length:Int)) then chk (inb x171.1 n_.Kids.length) ((a0q n (o8.mk x171.2.1 x171.2.2.1) (n_.Kids.getD (x171.1).toNat default)).bind fun y185=>grp ((x171.2.2.2.1||y185.1.jH)) fun b187=>chk (room (x171.2.2.2.2.1.length+y185.1.vG.length) 8) (chk (room (x171.2.2.2.2.2.length+y185.1.qE.length) 8) (chk (a0c (x171.1+1)) (some (.nx ((x171.1+1),y185.2.qD,y185.2.jD,b187,(x171.2.2.2.2.1++y185.1.vG),(x171.2.2.2.2.2++y185.1.qE))))))) else some (.ex (x171.2.1,x171.2.2.1,x171.2.2.2.1,x171.2.2.2.2.1,x171.2.2.2.2.2)):Option (Fl (Int×(List (List o9))×(List (List Int))×Bool×(List Int)×(List Int)) ((List (List o9))×(List (List Int))×Bool×(List Int)×(List Int))))) 100000 (0,w_.qD,w_.jD,false,[],[])).bind fun r188=>some ((a0h.mk r188.2.2.1 r188.2.2.2.1 r188.2.2.2.2),(o8.mk r188.1 r188.2.1)) else (iter (fun (x245:Int×(List (List o9))×(List (List Int))×a0h)=>(bif decide (1≤x245.1) then chk (inb 0 n_.Kids.length) ((a0q n (o8.mk x245.2.1 x245.2.2.1) (n_.Kids.getD 0 default)).bind fun y263=>(a1b (o8.mk y263.2.qD y263.2.jD) y263.1 x245.2.2.2).bind fun y264=>grp ((y264.1.jH||decide (n_.Min<x245.1))) fun b265=>chk (a0c (x245.1 - 1)) (some (.nx ((x245.1 - 1),y264.2.qD,y264.2.jD,(a0h.mk b265 y264.1.vG y264.1.qE))))) else some (.ex (x245.2.1,x245.2.2.1,x245.2.2.2)):Option (Fl (Int×(List (List o9))×(List (List Int))×a0h) ((List (List o9))×(List (List Int))×a0h)))) 100000 (n_.Max,w_.qD,w_.jD,(a0h.mk true [] []))).bind fun r266=>some (r266.2.2,(o8.mk r266.1 r266.2.1))
theorem a5q:∀n m,n≤m→(∀(w_:o8) (n_:o7),Le (a0q n w_ n_) (c9f m w_ n_))
 | 0,m,_=>by
  refine ?_
  all_goals (intros;first|(simp only [a0q];exact Le.non))
 | n+1,0,h=>absurd h (by omega)
 | n+1,m+1,h=>by
  have ih:=a5q n m (by omega)
  have ih_ref06_writer_out:=ih
  intros;simp only [a0q,c9f];(repeat' (with_reducible first|exact Le.refl|assumption|(refine Le.bind ?_ fun _=>?_)|(refine Le.jn ?_ fun _=>?_)|(refine Le.grp fun _=>?_)|(refine Le.chk ?_)|(refine Le.cond ?_ ?_)|(refine Le.fl (fun _=>?_) fun _=>?_)|(refine Le.sum (fun _=>?_) fun _=>?_)|(refine Le.forL (fun _ _ _=>?_) _ _ _)|(refine Le.foldL (fun _ _ _=>?_) _ _ _)|(refine Le.loop fun _=>?_)|(refine Le.perm fun _=>?_)|(refine Le.amb ?_)|exact Le.sort|exact ih_ref06_writer_out _ _|exact a6x))
def a6g (w_:o8) (n_:o7):Option (a0h×o8):=a0q 400 w_ n_
theorem a8g {w_:o8} {n_:o7}:Le (a6g w_ n_) (F_8 w_ n_):=Le.lim (n:=400) fun m hm=>(a5q 400 m hm) _ _
def a5n (l_:List (List o9)) (x47:Int×(List Bool)) (x62:Int×(List Bool)):Option (Fl (Int×(List Bool)) (List Bool)) :=
 chk (inb x47.1 l_.length) (bif decide (x62.1<((l_.getD (x47.1).toNat default).length:Int)) then chk (inb x47.1 l_.length) (chk (inb x62.1 (l_.getD (x47.1).toNat default).length) (chk (inb x47.1 l_.length) (chk (inb x62.1 (l_.getD (x47.1).toNat default).length) (chk (a0c (((((l_.getD (x47.1).toNat default).getD (x62.1).toNat default).High).toNat:Int)+1)) (chk (inb ((((l_.getD (x47.1).toNat default).getD (x62.1).toNat default).Low).toNat:Int) 257) (chk (ltb ((((((l_.getD (x47.1).toNat default).getD (x62.1).toNat default).Low).toNat:Int)).toNat) x62.2.length) (chk (inb (((((l_.getD (x47.1).toNat default).getD (x62.1).toNat default).High).toNat:Int)+1) 257) (chk (ltb (((((((l_.getD (x47.1).toNat default).getD (x62.1).toNat default).High).toNat:Int)+1)).toNat) (b1j x62.2 ((((((l_.getD (x47.1).toNat default).getD (x62.1).toNat default).Low).toNat:Int)).toNat) true).length) (chk (a0c (x62.1+1)) (some (.nx ((x62.1+1),(b1j (b1j x62.2 ((((((l_.getD (x47.1).toNat default).getD (x62.1).toNat default).Low).toNat:Int)).toNat) true) (((((((l_.getD (x47.1).toNat default).getD (x62.1).toNat default).High).toNat:Int)+1)).toNat) true))))))))))))) else some (.ex x62.2))
theorem a3r  (l_:List (List o9)) (x47:Int×(List Bool)) (x62:Int×(List Bool)):Le (a5n l_ x47 x62) (f1u l_ x47 x62):=by
 unfold a5n f1u
 (repeat' (with_reducible first|exact Le.refl|assumption|(refine Le.bind ?_ fun _=>?_)|(refine Le.jn ?_ fun _=>?_)|(refine Le.grp fun _=>?_)|(refine Le.chk ?_)|(refine Le.cond ?_ ?_)|(refine Le.fl (fun _=>?_) fun _=>?_)|(refine Le.sum (fun _=>?_) fun _=>?_)|(refine Le.forL (fun _ _ _=>?_) _ _ _)|(refine Le.foldL (fun _ _ _=>?_) _ _ _)|(refine Le.loop fun _=>?_)|(refine Le.perm fun _=>?_)|(refine Le.amb ?_)|exact Le.sort))
def a5m (l_:List (List o9)) (x47:Int×(List Bool)):Option (Fl (Int×(List Bool)) (List Bool)) :=
 bif decide (x47.1<(l_.length:Int)) then (iter (a5n l_ x47) 100000 (0,x47.2)).bind fun r63=>chk (a0c (x47.1+1)) (some (.nx ((x47.1+1),r63))) else some (.ex x47.2)
theorem a6h  (l_:List (List o9)) (x47:Int×(List Bool)):Le (a5m l_ x47) (f1p l_ x47):=by
 unfold a5m f1p
 (repeat' (with_reducible first|exact Le.refl|assumption|(refine Le.bind ?_ fun _=>?_)|(refine Le.jn ?_ fun _=>?_)|(refine Le.grp fun _=>?_)|(refine Le.chk ?_)|(refine Le.cond ?_ ?_)|(refine Le.fl (fun _=>?_) fun _=>?_)|(refine Le.sum (fun _=>?_) fun _=>?_)|(refine Le.forL (fun _ _ _=>?_) _ _ _)|(refine Le.foldL (fun _ _ _=>?_) _ _ _)|(refine Le.loop fun _=>?_)|(refine Le.perm fun _=>?_)|(refine Le.amb ?_)|exact Le.sort|apply a3r))
def a5l (r64:List Bool) (x76:Int×(List Int)):Option (Fl (Int×(List Int)) (List Int)) :=
 bif decide (x76.1<256) then jn (α:=List Int) (chk (inb x76.1 257) (chk (ltb ((x76.1).toNat) r64.length) (bif (r64.getD ((x76.1).toNat) default) then chk (room (x76.2.length+[x76.1].length) 8) (some (x76.2++[x76.1])) else some x76.2))) fun j78=>chk (a0c (x76.1+1)) (some (.nx ((x76.1+1),j78))) else some (.ex x76.2)
theorem b0w  (r64:List Bool) (x76:Int×(List Int)):Le (a5l r64 x76) (f1b r64 x76):=by
 unfold a5l f1b
 (repeat' (with_reducible first|exact Le.refl|assumption|(refine Le.bind ?_ fun _=>?_)|(refine Le.jn ?_ fun _=>?_)|(refine Le.grp fun _=>?_)|(refine Le.chk ?_)|(refine Le.cond ?_ ?_)|(refine Le.fl (fun _=>?_) fun _=>?_)|(refine Le.sum (fun _=>?_) fun _=>?_)|(refine Le.forL (fun _ _ _=>?_) _ _ _)|(refine Le.foldL (fun _ _ _=>?_) _ _ _)|(refine Le.loop fun _=>?_)|(refine Le.perm fun _=>?_)|(refine Le.amb ?_)|exact Le.sort|apply a3r|apply a6h))
def a8h (l_:List (List o9)):Option (List Int) :=
 chk (ltb 0 (List.replicate 257 false).length) ((iter (a5m l_) 100000 (0,(b1j (List.replicate 257 false) 0 true))).bind fun r64=>(iter (a5l r64) 100000 (0,[])).bind fun r79=>chk (room (r79.length+[256].length) 8) (some (r79++[256])))
theorem a1h {l_:List (List o9)}:Le (a8h l_) (f02 l_):=by
 unfold a8h f02
 (repeat' (with_reducible first|exact Le.refl|assumption|(refine Le.bind ?_ fun _=>?_)|(refine Le.jn ?_ fun _=>?_)|(refine Le.grp fun _=>?_)|(refine Le.chk ?_)|(refine Le.cond ?_ ?_)|(refine Le.fl (fun _=>?_) fun _=>?_)|(refine Le.sum (fun _=>?_) fun _=>?_)|(refine Le.forL (fun _ _ _=>?_) _ _ _)|(refine Le.foldL (fun _ _ _=>?_) _ _ _)|(refine Le.loop fun _=>?_)|(refine Le.perm fun _=>?_)|(refine Le.amb ?_)|exact Le.sort|apply a3r|apply a6h|apply b0w))
def a7o (l_:List o9) (c_:UInt8) (x29:Int):Option (Fl Int (Sum Unit Bool)) :=
 bif decide (x29<(l_.length:Int)) then chk (inb x29 l_.length) (jn (α:=Bool) (bif decide ((((l_.getD (x29).toNat default).Low).toNat:Int)≤(c_.toNat:Int)) then chk (inb x29 l_.length) (some (decide ((c_.toNat:Int)≤(((l_.getD (x29).toNat default).High).toNat:Int)))) else some false) fun j37=>bif j37 then some (.ex (.inr true)) else chk (a0c (x29+1)) (some (.nx (x29+1)))) else some (.ex (.inl ()))
theorem b3y  (l_:List o9) (c_:UInt8) (x29:Int):Le (a7o l_ c_ x29) (f0y l_ c_ x29):=by
 unfold a7o f0y
 (repeat' (with_reducible first|exact Le.refl|assumption|(refine Le.bind ?_ fun _=>?_)|(refine Le.jn ?_ fun _=>?_)|(refine Le.grp fun _=>?_)|(refine Le.chk ?_)|(refine Le.cond ?_ ?_)|(refine Le.fl (fun _=>?_) fun _=>?_)|(refine Le.sum (fun _=>?_) fun _=>?_)|(refine Le.forL (fun _ _ _=>?_) _ _ _)|(refine Le.foldL (fun _ _ _=>?_) _ _ _)|(refine Le.loop fun _=>?_)|(refine Le.perm fun _=>?_)|(refine Le.amb ?_)|exact Le.sort))
def b2i (l_:List o9) (c_:UInt8):Option Bool :=
 (iter (a7o l_ c_) 100000 0).bind fun r38=>Sum.elim (fun u39=>some false) (fun u40=>some u40) r38
theorem a7n {l_:List o9} {c_:UInt8}:Le (b2i l_ c_) (e9v l_ c_):=by
 unfold b2i e9v
 (repeat' (with_reducible first|exact Le.refl|assumption|(refine Le.bind ?_ fun _=>?_)|(refine Le.jn ?_ fun _=>?_)|(refine Le.grp fun _=>?_)|(refine Le.chk ?_)|(refine Le.cond ?_ ?_)|(refine Le.fl (fun _=>?_) fun _=>?_)|(refine Le.sum (fun _=>?_) fun _=>?_)|(refine Le.forL (fun _ _ _=>?_) _ _ _)|(refine Le.foldL (fun _ _ _=>?_) _ _ _)|(refine Le.loop fun _=>?_)|(refine Le.perm fun _=>?_)|(refine Le.amb ?_)|exact Le.sort|apply b3y))
def a1v (w_:o8) (from_:List Int) (c_:UInt8) (x22:Int×(List Bool)):Option (Fl (Int×(List Bool)) (List Bool)) :=
 bif decide (x22.1<(from_.length:Int)) then jn (α:=List Bool) (chk (inb x22.1 from_.length) (chk (inb (from_.getD (x22.1).toNat default) w_.qD.length) ((b2i (w_.qD.getD ((from_.getD (x22.1).toNat default)).toNat default) c_).bind fun y30=>bif y30 then chk (inb x22.1 from_.length) (chk (inb (from_.getD (x22.1).toNat default) x22.2.length) (some (x22.2.set (((from_.getD (x22.1).toNat default)).toNat) true))) else some x22.2))) fun j28=>chk (a0c (x22.1+1)) (some (.nx ((x22.1+1),j28))) else some (.ex x22.2)
theorem a2k  (w_:o8) (from_:List Int) (c_:UInt8) (x22:Int×(List Bool)):Le (a1v w_ from_ c_ x22) (f1n w_ from_ c_ x22):=by
 unfold a1v f1n
 (repeat' (with_reducible first|exact Le.refl|assumption|(refine Le.bind ?_ fun _=>?_)|(refine Le.jn ?_ fun _=>?_)|(refine Le.grp fun _=>?_)|(refine Le.chk ?_)|(refine Le.cond ?_ ?_)|(refine Le.fl (fun _=>?_) fun _=>?_)|(refine Le.sum (fun _=>?_) fun _=>?_)|(refine Le.forL (fun _ _ _=>?_) _ _ _)|(refine Le.foldL (fun _ _ _=>?_) _ _ _)|(refine Le.loop fun _=>?_)|(refine Le.perm fun _=>?_)|(refine Le.amb ?_)|exact Le.sort|exact a7n))
def a1u (r31:List Bool) (x43:Int×(List Int)):Option (Fl (Int×(List Int)) (List Int)) :=
 bif decide (x43.1<(r31.length:Int)) then jn (α:=List Int) (chk (inb x43.1 r31.length) (bif r31.getD ((x43.1).toNat) default then chk (room (x43.2.length+[x43.1].length) 8) (some (x43.2++[x43.1])) else some x43.2)) fun j45=>chk (a0c (x43.1+1)) (some (.nx ((x43.1+1),j45))) else some (.ex x43.2)
theorem a6l  (r31:List Bool) (x43:Int×(List Int)):Le (a1u r31 x43) (f0x r31 x43):=by
 unfold a1u f0x
 (repeat' (with_reducible first|exact Le.refl|assumption|(refine Le.bind ?_ fun _=>?_)|(refine Le.jn ?_ fun _=>?_)|(refine Le.grp fun _=>?_)|(refine Le.chk ?_)|(refine Le.cond ?_ ?_)|(refine Le.fl (fun _=>?_) fun _=>?_)|(refine Le.sum (fun _=>?_) fun _=>?_)|(refine Le.forL (fun _ _ _=>?_) _ _ _)|(refine Le.foldL (fun _ _ _=>?_) _ _ _)|(refine Le.loop fun _=>?_)|(refine Le.perm fun _=>?_)|(refine Le.amb ?_)|exact Le.sort|exact a7n|apply a2k))
def a2t (w_:o8) (from_:List Int) (c_:UInt8):Option (List Int) :=
 chk (a98 (w_.qD.length:Int) (w_.qD.length:Int) 1) ((iter (a1v w_ from_ c_) 100000 (0,List.replicate ((w_.qD.length:Int)).toNat false)).bind fun r31=>(iter (a1u r31) 100000 (0,[])).bind fun r46=>some r46)
theorem a0m {w_:o8} {from_:List Int} {c_:UInt8}:Le (a2t w_ from_ c_) (f01 w_ from_ c_):=by
 unfold a2t f01
 (repeat' (with_reducible first|exact Le.refl|assumption|(refine Le.bind ?_ fun _=>?_)|(refine Le.jn ?_ fun _=>?_)|(refine Le.grp fun _=>?_)|(refine Le.chk ?_)|(refine Le.cond ?_ ?_)|(refine Le.fl (fun _=>?_) fun _=>?_)|(refine Le.sum (fun _=>?_) fun _=>?_)|(refine Le.forL (fun _ _ _=>?_) _ _ _)|(refine Le.foldL (fun _ _ _=>?_) _ _ _)|(refine Le.loop fun _=>?_)|(refine Le.perm fun _=>?_)|(refine Le.amb ?_)|exact Le.sort|exact a7n|apply a2k|apply a6l))
def a6m (l_:List Int) (x7:Int×(List UInt8)):Option (Fl (Int×(List UInt8)) (List UInt8)) :=
 bif decide (x7.1<(l_.length:Int)) then chk (inb x7.1 l_.length) (chk (inb x7.1 l_.length) (chk (room (x7.2.length+[(u8 ((l_.getD (x7.1).toNat default) / 2^8)),(u8 (l_.getD (x7.1).toNat default))].length) 1) (chk (a0c (x7.1+1)) (some (.nx ((x7.1+1),(x7.2++[(u8 ((l_.getD (x7.1).toNat default) / 2^8)),(u8 (l_.getD (x7.1).toNat default))]))))))) else some (.ex x7.2)
theorem b2f  (l_:List Int) (x7:Int×(List UInt8)):Le (a6m l_ x7) (f0z l_ x7):=by
 unfold a6m f0z
 (repeat' (with_reducible first|exact Le.refl|assumption|(refine Le.bind ?_ fun _=>?_)|(refine Le.jn ?_ fun _=>?_)|(refine Le.grp fun _=>?_)|(refine Le.chk ?_)|(refine Le.cond ?_ ?_)|(refine Le.fl (fun _=>?_) fun _=>?_)|(refine Le.sum (fun _=>?_) fun _=>?_)|(refine Le.forL (fun _ _ _=>?_) _ _ _)|(refine Le.foldL (fun _ _ _=>?_) _ _ _)|(refine Le.loop fun _=>?_)|(refine Le.perm fun _=>?_)|(refine Le.amb ?_)|exact Le.sort))
def a7l (l_:List Int):Option Str :=
 (iter (a6m l_) 100000 (0,[])).bind fun r8=>some r8
theorem a1s {l_:List Int}:Le (a7l l_) (e2u l_):=by
 unfold a7l e2u
 (repeat' (with_reducible first|exact Le.refl|assumption|(refine Le.bind ?_ fun _=>?_)|(refine Le.jn ?_ fun _=>?_)|(refine Le.grp fun _=>?_)|(refine Le.chk ?_)|(refine Le.cond ?_ ?_)|(refine Le.fl (fun _=>?_) fun _=>?_)|(refine Le.sum (fun _=>?_) fun _=>?_)|(refine Le.forL (fun _ _ _=>?_) _ _ _)|(refine Le.foldL (fun _ _ _=>?_) _ _ _)|(refine Le.loop fun _=>?_)|(refine Le.perm fun _=>?_)|(refine Le.amb ?_)|exact Le.sort|apply b2f))
def a4c (vH:a0h) (x7:Int×(List Bool)):Option (Fl (Int×(List Bool)) (List Bool)) :=
 bif decide (x7.1<(vH.qE.length:Int)) then chk (inb x7.1 vH.qE.length) (chk (inb (vH.qE.getD (x7.1).toNat default) x7.2.length) (chk (a0c (x7.1+1)) (some (.nx ((x7.1+1),x7.2.set (((vH.qE.getD (x7.1).toNat default)).toNat) true))))) else some (.ex x7.2)
theorem a0z  (vH:a0h) (x7:Int×(List Bool)):Le (a4c vH x7) (f1z vH x7):=by
 unfold a4c f1z
 (repeat' (with_reducible first|exact Le.refl|assumption|(refine Le.bind ?_ fun _=>?_)|(refine Le.jn ?_ fun _=>?_)|(refine Le.grp fun _=>?_)|(refine Le.chk ?_)|(refine Le.cond ?_ ?_)|(refine Le.fl (fun _=>?_) fun _=>?_)|(refine Le.sum (fun _=>?_) fun _=>?_)|(refine Le.forL (fun _ _ _=>?_) _ _ _)|(refine Le.foldL (fun _ _ _=>?_) _ _ _)|(refine Le.loop fun _=>?_)|(refine Le.perm fun _=>?_)|(refine Le.amb ?_)|exact Le.sort|exact a1h|exact a0m|exact a1s))
def a4b (w_:o8) (x1029:Int×(List (List a0k))×(List Bool)×(List (List Int))×(List (Str×Int))) (x1340:Int×(List Int)):Option (Fl (Int×(List Int)) (List Int)) :=
 chk (inb x1029.1 x1029.2.2.2.1.length) (bif decide (x1340.1<((x1029.2.2.2.1.getD ((x1029.1).toNat) default).length:Int)) then chk (inb x1029.1 x1029.2.2.2.1.length) (chk (inb x1340.1 (x1029.2.2.2.1.getD ((x1029.1).toNat) default).length) (chk (inb ((x1029.2.2.2.1.getD ((x1029.1).toNat) default).getD (x1340.1).toNat default) w_.jD.length) (chk (room (x1340.2.length+(w_.jD.getD (((x1029.2.2.2.1.getD ((x1029.1).toNat) default).getD (x1340.1).toNat default)).toNat default).length) 8) (chk (a0c (x1340.1+1)) (some (.nx ((x1340.1+1),(x1340.2++(w_.jD.getD (((x1029.2.2.2.1.getD ((x1029.1).toNat) default).getD (x1340.1).toNat default)).toNat default))))))))) else some (.ex x1340.2))
theorem a1e  (w_:o8) (x1029:Int×(List (List a0k))×(List Bool)×(List (List Int))×(List (Str×Int))) (x1340:Int×(List Int)):Le (a4b w_ x1029 x1340) (f1y w_ x1029 x1340):=by
 unfold a4b f1y
 (repeat' (with_reducible first|exact Le.refl|assumption|(refine Le.bind ?_ fun _=>?_)|(refine Le.jn ?_ fun _=>?_)|(refine Le.grp fun _=>?_)|(refine Le.chk ?_)|(refine Le.cond ?_ ?_)|(refine Le.fl (fun _=>?_) fun _=>?_)|(refine Le.sum (fun _=>?_) fun _=>?_)|(refine Le.forL (fun _ _ _=>?_) _ _ _)|(refine Le.foldL (fun _ _ _=>?_) _ _ _)|(refine Le.loop fun _=>?_)|(refine Le.perm fun _=>?_)|(refine Le.amb ?_)|exact Le.sort|exact a1h|exact a0m|exact a1s|apply a0z))
def a4a (r8:List Bool) (y1465:List Int) (x1509:Bool×Int):Option (Fl (Bool×Int) Bool) :=
 bif decide (x1509.2<(y1465.length:Int)) then jn (α:=Bool) (bif x1509.1 then some true else chk (inb x1509.2 y1465.length) (chk (inb (y1465.getD (x1509.2).toNat default) r8.length) (some (r8.getD (((y1465.getD (x1509.2).toNat default)).toNat) default)))) fun j1513=>chk (a0c (x1509.2+1)) (some (.nx (j1513,(x1509.2+1)))) else some (.ex x1509.1)
theorem a2e  (r8:List Bool) (y1465:List Int) (x1509:Bool×Int):Le (a4a r8 y1465 x1509) (f1x r8 y1465 x1509):=by
 unfold a4a f1x
 (repeat' (with_reducible first|exact Le.refl|assumption|(refine Le.bind ?_ fun _=>?_)|(refine Le.jn ?_ fun _=>?_)|(refine Le.grp fun _=>?_)|(refine Le.chk ?_)|(refine Le.cond ?_ ?_)|(refine Le.fl (fun _=>?_) fun _=>?_)|(refine Le.sum (fun _=>?_) fun _=>?_)|(refine Le.forL (fun _ _ _=>?_) _ _ _)|(refine Le.foldL (fun _ _ _=>?_) _ _ _)|(refine Le.loop fun _=>?_)|(refine Le.perm fun _=>?_)|(refine Le.amb ?_)|exact Le.sort|exact a1h|exact a0m|exact a1s|apply a0z|apply a1e))
def a3z (w_:o8) (r8:List Bool) (y10:List Int) (x1029:Int×(List (List a0k))×(List Bool)×(List (List Int))×(List (Str×Int))) (j1337:List Int) (x1404:Int×(List (List a0k))×(List Bool)×(List (List Int))×(List (Str×Int))):Option (Fl (Int×(List (List a0k))×(List Bool)×(List (List Int))×(List (Str×Int))) (Sum ((List (List a0k))×(List Bool)×(List (List Int))×(List (Str×Int))) (u6×Bool))) :=
 chk (a0c (x1404.1+1)) (bif decide ((x1404.1+1)<(y10.length:Int)) then jn (α:=Fl ((List (List a0k))×(List Bool)×(List (List Int))×(List (Str×Int))) (u6×Bool)) (chk (inb x1404.1 y10.length) ((a2t w_ j1337 (u8 (y10.getD (x1404.1).toNat default))).bind fun y1465=>bif decide ((y1465.length:Int)=0) then some (.nx (x1404.2.1,x1404.2.2.1,x1404.2.2.2.1,x1404.2.2.2.2)) else (a7l y1465).bind fun y1467=>jn (α:=Fl (Int×(List (List a0k))×(List Bool)×(List (List Int))×(List (Str×Int))) (u6×Bool)) (bif (!((b5x y1467 x1404.2.2.2.2).isSome)) then bif decide ((x1404.2.2.2.1.length:Int)=2000) then some (.ex ((u6.mk [] []),false)) else (a7l y1465).bind fun y1492=>chk (room (x1404.2.2.2.1.length+[y1465].length) 24) ((iter (a4a r8 y1465) 100000 (false,0)).bind fun r1514=>chk (a9v x1404.2.1.length 24) (chk (room (x1404.2.2.1.length+[r1514].length) 1) (some (.nx ((x1404.2.2.2.1.length:Int),(x1404.2.1++[[]]),(x1404.2.2.1++[r1514]),(x1404.2.2.2.1++[y1465]),c5l y1492 (x1404.2.2.2.1.length:Int) x1404.2.2.2.2))))) else some (.nx (((b5x y1467 x1404.2.2.2.2).getD 0),x1404.2.1,x1404.2.2.1,x1404.2.2.2.1,x1404.2.2.2.2))) fun o=>o.elim (fun j1490=>chk (inb x1029.1 j1490.2.1.length) (chk (inb x1404.1 y10.length) (chk (a0c (x1404.1+1)) (chk (inb (x1404.1+1) y10.length) (chk (a0c ((y10.getD ((x1404.1+1)).toNat default) - 1)) (chk (room ((j1490.2.1.getD ((x1029.1).toNat) default).length+[(a0k.mk (o9.mk (u8 (y10.getD (x1404.1).toNat default)) (u8 ((y10.getD ((x1404.1+1)).toNat default) - 1))) j1490.1)].length) 16) (chk (inb x1029.1 j1490.2.1.length) (some (.nx (j1490.2.1.set ((x1029.1).toNat) (j1490.2.1.getD ((x1029.1).toNat) default++[(a0k.mk (o9.mk (u8 (y10.getD (x1404.1).toNat default)) (u8 ((y10.getD ((x1404.1+1)).toNat default) - 1))) j1490.1)]),j1490.2.2.1,j1490.2.2.2.1,j1490.2.2.2.2)))))))))) (fun r1515=>some (.ex r1515)))) fun o=>o.elim (fun j1463=>chk (a0c (x1404.1+1)) (some (.nx ((x1404.1+1),j1463.1,j1463.2.1,j1463.2.2.1,j1463.2.2.2)))) (fun r1516=>some (.ex (.inr r1516))) else some (.ex (.inl (x1404.2.1,x1404.2.2.1,x1404.2.2.2.1,x1404.2.2.2.2))))
theorem a4n  (w_:o8) (r8:List Bool) (y10:List Int) (x1029:Int×(List (List a0k))×(List Bool)×(List (List Int))×(List (Str×Int))) (j1337:List Int) (x1404:Int×(List (List a0k))×(List Bool)×(List (List Int))×(List (Str×Int))):Le (a3z w_ r8 y10 x1029 j1337 x1404) (f1m w_ r8 y10 x1029 j1337 x1404):=by
 unfold a3z f1m
 (repeat' (with_reducible first|exact Le.refl|assumption|(refine Le.bind ?_ fun _=>?_)|(refine Le.jn ?_ fun _=>?_)|(refine Le.grp fun _=>?_)|(refine Le.chk ?_)|(refine Le.cond ?_ ?_)|(refine Le.fl (fun _=>?_) fun _=>?_)|(refine Le.sum (fun _=>?_) fun _=>?_)|(refine Le.forL (fun _ _ _=>?_) _ _ _)|(refine Le.foldL (fun _ _ _=>?_) _ _ _)|(refine Le.loop fun _=>?_)|(refine Le.perm fun _=>?_)|(refine Le.amb ?_)|exact Le.sort|exact a1h|exact a0m|exact a1s|apply a0z|apply a1e|apply a2e))
def a3y (w_:o8) (vH:a0h) (r8:List Bool) (y10:List Int) (x1029:Int×(List (List a0k))×(List Bool)×(List (List Int))×(List (Str×Int))):Option (Fl (Int×(List (List a0k))×(List Bool)×(List (List Int))×(List (Str×Int))) (Sum ((List (List a0k))×(List Bool)) (u6×Bool))) :=
 bif decide (x1029.1<(x1029.2.2.2.1.length:Int)) then jn (α:=List Int) (bif decide (0<x1029.1) then (iter (a4b w_ x1029) 100000 (0,[])).bind fun r1341=>some r1341 else some vH.vG) fun j1337=>(iter (a3z w_ r8 y10 x1029 j1337) 100000 (0,x1029.2.1,x1029.2.2.1,x1029.2.2.2.1,x1029.2.2.2.2)).bind fun r1517=>Sum.elim (fun u1518=>chk (a0c (x1029.1+1)) (some (.nx ((x1029.1+1),u1518.1,u1518.2.1,u1518.2.2.1,u1518.2.2.2)))) (fun u1519=>some (.ex (.inr u1519))) r1517 else some (.ex (.inl (x1029.2.1,x1029.2.2.1)))
theorem a8t  (w_:o8) (vH:a0h) (r8:List Bool) (y10:List Int) (x1029:Int×(List (List a0k))×(List Bool)×(List (List Int))×(List (Str×Int))):Le (a3y w_ vH r8 y10 x1029) (f0w w_ vH r8 y10 x1029):=by
 unfold a3y f0w
 (repeat' (with_reducible first|exact Le.refl|assumption|(refine Le.bind ?_ fun _=>?_)|(refine Le.jn ?_ fun _=>?_)|(refine Le.grp fun _=>?_)|(refine Le.chk ?_)|(refine Le.cond ?_ ?_)|(refine Le.fl (fun _=>?_) fun _=>?_)|(refine Le.sum (fun _=>?_) fun _=>?_)|(refine Le.forL (fun _ _ _=>?_) _ _ _)|(refine Le.foldL (fun _ _ _=>?_) _ _ _)|(refine Le.loop fun _=>?_)|(refine Le.perm fun _=>?_)|(refine Le.amb ?_)|exact Le.sort|exact a1h|exact a0m|exact a1s|apply a0z|apply a1e|apply a2e|apply a4n))
def a6n (w_:o8) (vH:a0h):Option (u6×Bool) :=
 chk (a98 (w_.qD.length:Int) (w_.qD.length:Int) 1) ((iter (a4c vH) 100000 (0,List.replicate ((w_.qD.length:Int)).toNat false)).bind fun r8=>(a8h w_.qD).bind fun y10=>(iter (a3y w_ vH r8 y10) 100000 (0,([[]]:List (List a0k)),[vH.jH],[[]],[])).bind fun r1520=>Sum.elim (fun u1521=>some ((u6.mk u1521.1 u1521.2),true)) (fun u1522=>some u1522) r1520)
theorem b2g {w_:o8} {vH:a0h}:Le (a6n w_ vH) (F_z w_ vH):=by
 unfold a6n F_z
 (repeat' (with_reducible first|exact Le.refl|assumption|(refine Le.bind ?_ fun _=>?_)|(refine Le.jn ?_ fun _=>?_)|(refine Le.grp fun _=>?_)|(refine Le.chk ?_)|(refine Le.cond ?_ ?_)|(refine Le.fl (fun _=>?_) fun _=>?_)|(refine Le.sum (fun _=>?_) fun _=>?_)|(refine Le.forL (fun _ _ _=>?_) _ _ _)|(refine Le.foldL (fun _ _ _=>?_) _ _ _)|(refine Le.loop fun _=>?_)|(refine Le.perm fun _=>?_)|(refine Le.amb ?_)|exact Le.sort|exact a1h|exact a0m|exact a1s|apply a0z|apply a1e|apply a2e|apply a4n|apply a8t))
def a2p (n_:o7):Option Int :=
 (a3s n_).bind fun y4=>bif (!decide (y4=0)) then some 0 else (a6i n_ false).bind fun y6=>some y6
theorem a9p {n_:o7}:Le (a2p n_) (e2l n_):=by
 unfold a2p e2l
 (repeat' (with_reducible first|exact Le.refl|assumption|(refine Le.bind ?_ fun _=>?_)|(refine Le.jn ?_ fun _=>?_)|(refine Le.grp fun _=>?_)|(refine Le.chk ?_)|(refine Le.cond ?_ ?_)|(refine Le.fl (fun _=>?_) fun _=>?_)|(refine Le.sum (fun _=>?_) fun _=>?_)|(refine Le.forL (fun _ _ _=>?_) _ _ _)|(refine Le.foldL (fun _ _ _=>?_) _ _ _)|(refine Le.loop fun _=>?_)|(refine Le.perm fun _=>?_)|(refine Le.amb ?_)|exact Le.sort|exact a4m|exact a5o))
def a3t (n_:o7):Option Int :=
 (a3s n_).bind fun y4=>bif (!decide (y4=0)) then some 0 else (a6i n_ true).bind fun y6=>some y6
theorem b1b {n_:o7}:Le (a3t n_) (e2k n_):=by
 unfold a3t e2k
 (repeat' (with_reducible first|exact Le.refl|assumption|(refine Le.bind ?_ fun _=>?_)|(refine Le.jn ?_ fun _=>?_)|(refine Le.grp fun _=>?_)|(refine Le.chk ?_)|(refine Le.cond ?_ ?_)|(refine Le.fl (fun _=>?_) fun _=>?_)|(refine Le.sum (fun _=>?_) fun _=>?_)|(refine Le.forL (fun _ _ _=>?_) _ _ _)|(refine Le.foldL (fun _ _ _=>?_) _ _ _)|(refine Le.loop fun _=>?_)|(refine Le.perm fun _=>?_)|(refine Le.amb ?_)|exact Le.sort|exact a4m|exact a5o))
def a5j (s_:Str) (x59:Int):Option (Fl Int (Sum Unit Bool)) :=
 bif decide (x59<(s_.length:Int)) then jn (α:=Fl Unit Bool) (chk (inb x59 s_.length) (bif decide (((s_.getD (x59).toNat 0).toNat:Int)<97) then jn (α:=Str×Int×UInt8×Bool×Bool×Bool×Bool) (chk (inb x59 s_.length) (bif decide (((s_.getD (x59).toNat 0).toNat:Int)<48) then some (s_,x59,(s_.getD (x59).toNat 0),decide (((s_.getD (x59).toNat 0).toNat:Int)<48),true,true,true) else chk (inb x59 s_.length) (some (s_,x59,(s_.getD (x59).toNat 0),decide (((s_.getD (x59).toNat 0).toNat:Int)<48),false,decide (57<((s_.getD (x59).toNat 0).toNat:Int)),decide (57<((s_.getD (x59).toNat 0).toNat:Int)))))) fun j83=>jn (α:=Bool) (bif j83.2.2.2.2.2.2 then chk (inb x59 s_.length) (some (!decide (((s_.getD (x59).toNat 0).toNat:Int)=45))) else some false) fun j84=>bif j84 then some (.ex false) else some (.nx ()) else chk (inb x59 s_.length) (jn (α:=Bool) (bif decide (122<((s_.getD (x59).toNat 0).toNat:Int)) then chk (inb x59 s_.length) (bif decide (((s_.getD (x59).toNat 0).toNat:Int)<48) then some true else chk (inb x59 s_.length) (some (decide (57<((s_.getD (x59).toNat 0).toNat:Int))))) else some false) fun j85=>jn (α:=Bool) (bif j85 then chk (inb x59 s_.length) (some (!decide (((s_.getD (x59).toNat 0).toNat:Int)=45))) else some false) fun j86=>bif j86 then some (.ex false) else some (.nx ())))) fun o=>o.elim (fun j78=>chk (a0c (x59+1)) (some (.nx (x59+1)))) (fun r87=>some (.ex (.inr r87))) else some (.ex (.inl ()))
theorem b0v  (s_:Str) (x59:Int):Le (a5j s_ x59) (f1l s_ x59):=by
 unfold a5j f1l
 (repeat' (with_reducible first|exact Le.refl|assumption|(refine Le.bind ?_ fun _=>?_)|(refine Le.jn ?_ fun _=>?_)|(refine Le.grp fun _=>?_)|(refine Le.chk ?_)|(refine Le.cond ?_ ?_)|(refine Le.fl (fun _=>?_) fun _=>?_)|(refine Le.sum (fun _=>?_) fun _=>?_)|(refine Le.forL (fun _ _ _=>?_) _ _ _)|(refine Le.foldL (fun _ _ _=>?_) _ _ _)|(refine Le.loop fun _=>?_)|(refine Le.perm fun _=>?_)|(refine Le.amb ?_)|exact Le.sort))
def a6f (s_:Str):Option Bool :=
 (iter (a5j s_) 100000 0).bind fun r88=>Sum.elim (fun u89=>grp ((decide (1≤(s_.length:Int))&&decide ((s_.length:Int)≤40))) fun b92=>some b92) (fun u90=>some u90) r88
theorem b5s {s_:Str}:Le (a6f s_) (e1f s_):=by
 unfold a6f e1f
 (repeat' (with_reducible first|exact Le.refl|assumption|(refine Le.bind ?_ fun _=>?_)|(refine Le.jn ?_ fun _=>?_)|(refine Le.grp fun _=>?_)|(refine Le.chk ?_)|(refine Le.cond ?_ ?_)|(refine Le.fl (fun _=>?_) fun _=>?_)|(refine Le.sum (fun _=>?_) fun _=>?_)|(refine Le.forL (fun _ _ _=>?_) _ _ _)|(refine Le.foldL (fun _ _ _=>?_) _ _ _)|(refine Le.loop fun _=>?_)|(refine Le.perm fun _=>?_)|(refine Le.amb ?_)|exact Le.sort|apply b0v))
theorem e0l:e2o=some true:=b3z _ (by kernel_rfl)
end Go.Ab