/- What the functions of this seat that lie on the laws' road compute (part MI), each for every input. By AI agents. -/
import Derived.Test.YtoojdaakeiadjaaGreatDoorLB
import Derived.Test.YtoojdaakeiadjaaGreatDoorAbMir
set_option linter.all false
set_option linter.all false
set_option maxRecDepth 20000
set_option maxHeartbeats 2000000
namespace Go.Ab
open Go.Proofs
def C_rule_reader_simple_L1 (x409:Int×Greader):Option (Fl (Int×Greader) (Sum Greader (GTerm×Greader))) :=
 bif decide (x409.1≤8) then (F_d x409.1).bind fun y536=>chk (strl (y536.length+[32].length)) ((F_5 x409.2 (y536++[32])).bind fun y537=>bif (!y537.1) then chk (in64 (x409.1+1)) (some (.nx ((x409.1+1),y537.2))) else jn (α:=Bool) (bif decide (x409.1=1) then some true else bif decide (x409.1=2) then some true else some (decide (x409.1=3))) fun j554=>bif j554 then (F_q y537.2 [34]).bind fun y556=>(F_v y556.text_ [34]).bind fun y558=>grp ((y556.wrong_||(!y558.2.2))) fun b559=>some (.ex (.inr ((GTerm.mk x409.1 y558.1 0 0 []),(Greader.mk y558.2.1 b559)))) else bif decide (x409.1=7) then (F_w y537.2).bind fun y562=>(puE y562.1 10 64).bind fun y563=>grp ((y562.2.wrong_||(!y563.2))) fun b564=>some (.ex (.inr ((GTerm.mk x409.1 [] 0 y563.1 []),(Greader.mk y562.2.text_ b564)))) else (F_w y537.2).bind fun y567=>(atoiE y567.1).bind fun y568=>grp ((y567.2.wrong_||(!y568.2))) fun b569=>some (.ex (.inr ((GTerm.mk x409.1 [] y568.1 0 []),(Greader.mk y567.2.text_ b569))))) else some (.ex (.inl x409.2))
theorem C_rule_reader_simple_L1_le  (x409:Int×Greader):Le (C_rule_reader_simple_L1 x409) (F_y x409):=by
 unfold C_rule_reader_simple_L1 F_y
 (repeat' (with_reducible first|exact Le.refl|assumption|(refine Le.bind ?_ fun _=>?_)|(refine Le.jn ?_ fun _=>?_)|(refine Le.grp fun _=>?_)|(refine Le.chk ?_)|(refine Le.cond ?_ ?_)|(refine Le.fl (fun _=>?_) fun _=>?_)|(refine Le.sum (fun _=>?_) fun _=>?_)|(refine Le.forL (fun _ _ _=>?_) _ _ _)|(refine Le.foldL (fun _ _ _=>?_) _ _ _)|(refine Le.loop fun _=>?_)))
def C_rule_reader_simple (r_:Greader):Option (GTerm×Greader) :=
 (iter C_rule_reader_simple_L1 100000 (1,r_)).bind fun r570=>Sum.elim (fun u571=>some ((GTerm.mk 0 [] 0 0 []),(Greader.mk u571.text_ true))) (fun u572=>some u572) r570
theorem C_rule_reader_simple_le {r_:Greader}:Le (C_rule_reader_simple r_) (F_13 r_):=by
 unfold C_rule_reader_simple F_13
 (repeat' (with_reducible first|exact Le.refl|assumption|(refine Le.bind ?_ fun _=>?_)|(refine Le.jn ?_ fun _=>?_)|(refine Le.grp fun _=>?_)|(refine Le.chk ?_)|(refine Le.cond ?_ ?_)|(refine Le.fl (fun _=>?_) fun _=>?_)|(refine Le.sum (fun _=>?_) fun _=>?_)|(refine Le.forL (fun _ _ _=>?_) _ _ _)|(refine Le.foldL (fun _ _ _=>?_) _ _ _)|(refine Le.loop fun _=>?_)|apply C_rule_reader_simple_L1_le))
def FC_rule_reader_condition:Nat→Greader→Int→Option (GTerm×Greader)
 | 0,_,_=>none
 | n+1,r_,deep_ =>
 grp ((r_.wrong_||decide (20<deep_))) fun b81=>bif b81 then some ((GTerm.mk 0 [] 0 0 []),(Greader.mk r_.text_ true)) else (F_5 r_ [110,111,116,32,40]).bind fun y83=>bif y83.1 then chk (in64 (deep_+1)) ((FC_rule_reader_condition n y83.2 (deep_+1)).bind fun y85=>(F_q y85.2 [41]).bind fun y87=>some ((GTerm.mk 9 [] 0 0 [y85.1]),y87)) else (F_5 y83.2 [40]).bind fun y89=>bif y89.1 then chk (in64 (deep_+1)) ((FC_rule_reader_condition n y89.2 (deep_+1)).bind fun y91=>jn (α:=Int) ((F_12 y91.2.text_ [32,111,114,32]).bind fun y96=>bif y96 then some 11 else some 10) fun j94=>(iter (fun (x148:Int×(List GTerm)×Greader)=>((F_d x148.1).bind fun y164=>chk (strl ([32].length+y164.length)) (chk (strl ((([32]:Str)++y164).length+[32].length)) ((F_5 x148.2.2 ((([32]:Str)++y164)++[32])).bind fun y165=>bif y165.1 then chk (in64 (deep_+1)) ((FC_rule_reader_condition n y165.2 (deep_+1)).bind fun y166=>chk (room (x148.2.1.length+[y166.1].length) 64) (some (.nx (x148.1,(x148.2.1++[y166.1]),y166.2)))) else some (.ex (x148.1,x148.2.1,y165.2)))):Option (Fl (Int×(List GTerm)×Greader) (Int×(List GTerm)×Greader)))) 100000 (j94,[y91.1],y91.2)).bind fun r167=>(F_q r167.2.2 [41]).bind fun y169=>some ((GTerm.mk r167.1 [] 0 0 r167.2.1),y169)) else (C_rule_reader_simple y89.2).bind fun y171=>some (y171.1,y171.2)
theorem CG_rule_reader_condition:∀n m,n≤m→(∀(r_:Greader) (deep_:Int),Le (FC_rule_reader_condition n r_ deep_) (FR_0 m r_ deep_))
 | 0,m,_=>by
  refine ?_
  all_goals (intros;first|(simp only [FC_rule_reader_condition];exact Le.non))
 | n+1,0,h=>absurd h (by omega)
 | n+1,m+1,h=>by
  have ih:=CG_rule_reader_condition n m (by omega)
  have ih_rule_reader_condition:=ih
  intros;simp only [FC_rule_reader_condition,FR_0];(repeat' (with_reducible first|exact Le.refl|assumption|(refine Le.bind ?_ fun _=>?_)|(refine Le.jn ?_ fun _=>?_)|(refine Le.grp fun _=>?_)|(refine Le.chk ?_)|(refine Le.cond ?_ ?_)|(refine Le.fl (fun _=>?_) fun _=>?_)|(refine Le.sum (fun _=>?_) fun _=>?_)|(refine Le.forL (fun _ _ _=>?_) _ _ _)|(refine Le.foldL (fun _ _ _=>?_) _ _ _)|(refine Le.loop fun _=>?_)|exact ih_rule_reader_condition _ _|exact C_rule_reader_simple_le))
def C_rule_reader_condition (r_:Greader) (deep_:Int):Option (GTerm×Greader):=FC_rule_reader_condition 400 r_ deep_
theorem C_rule_reader_condition_le {r_:Greader} {deep_:Int}:Le (C_rule_reader_condition r_ deep_) (F_0 r_ deep_):=Le.lim (n:=400) fun m hm=>(CG_rule_reader_condition 400 m hm) _ _
def C_rule_read (line_:Str):Option (GRule×Bool) :=
 (F_16 line_ [10]).bind fun y3=>(F_v y3 [58]).bind fun y4=>chk (strl ([58].length+y4.2.1.length)) ((F_k (([58]:Str)++y4.2.1) [58,32,114,101,97,108,32,105,102,32]).bind fun y6=>jn (α:=Bool×Str×GRule) (bif (!y6.2) then chk (strl ([58].length+y4.2.1.length)) ((F_k (([58]:Str)++y4.2.1) [58,32,102,97,108,115,101,32,105,102,32]).bind fun y11=>some (y11.2,y11.1,(GRule.mk y4.1 (GTerm.mk 0 [] 0 0 []) 2))) else some (y4.2.2,y6.1,(GRule.mk y4.1 (GTerm.mk 0 [] 0 0 []) 1))) fun j9=>(C_rule_reader_condition (Greader.mk j9.2.1 false) 1).bind fun y13=>bif j9.1 then bif (!y13.2.wrong_) then some ((GRule.mk j9.2.2.Name y13.1 j9.2.2.Verdict),decide (y13.2.text_=[])) else some ((GRule.mk j9.2.2.Name y13.1 j9.2.2.Verdict),false) else some ((GRule.mk j9.2.2.Name y13.1 j9.2.2.Verdict),false))
theorem C_rule_read_le {line_:Str}:Le (C_rule_read line_) (F_14 line_):=by
 unfold C_rule_read F_14
 (repeat' (with_reducible first|exact Le.refl|assumption|(refine Le.bind ?_ fun _=>?_)|(refine Le.jn ?_ fun _=>?_)|(refine Le.grp fun _=>?_)|(refine Le.chk ?_)|(refine Le.cond ?_ ?_)|(refine Le.fl (fun _=>?_) fun _=>?_)|(refine Le.sum (fun _=>?_) fun _=>?_)|(refine Le.forL (fun _ _ _=>?_) _ _ _)|(refine Le.foldL (fun _ _ _=>?_) _ _ _)|(refine Le.loop fun _=>?_)|exact C_rule_reader_condition_le))
def FC_rule_terms:Nat→GTerm→Option Int
 | 0,_=>none
 | n+1,c_ =>
 (forL (fun (k45:Int) (a46:GTerm) (x44:Int)=>((FC_rule_terms n a46).bind fun y54=>chk (in64 (x44+y54)) (bif decide (60<(x44+y54)) then some (.ex 61) else some (.nx (x44+y54))):Option (Fl Int Int))) c_.Kids 0 1).bind fun o=>o.elim (fun x55=>some x55) (fun r56=>some r56)
theorem CG_rule_terms:∀n m,n≤m→(∀(c_:GTerm),Le (FC_rule_terms n c_) (FR_7 m c_))
 | 0,m,_=>by
  refine ?_
  all_goals (intros;first|(simp only [FC_rule_terms];exact Le.non))
 | n+1,0,h=>absurd h (by omega)
 | n+1,m+1,h=>by
  have ih:=CG_rule_terms n m (by omega)
  have ih_rule_terms:=ih
  intros;simp only [FC_rule_terms,FR_7];(repeat' (with_reducible first|exact Le.refl|assumption|(refine Le.bind ?_ fun _=>?_)|(refine Le.jn ?_ fun _=>?_)|(refine Le.grp fun _=>?_)|(refine Le.chk ?_)|(refine Le.cond ?_ ?_)|(refine Le.fl (fun _=>?_) fun _=>?_)|(refine Le.sum (fun _=>?_) fun _=>?_)|(refine Le.forL (fun _ _ _=>?_) _ _ _)|(refine Le.foldL (fun _ _ _=>?_) _ _ _)|(refine Le.loop fun _=>?_)|exact ih_rule_terms _))
def C_rule_terms (c_:GTerm):Option Int:=FC_rule_terms 400 c_
theorem C_rule_terms_le {c_:GTerm}:Le (C_rule_terms c_) (F_7 c_):=Le.lim (n:=400) fun m hm=>(CG_rule_terms 400 m hm) _
def FC_rule_depth:Nat→GTerm→Int→Option Int
 | 0,_,_=>none
 | n+1,c_,left_ =>
 bif decide (left_=0) then some 1 else (foldL (fun (k30:Int) (a31:GTerm) (x29:Int)=>(chk (in64 (left_ - 1)) ((FC_rule_depth n a31 (left_ - 1)).bind fun y35=>some (max x29 y35)):Option Int)) c_.Kids 0 0).bind fun x36=>chk (in64 (x36+1)) (some (x36+1))
theorem CG_rule_depth:∀n m,n≤m→(∀(c_:GTerm) (left_:Int),Le (FC_rule_depth n c_ left_) (FR_8 m c_ left_))
 | 0,m,_=>by
  refine ?_
  all_goals (intros;first|(simp only [FC_rule_depth];exact Le.non))
 | n+1,0,h=>absurd h (by omega)
 | n+1,m+1,h=>by
  have ih:=CG_rule_depth n m (by omega)
  have ih_rule_depth:=ih
  intros;simp only [FC_rule_depth,FR_8];(repeat' (with_reducible first|exact Le.refl|assumption|(refine Le.bind ?_ fun _=>?_)|(refine Le.jn ?_ fun _=>?_)|(refine Le.grp fun _=>?_)|(refine Le.chk ?_)|(refine Le.cond ?_ ?_)|(refine Le.fl (fun _=>?_) fun _=>?_)|(refine Le.sum (fun _=>?_) fun _=>?_)|(refine Le.forL (fun _ _ _=>?_) _ _ _)|(refine Le.foldL (fun _ _ _=>?_) _ _ _)|(refine Le.loop fun _=>?_)|exact ih_rule_depth _ _))
def C_rule_depth (c_:GTerm) (left_:Int):Option Int:=FC_rule_depth 400 c_ left_
theorem C_rule_depth_le {c_:GTerm} {left_:Int}:Le (C_rule_depth c_ left_) (F_8 c_ left_):=Le.lim (n:=400) fun m hm=>(CG_rule_depth 400 m hm) _ _
mutual
def FC_rule_right_1:Nat→GTerm→Option Bool
 | 0,_=>none
 | n+1,k_ =>
 (FC_rule_right n k_).bind fun y2=>some (!y2)
def FC_slices_IndexFunc_api_Term_api_Term_of_rule_right_1:Nat→(List GTerm)→Option Int
 | 0,_=>none
 | n+1,s_ =>
 (forL (fun (k31:Int) (a32:GTerm) (x30:Unit)=>((FC_rule_right_1 n a32).bind fun y40=>bif y40 then some (.ex k31) else some (.nx ()):Option (Fl Unit Int))) s_ 0 ()).bind fun o=>o.elim (fun x41=>some (-1)) (fun r42=>some r42)
def FC_slices_ContainsFunc_api_Term_api_Term_of_rule_right_1:Nat→(List GTerm)→Option Bool
 | 0,_=>none
 | n+1,s_ =>
 (FC_slices_IndexFunc_api_Term_api_Term_of_rule_right_1 n s_).bind fun y2=>some (decide (0≤y2))
def FC_rule_right:Nat→GTerm→Option Bool
 | 0,_=>none
 | n+1,c_ =>
 jn (α:=Bool) (jn (α:=Bool) (bif decide (c_.Op=1) then some true else bif decide (c_.Op=2) then some true else some (decide (c_.Op=3))) fun j18=>bif j18 then (F_1i c_.Text).bind fun y19=>grp ((y19&&decide (c_.Number=0))) fun b20=>grp ((b20&&decide (c_.Print=0))) fun b21=>grp ((b21&&decide ((c_.Kids.length:Int)=0))) fun b22=>some b22 else jn (α:=Bool) (bif decide (c_.Op=4) then some true else bif decide (c_.Op=5) then some true else bif decide (c_.Op=6) then some true else some (decide (c_.Op=8))) fun j23=>bif j23 then grp ((decide (c_.Text=[])&&decide (0≤c_.Number))) fun b24=>grp ((b24&&decide (c_.Number≤1099511627776))) fun b25=>grp ((b25&&decide (c_.Print=0))) fun b26=>grp ((b26&&decide ((c_.Kids.length:Int)=0))) fun b27=>some b27 else bif decide (c_.Op=7) then grp ((decide (c_.Text=[])&&decide (c_.Number=0))) fun b28=>grp ((b28&&decide ((c_.Kids.length:Int)=0))) fun b29=>some b29 else jn (α:=Bool) (bif decide (c_.Op=9) then some true else bif decide (c_.Op=10) then some true else some (decide (c_.Op=11))) fun j30=>bif j30 then grp ((decide (c_.Text=[])&&decide (c_.Number=0))) fun b31=>grp ((b31&&decide (c_.Print=0))) fun b32=>grp ((b32&&((decide (c_.Op=9)&&decide ((c_.Kids.length:Int)=1))||((!decide (c_.Op=9))&&decide (2≤(c_.Kids.length:Int)))))) fun b33=>some b33 else some false) fun j17=>jn (α:=Bool) (bif j17 then (FC_slices_ContainsFunc_api_Term_api_Term_of_rule_right_1 n c_.Kids).bind fun y37=>some (!y37) else some false) fun j38=>some j38
end
theorem CG_rule_right_1_slices_IndexFunc_api_Term_api_Term_of_rule_righ:∀n m,n≤m→(∀(k_:GTerm),Le (FC_rule_right_1 n k_) (FR_j m k_))∧(∀(s_:List GTerm),Le (FC_slices_IndexFunc_api_Term_api_Term_of_rule_right_1 n s_) (FR_u m s_))∧(∀(s_:List GTerm),Le (FC_slices_ContainsFunc_api_Term_api_Term_of_rule_right_1 n s_) (FR_t m s_))∧(∀(c_:GTerm),Le (FC_rule_right n c_) (FR_9 m c_))
 | 0,m,_=>by
  refine ⟨?_,?_,?_,?_⟩
  all_goals (intros;first|(simp only [FC_rule_right_1,FC_slices_IndexFunc_api_Term_api_Term_of_rule_right_1,FC_slices_ContainsFunc_api_Term_api_Term_of_rule_right_1,FC_rule_right];exact Le.non))
 | n+1,0,h=>absurd h (by omega)
 | n+1,m+1,h=>by
  have ih:=CG_rule_right_1_slices_IndexFunc_api_Term_api_Term_of_rule_righ n m (by omega)
  obtain ⟨ih_rule_right_1,ih_slices_IndexFunc_api_Term_api_Term_of_rule_right_1,ih_slices_ContainsFunc_api_Term_api_Term_of_rule_right_1,ih_rule_right⟩:=ih
  refine ⟨?_,?_,?_,?_⟩
  ·intros;simp only [FC_rule_right_1,FR_j];(repeat' (with_reducible first|exact Le.refl|assumption|(refine Le.bind ?_ fun _=>?_)|(refine Le.jn ?_ fun _=>?_)|(refine Le.grp fun _=>?_)|(refine Le.chk ?_)|(refine Le.cond ?_ ?_)|(refine Le.fl (fun _=>?_) fun _=>?_)|(refine Le.sum (fun _=>?_) fun _=>?_)|(refine Le.forL (fun _ _ _=>?_) _ _ _)|(refine Le.foldL (fun _ _ _=>?_) _ _ _)|(refine Le.loop fun _=>?_)|exact ih_rule_right_1 _|exact ih_slices_IndexFunc_api_Term_api_Term_of_rule_right_1 _|exact ih_slices_ContainsFunc_api_Term_api_Term_of_rule_right_1 _|exact ih_rule_right _))
  ·intros;simp only [FC_slices_IndexFunc_api_Term_api_Term_of_rule_right_1,FR_u];(repeat' (with_reducible first|exact Le.refl|assumption|(refine Le.bind ?_ fun _=>?_)|(refine Le.jn ?_ fun _=>?_)|(refine Le.grp fun _=>?_)|(refine Le.chk ?_)|(refine Le.cond ?_ ?_)|(refine Le.fl (fun _=>?_) fun _=>?_)|(refine Le.sum (fun _=>?_) fun _=>?_)|(refine Le.forL (fun _ _ _=>?_) _ _ _)|(refine Le.foldL (fun _ _ _=>?_) _ _ _)|(refine Le.loop fun _=>?_)|exact ih_rule_right_1 _|exact ih_slices_IndexFunc_api_Term_api_Term_of_rule_right_1 _|exact ih_slices_ContainsFunc_api_Term_api_Term_of_rule_right_1 _|exact ih_rule_right _))
  ·intros;simp only [FC_slices_ContainsFunc_api_Term_api_Term_of_rule_right_1,FR_t];(repeat' (with_reducible first|exact Le.refl|assumption|(refine Le.bind ?_ fun _=>?_)|(refine Le.jn ?_ fun _=>?_)|(refine Le.grp fun _=>?_)|(refine Le.chk ?_)|(refine Le.cond ?_ ?_)|(refine Le.fl (fun _=>?_) fun _=>?_)|(refine Le.sum (fun _=>?_) fun _=>?_)|(refine Le.forL (fun _ _ _=>?_) _ _ _)|(refine Le.foldL (fun _ _ _=>?_) _ _ _)|(refine Le.loop fun _=>?_)|exact ih_rule_right_1 _|exact ih_slices_IndexFunc_api_Term_api_Term_of_rule_right_1 _|exact ih_slices_ContainsFunc_api_Term_api_Term_of_rule_right_1 _|exact ih_rule_right _))
  ·intros;simp only [FC_rule_right,FR_9];(repeat' (with_reducible first|exact Le.refl|assumption|(refine Le.bind ?_ fun _=>?_)|(refine Le.jn ?_ fun _=>?_)|(refine Le.grp fun _=>?_)|(refine Le.chk ?_)|(refine Le.cond ?_ ?_)|(refine Le.fl (fun _=>?_) fun _=>?_)|(refine Le.sum (fun _=>?_) fun _=>?_)|(refine Le.forL (fun _ _ _=>?_) _ _ _)|(refine Le.foldL (fun _ _ _=>?_) _ _ _)|(refine Le.loop fun _=>?_)|exact ih_rule_right_1 _|exact ih_slices_IndexFunc_api_Term_api_Term_of_rule_right_1 _|exact ih_slices_ContainsFunc_api_Term_api_Term_of_rule_right_1 _|exact ih_rule_right _))
def C_rule_right (c_:GTerm):Option Bool:=FC_rule_right 400 c_
theorem C_rule_right_le {c_:GTerm}:Le (C_rule_right c_) (F_9 c_):=Le.lim (n:=400) fun m hm=>(CG_rule_right_1_slices_IndexFunc_api_Term_api_Term_of_rule_righ 400 m hm).2.2.2 _
def C_rule_Term (c_:GTerm):Option Int :=
 (C_rule_terms c_).bind fun y8=>bif decide (60<y8) then some 3 else (C_rule_depth c_ 20).bind fun y10=>bif decide (20<y10) then some 9 else (C_rule_right c_).bind fun y12=>bif (!y12) then some 1 else some 0
theorem C_rule_Term_le {c_:GTerm}:Le (C_rule_Term c_) (F_1a c_):=by
 unfold C_rule_Term F_1a
 (repeat' (with_reducible first|exact Le.refl|assumption|(refine Le.bind ?_ fun _=>?_)|(refine Le.jn ?_ fun _=>?_)|(refine Le.grp fun _=>?_)|(refine Le.chk ?_)|(refine Le.cond ?_ ?_)|(refine Le.fl (fun _=>?_) fun _=>?_)|(refine Le.sum (fun _=>?_) fun _=>?_)|(refine Le.forL (fun _ _ _=>?_) _ _ _)|(refine Le.foldL (fun _ _ _=>?_) _ _ _)|(refine Le.loop fun _=>?_)|exact C_rule_terms_le|exact C_rule_depth_le|exact C_rule_right_le))
def C_rule_check (r_:GRule):Option Int :=
 (F_1j r_.Name).bind fun y4=>bif (!y4) then some 4 else (C_rule_Term r_.When).bind fun y8=>bif (!decide (y8=0)) then some y8 else grp (((!decide (r_.Verdict=1))&&(!decide (r_.Verdict=2)))) fun b12=>bif b12 then some 1 else some 0
theorem C_rule_check_le {r_:GRule}:Le (C_rule_check r_) (F_1c r_):=by
 unfold C_rule_check F_1c
 (repeat' (with_reducible first|exact Le.refl|assumption|(refine Le.bind ?_ fun _=>?_)|(refine Le.jn ?_ fun _=>?_)|(refine Le.grp fun _=>?_)|(refine Le.chk ?_)|(refine Le.cond ?_ ?_)|(refine Le.fl (fun _=>?_) fun _=>?_)|(refine Le.sum (fun _=>?_) fun _=>?_)|(refine Le.forL (fun _ _ _=>?_) _ _ _)|(refine Le.foldL (fun _ _ _=>?_) _ _ _)|(refine Le.loop fun _=>?_)|exact C_rule_Term_le))
def C_rule_Valid_L1 (k31:Int) (a32:GRule) (x30:Unit):Option (Fl Unit Int) :=
 (C_rule_check a32).bind fun y40=>bif (!decide (y40=0)) then some (.ex y40) else some (.nx ())
theorem C_rule_Valid_L1_le  (k31:Int) (a32:GRule) (x30:Unit):Le (C_rule_Valid_L1 k31 a32 x30) (F_1k k31 a32 x30):=by
 unfold C_rule_Valid_L1 F_1k
 (repeat' (with_reducible first|exact Le.refl|assumption|(refine Le.bind ?_ fun _=>?_)|(refine Le.jn ?_ fun _=>?_)|(refine Le.grp fun _=>?_)|(refine Le.chk ?_)|(refine Le.cond ?_ ?_)|(refine Le.fl (fun _=>?_) fun _=>?_)|(refine Le.sum (fun _=>?_) fun _=>?_)|(refine Le.forL (fun _ _ _=>?_) _ _ _)|(refine Le.foldL (fun _ _ _=>?_) _ _ _)|(refine Le.loop fun _=>?_)|exact C_rule_check_le))
def C_rule_Valid_L2 (l_:List GRule) (k73:Int) (a74:GRule) (x72:Unit):Option (Fl Unit Int) :=
 chk (inc 0 k73 l_.length) ((F_1o (l_.take ((k73).toNat)) a74).bind fun y82=>bif y82 then some (.ex 7) else some (.nx ()))
theorem C_rule_Valid_L2_le  (l_:List GRule) (k73:Int) (a74:GRule) (x72:Unit):Le (C_rule_Valid_L2 l_ k73 a74 x72) (F_1l l_ k73 a74 x72):=by
 unfold C_rule_Valid_L2 F_1l
 (repeat' (with_reducible first|exact Le.refl|assumption|(refine Le.bind ?_ fun _=>?_)|(refine Le.jn ?_ fun _=>?_)|(refine Le.grp fun _=>?_)|(refine Le.chk ?_)|(refine Le.cond ?_ ?_)|(refine Le.fl (fun _=>?_) fun _=>?_)|(refine Le.sum (fun _=>?_) fun _=>?_)|(refine Le.forL (fun _ _ _=>?_) _ _ _)|(refine Le.foldL (fun _ _ _=>?_) _ _ _)|(refine Le.loop fun _=>?_)|exact C_rule_check_le|apply C_rule_Valid_L1_le))
def C_rule_Valid (l_:List GRule):Option Int :=
 bif decide (40<(l_.length:Int)) then some 3 else (forL C_rule_Valid_L1 l_ 0 ()).bind fun o=>o.elim (fun x41=>(forL (C_rule_Valid_L2 l_) l_ 0 ()).bind fun o=>o.elim (fun x83=>some 0) (fun r84=>some r84)) (fun r42=>some r42)
theorem C_rule_Valid_le {l_:List GRule}:Le (C_rule_Valid l_) (F_x l_):=by
 unfold C_rule_Valid F_x
 (repeat' (with_reducible first|exact Le.refl|assumption|(refine Le.bind ?_ fun _=>?_)|(refine Le.jn ?_ fun _=>?_)|(refine Le.grp fun _=>?_)|(refine Le.chk ?_)|(refine Le.cond ?_ ?_)|(refine Le.fl (fun _=>?_) fun _=>?_)|(refine Le.sum (fun _=>?_) fun _=>?_)|(refine Le.forL (fun _ _ _=>?_) _ _ _)|(refine Le.foldL (fun _ _ _=>?_) _ _ _)|(refine Le.loop fun _=>?_)|exact C_rule_check_le|apply C_rule_Valid_L1_le|apply C_rule_Valid_L2_le))
def FC_rule_write:Nat→GTerm→Option Str
 | 0,_=>none
 | n+1,c_ =>
 jn (α:=Bool) (bif decide (c_.Op=1) then some true else bif decide (c_.Op=2) then some true else some (decide (c_.Op=3))) fun j49=>bif j49 then (F_d c_.Op).bind fun y51=>chk (strl (y51.length+[32,34].length)) (chk (strl ((y51++[32,34]).length+c_.Text.length)) (chk (strl (((y51++[32,34])++c_.Text).length+[34].length)) (some (((y51++[32,34])++c_.Text)++[34])))) else bif decide (c_.Op=7) then (F_d c_.Op).bind fun y54=>chk (strl (y54.length+[32].length)) ((futI c_.Print 10).bind fun y55=>chk (strl ((y54++[32]).length+y55.length)) (some ((y54++[32])++y55))) else bif decide (c_.Op=9) then chk (inb 0 c_.Kids.length) ((FC_rule_write n (c_.Kids.getD 0 default)).bind fun y57=>chk (strl ([110,111,116,32,40].length+y57.length)) (chk (strl ((([110,111,116,32,40]:Str)++y57).length+[41].length)) (some ((([110,111,116,32,40]:Str)++y57)++[41])))) else jn (α:=Bool) (bif decide (c_.Op=10) then some true else some (decide (c_.Op=11))) fun j58=>bif j58 then (foldL (fun (k88:Int) (a89:GTerm) (x87:List Str)=>((FC_rule_write n a89).bind fun y93=>chk (room (x87.length+[y93].length) 16) (some (x87++[y93])):Option (List Str))) c_.Kids 0 []).bind fun x94=>(F_d c_.Op).bind fun y97=>chk (strl ([32].length+y97.length)) (chk (strl ((([32]:Str)++y97).length+[32].length)) ((joinI x94 ((([32]:Str)++y97)++[32])).bind fun y98=>chk (strl ([40].length+y98.length)) (chk (strl ((([40]:Str)++y98).length+[41].length)) (some ((([40]:Str)++y98)++[41]))))) else (F_d c_.Op).bind fun y101=>chk (strl (y101.length+[32].length)) ((itoaI c_.Number).bind fun y102=>chk (strl ((y101++[32]).length+y102.length)) (some ((y101++[32])++y102)))
theorem CG_rule_write:∀n m,n≤m→(∀(c_:GTerm),Le (FC_rule_write n c_) (FR_6 m c_))
 | 0,m,_=>by
  refine ?_
  all_goals (intros;first|(simp only [FC_rule_write];exact Le.non))
 | n+1,0,h=>absurd h (by omega)
 | n+1,m+1,h=>by
  have ih:=CG_rule_write n m (by omega)
  have ih_rule_write:=ih
  intros;simp only [FC_rule_write,FR_6];(repeat' (with_reducible first|exact Le.refl|assumption|(refine Le.bind ?_ fun _=>?_)|(refine Le.jn ?_ fun _=>?_)|(refine Le.grp fun _=>?_)|(refine Le.chk ?_)|(refine Le.cond ?_ ?_)|(refine Le.fl (fun _=>?_) fun _=>?_)|(refine Le.sum (fun _=>?_) fun _=>?_)|(refine Le.forL (fun _ _ _=>?_) _ _ _)|(refine Le.foldL (fun _ _ _=>?_) _ _ _)|(refine Le.loop fun _=>?_)|exact ih_rule_write _))
def C_rule_write (c_:GTerm):Option Str:=FC_rule_write 400 c_
theorem C_rule_write_le {c_:GTerm}:Le (C_rule_write c_) (F_6 c_):=Le.lim (n:=400) fun m hm=>(CG_rule_write 400 m hm) _
def C_rule_text_L1 (k58:Int) (a59:GRule) (x57:List UInt8):Option (List UInt8) :=
 jn (α:=Str) (bif decide (a59.Verdict=2) then some [58,32,102,97,108,115,101,32,105,102,32] else some [58,32,114,101,97,108,32,105,102,32]) fun j69=>chk (strl (a59.Name.length+j69.length)) ((C_rule_write a59.When).bind fun y70=>chk (strl ((a59.Name++j69).length+y70.length)) (chk (strl (((a59.Name++j69)++y70).length+[10].length)) ((bws x57 (((a59.Name++j69)++y70)++[10])).bind fun y71=>some y71)))
theorem C_rule_text_L1_le  (k58:Int) (a59:GRule) (x57:List UInt8):Le (C_rule_text_L1 k58 a59 x57) (F_1u k58 a59 x57):=by
 unfold C_rule_text_L1 F_1u
 (repeat' (with_reducible first|exact Le.refl|assumption|(refine Le.bind ?_ fun _=>?_)|(refine Le.jn ?_ fun _=>?_)|(refine Le.grp fun _=>?_)|(refine Le.chk ?_)|(refine Le.cond ?_ ?_)|(refine Le.fl (fun _=>?_) fun _=>?_)|(refine Le.sum (fun _=>?_) fun _=>?_)|(refine Le.forL (fun _ _ _=>?_) _ _ _)|(refine Le.foldL (fun _ _ _=>?_) _ _ _)|(refine Le.loop fun _=>?_)|exact C_rule_write_le))
def C_rule_text (l_:List GRule):Option Str :=
 (foldL C_rule_text_L1 l_ 0 ([]:Str)).bind fun x72=>(bstr x72).bind fun y74=>some y74
theorem C_rule_text_le {l_:List GRule}:Le (C_rule_text l_) (F_1e l_):=by
 unfold C_rule_text F_1e
 (repeat' (with_reducible first|exact Le.refl|assumption|(refine Le.bind ?_ fun _=>?_)|(refine Le.jn ?_ fun _=>?_)|(refine Le.grp fun _=>?_)|(refine Le.chk ?_)|(refine Le.cond ?_ ?_)|(refine Le.fl (fun _=>?_) fun _=>?_)|(refine Le.sum (fun _=>?_) fun _=>?_)|(refine Le.forL (fun _ _ _=>?_) _ _ _)|(refine Le.foldL (fun _ _ _=>?_) _ _ _)|(refine Le.loop fun _=>?_)|exact C_rule_write_le|apply C_rule_text_L1_le))
def C_rule_Parse_L1 (k40:Int) (a33:Str) (x32:List GRule):Option (Fl (List GRule) ((List GRule)×Int)) :=
 (C_rule_read a33).bind fun y42=>grp (((!y42.2)||decide ((x32.length:Int)=40))) fun b46=>bif b46 then some (.ex ([],4)) else chk (room (x32.length+[y42.1].length) 88) (some (.nx (x32++[y42.1])))
theorem C_rule_Parse_L1_le  (k40:Int) (a33:Str) (x32:List GRule):Le (C_rule_Parse_L1 k40 a33 x32) (F_2e k40 a33 x32):=by
 unfold C_rule_Parse_L1 F_2e
 (repeat' (with_reducible first|exact Le.refl|assumption|(refine Le.bind ?_ fun _=>?_)|(refine Le.jn ?_ fun _=>?_)|(refine Le.grp fun _=>?_)|(refine Le.chk ?_)|(refine Le.cond ?_ ?_)|(refine Le.fl (fun _=>?_) fun _=>?_)|(refine Le.sum (fun _=>?_) fun _=>?_)|(refine Le.forL (fun _ _ _=>?_) _ _ _)|(refine Le.foldL (fun _ _ _=>?_) _ _ _)|(refine Le.loop fun _=>?_)|exact C_rule_read_le|exact C_rule_Valid_le|exact C_rule_text_le))
def C_rule_Parse (s_:Str):Option ((List GRule)×Int) :=
 bif decide (65536<(s_.length:Int)) then some ([],3) else (linF s_).bind fun y23=>(forL C_rule_Parse_L1 (linesL s_) 0 []).bind fun o=>o.elim (fun x47=>(C_rule_Valid x47).bind fun y55=>bif (!decide (y55=0)) then some ([],4) else (C_rule_text x47).bind fun y56=>bif (!decide (y56=s_)) then some ([],4) else some (x47,0)) (fun r48=>some r48)
theorem C_rule_Parse_le {s_:Str}:Le (C_rule_Parse s_) (F_r s_):=by
 unfold C_rule_Parse F_r
 (repeat' (with_reducible first|exact Le.refl|assumption|(refine Le.bind ?_ fun _=>?_)|(refine Le.jn ?_ fun _=>?_)|(refine Le.grp fun _=>?_)|(refine Le.chk ?_)|(refine Le.cond ?_ ?_)|(refine Le.fl (fun _=>?_) fun _=>?_)|(refine Le.sum (fun _=>?_) fun _=>?_)|(refine Le.forL (fun _ _ _=>?_) _ _ _)|(refine Le.foldL (fun _ _ _=>?_) _ _ _)|(refine Le.loop fun _=>?_)|exact C_rule_read_le|exact C_rule_Valid_le|exact C_rule_text_le|apply C_rule_Parse_L1_le))
mutual
def FC_rule_holds_1:Nat→GTerm→(List GKind)→GFinding→GSpot→Option Bool
 | 0,_,_,_,_=>none
 | n+1,k_,p_,p__,p___ =>
 (FC_rule_holds n k_ p_ p__ p___).bind fun y2=>some y2
def FC_rule_holds_2:Nat→GTerm→(List GKind)→GFinding→GSpot→Option Bool
 | 0,_,_,_,_=>none
 | n+1,k_,pc0_,pc1_,pc2_ =>
 (FC_rule_holds_1 n k_ pc0_ pc1_ pc2_).bind fun y2=>some (!y2)
def FC_slices_IndexFunc_api_Term_api_Term_of_rule_holds_2:Nat→(List GTerm)→(List GKind)→GFinding→GSpot→Option Int
 | 0,_,_,_,_=>none
 | n+1,s_,fc0c0_,fc0c1_,fc0c2_ =>
 (forL (fun (k31:Int) (a32:GTerm) (x30:Unit)=>((FC_rule_holds_2 n a32 fc0c0_ fc0c1_ fc0c2_).bind fun y40=>bif y40 then some (.ex k31) else some (.nx ()):Option (Fl Unit Int))) s_ 0 ()).bind fun o=>o.elim (fun x41=>some (-1)) (fun r42=>some r42)
def FC_slices_ContainsFunc_api_Term_api_Term_of_rule_holds_2:Nat→(List GTerm)→(List GKind)→GFinding→GSpot→Option Bool
 | 0,_,_,_,_=>none
 | n+1,s_,fc0c0_,fc0c1_,fc0c2_ =>
 (FC_slices_IndexFunc_api_Term_api_Term_of_rule_holds_2 n s_ fc0c0_ fc0c1_ fc0c2_).bind fun y2=>some (decide (0≤y2))
def FC_slices_IndexFunc_api_Term_api_Term_of_rule_holds_1:Nat→(List GTerm)→(List GKind)→GFinding→GSpot→Option Int
 | 0,_,_,_,_=>none
 | n+1,s_,fc0_,fc1_,fc2_ =>
 (forL (fun (k31:Int) (a32:GTerm) (x30:Unit)=>((FC_rule_holds_1 n a32 fc0_ fc1_ fc2_).bind fun y40=>bif y40 then some (.ex k31) else some (.nx ()):Option (Fl Unit Int))) s_ 0 ()).bind fun o=>o.elim (fun x41=>some (-1)) (fun r42=>some r42)
def FC_slices_ContainsFunc_api_Term_api_Term_of_rule_holds_1:Nat→(List GTerm)→(List GKind)→GFinding→GSpot→Option Bool
 | 0,_,_,_,_=>none
 | n+1,s_,fc0_,fc1_,fc2_ =>
 (FC_slices_IndexFunc_api_Term_api_Term_of_rule_holds_1 n s_ fc0_ fc1_ fc2_).bind fun y2=>some (decide (0≤y2))
def FC_rule_holds:Nat→GTerm→(List GKind)→GFinding→GSpot→Option Bool
 | 0,_,_,_,_=>none
 | n+1,c_,kinds_,f_,s_ =>
 bif decide (c_.Op=1) then bif decide (0≤f_.Kind) then bif decide (f_.Kind<(kinds_.length:Int)) then chk (inb f_.Kind kinds_.length) (some (decide ((kinds_.getD (f_.Kind).toNat default).Name=c_.Text))) else some false else some false else bif decide (c_.Op=2) then (F_12 s_.Place.Path c_.Text).bind fun y12=>some y12 else bif decide (c_.Op=3) then (F_21 s_.Place.Path c_.Text).bind fun y14=>some y14 else bif decide (c_.Op=4) then some (decide (s_.Place.Source=c_.Number)) else bif decide (c_.Op=5) then some (decide (c_.Number≤(s_.Layers.length:Int))) else bif decide (c_.Op=6) then jn (α:=Bool) (bif decide (s_.From≤s_.To) then some (decide ((IntKind.wrap .u64 c_.Number)≤(IntKind.wrap .u64 ((IntKind.wrap .u64 s_.To) - (IntKind.wrap .u64 s_.From))))) else some false) fun j16=>some j16 else bif decide (c_.Op=7) then some (decide (f_.Fingerprint=c_.Print)) else bif decide (c_.Op=8) then some (decide (s_.Place.Time<c_.Number)) else bif decide (c_.Op=9) then chk (inb 0 c_.Kids.length) ((FC_rule_holds_1 n (c_.Kids.getD 0 default) kinds_ f_ s_).bind fun y18=>some (!y18)) else bif decide (c_.Op=10) then (FC_slices_ContainsFunc_api_Term_api_Term_of_rule_holds_2 n c_.Kids kinds_ f_ s_).bind fun y20=>some (!y20) else (FC_slices_ContainsFunc_api_Term_api_Term_of_rule_holds_1 n c_.Kids kinds_ f_ s_).bind fun y22=>some y22
end
theorem CG_rule_holds_1_rule_holds_2_slices_IndexFunc_api_Term_api_Term:∀n m,n≤m→(∀(k_:GTerm) (p_:List GKind) (p__:GFinding) (p___:GSpot),Le (FC_rule_holds_1 n k_ p_ p__ p___) (FR_b m k_ p_ p__ p___))∧(∀(k_:GTerm) (pc0_:List GKind) (pc1_:GFinding) (pc2_:GSpot),Le (FC_rule_holds_2 n k_ pc0_ pc1_ pc2_) (FR_l m k_ pc0_ pc1_ pc2_))∧(∀(s_:List GTerm) (fc0c0_:List GKind) (fc0c1_:GFinding) (fc0c2_:GSpot),Le (FC_slices_IndexFunc_api_Term_api_Term_of_rule_holds_2 n s_ fc0c0_ fc0c1_ fc0c2_) (FR_m m s_ fc0c0_ fc0c1_ fc0c2_))∧(∀(s_:List GTerm) (fc0c0_:List GKind) (fc0c1_:GFinding) (fc0c2_:GSpot),Le (FC_slices_ContainsFunc_api_Term_api_Term_of_rule_holds_2 n s_ fc0c0_ fc0c1_ fc0c2_) (FR_n m s_ fc0c0_ fc0c1_ fc0c2_))∧(∀(s_:List GTerm) (fc0_:List GKind) (fc1_:GFinding) (fc2_:GSpot),Le (FC_slices_IndexFunc_api_Term_api_Term_of_rule_holds_1 n s_ fc0_ fc1_ fc2_) (FR_o m s_ fc0_ fc1_ fc2_))∧(∀(s_:List GTerm) (fc0_:List GKind) (fc1_:GFinding) (fc2_:GSpot),Le (FC_slices_ContainsFunc_api_Term_api_Term_of_rule_holds_1 n s_ fc0_ fc1_ fc2_) (FR_p m s_ fc0_ fc1_ fc2_))∧(∀(c_:GTerm) (kinds_:List GKind) (f_:GFinding) (s_:GSpot),Le (FC_rule_holds n c_ kinds_ f_ s_) (FR_a m c_ kinds_ f_ s_))
 | 0,m,_=>by
  refine ⟨?_,?_,?_,?_,?_,?_,?_⟩
  all_goals (intros;first|(simp only [FC_rule_holds_1,FC_rule_holds_2,FC_slices_IndexFunc_api_Term_api_Term_of_rule_holds_2,FC_slices_ContainsFunc_api_Term_api_Term_of_rule_holds_2,FC_slices_IndexFunc_api_Term_api_Term_of_rule_holds_1,FC_slices_ContainsFunc_api_Term_api_Term_of_rule_holds_1,FC_rule_holds];exact Le.non))
 | n+1,0,h=>absurd h (by omega)
 | n+1,m+1,h=>by
  have ih:=CG_rule_holds_1_rule_holds_2_slices_IndexFunc_api_Term_api_Term n m (by omega)
  obtain ⟨ih_rule_holds_1,ih_rule_holds_2,ih_slices_IndexFunc_api_Term_api_Term_of_rule_holds_2,ih_slices_ContainsFunc_api_Term_api_Term_of_rule_holds_2,ih_slices_IndexFunc_api_Term_api_Term_of_rule_holds_1,ih_slices_ContainsFunc_api_Term_api_Term_of_rule_holds_1,ih_rule_holds⟩:=ih
  refine ⟨?_,?_,?_,?_,?_,?_,?_⟩
  ·intros;simp only [FC_rule_holds_1,FR_b];(repeat' (with_reducible first|exact Le.refl|assumption|(refine Le.bind ?_ fun _=>?_)|(refine Le.jn ?_ fun _=>?_)|(refine Le.grp fun _=>?_)|(refine Le.chk ?_)|(refine Le.cond ?_ ?_)|(refine Le.fl (fun _=>?_) fun _=>?_)|(refine Le.sum (fun _=>?_) fun _=>?_)|(refine Le.forL (fun _ _ _=>?_) _ _ _)|(refine Le.foldL (fun _ _ _=>?_) _ _ _)|(refine Le.loop fun _=>?_)|exact ih_rule_holds_1 _ _ _ _|exact ih_rule_holds_2 _ _ _ _|exact ih_slices_IndexFunc_api_Term_api_Term_of_rule_holds_2 _ _ _ _|exact ih_slices_ContainsFunc_api_Term_api_Term_of_rule_holds_2 _ _ _ _|exact ih_slices_IndexFunc_api_Term_api_Term_of_rule_holds_1 _ _ _ _|exact ih_slices_ContainsFunc_api_Term_api_Term_of_rule_holds_1 _ _ _ _|exact ih_rule_holds _ _ _ _))
  ·intros;simp only [FC_rule_holds_2,FR_l];(repeat' (with_reducible first|exact Le.refl|assumption|(refine Le.bind ?_ fun _=>?_)|(refine Le.jn ?_ fun _=>?_)|(refine Le.grp fun _=>?_)|(refine Le.chk ?_)|(refine Le.cond ?_ ?_)|(refine Le.fl (fun _=>?_) fun _=>?_)|(refine Le.sum (fun _=>?_) fun _=>?_)|(refine Le.forL (fun _ _ _=>?_) _ _ _)|(refine Le.foldL (fun _ _ _=>?_) _ _ _)|(refine Le.loop fun _=>?_)|exact ih_rule_holds_1 _ _ _ _|exact ih_rule_holds_2 _ _ _ _|exact ih_slices_IndexFunc_api_Term_api_Term_of_rule_holds_2 _ _ _ _|exact ih_slices_ContainsFunc_api_Term_api_Term_of_rule_holds_2 _ _ _ _|exact ih_slices_IndexFunc_api_Term_api_Term_of_rule_holds_1 _ _ _ _|exact ih_slices_ContainsFunc_api_Term_api_Term_of_rule_holds_1 _ _ _ _|exact ih_rule_holds _ _ _ _))
  ·intros;simp only [FC_slices_IndexFunc_api_Term_api_Term_of_rule_holds_2,FR_m];(repeat' (with_reducible first|exact Le.refl|assumption|(refine Le.bind ?_ fun _=>?_)|(refine Le.jn ?_ fun _=>?_)|(refine Le.grp fun _=>?_)|(refine Le.chk ?_)|(refine Le.cond ?_ ?_)|(refine Le.fl (fun _=>?_) fun _=>?_)|(refine Le.sum (fun _=>?_) fun _=>?_)|(refine Le.forL (fun _ _ _=>?_) _ _ _)|(refine Le.foldL (fun _ _ _=>?_) _ _ _)|(refine Le.loop fun _=>?_)|exact ih_rule_holds_1 _ _ _ _|exact ih_rule_holds_2 _ _ _ _|exact ih_slices_IndexFunc_api_Term_api_Term_of_rule_holds_2 _ _ _ _|exact ih_slices_ContainsFunc_api_Term_api_Term_of_rule_holds_2 _ _ _ _|exact ih_slices_IndexFunc_api_Term_api_Term_of_rule_holds_1 _ _ _ _|exact ih_slices_ContainsFunc_api_Term_api_Term_of_rule_holds_1 _ _ _ _|exact ih_rule_holds _ _ _ _))
  ·intros;simp only [FC_slices_ContainsFunc_api_Term_api_Term_of_rule_holds_2,FR_n];(repeat' (with_reducible first|exact Le.refl|assumption|(refine Le.bind ?_ fun _=>?_)|(refine Le.jn ?_ fun _=>?_)|(refine Le.grp fun _=>?_)|(refine Le.chk ?_)|(refine Le.cond ?_ ?_)|(refine Le.fl (fun _=>?_) fun _=>?_)|(refine Le.sum (fun _=>?_) fun _=>?_)|(refine Le.forL (fun _ _ _=>?_) _ _ _)|(refine Le.foldL (fun _ _ _=>?_) _ _ _)|(refine Le.loop fun _=>?_)|exact ih_rule_holds_1 _ _ _ _|exact ih_rule_holds_2 _ _ _ _|exact ih_slices_IndexFunc_api_Term_api_Term_of_rule_holds_2 _ _ _ _|exact ih_slices_ContainsFunc_api_Term_api_Term_of_rule_holds_2 _ _ _ _|exact ih_slices_IndexFunc_api_Term_api_Term_of_rule_holds_1 _ _ _ _|exact ih_slices_ContainsFunc_api_Term_api_Term_of_rule_holds_1 _ _ _ _|exact ih_rule_holds _ _ _ _))
  ·intros;simp only [FC_slices_IndexFunc_api_Term_api_Term_of_rule_holds_1,FR_o];(repeat' (with_reducible first|exact Le.refl|assumption|(refine Le.bind ?_ fun _=>?_)|(refine Le.jn ?_ fun _=>?_)|(refine Le.grp fun _=>?_)|(refine Le.chk ?_)|(refine Le.cond ?_ ?_)|(refine Le.fl (fun _=>?_) fun _=>?_)|(refine Le.sum (fun _=>?_) fun _=>?_)|(refine Le.forL (fun _ _ _=>?_) _ _ _)|(refine Le.foldL (fun _ _ _=>?_) _ _ _)|(refine Le.loop fun _=>?_)|exact ih_rule_holds_1 _ _ _ _|exact ih_rule_holds_2 _ _ _ _|exact ih_slices_IndexFunc_api_Term_api_Term_of_rule_holds_2 _ _ _ _|exact ih_slices_ContainsFunc_api_Term_api_Term_of_rule_holds_2 _ _ _ _|exact ih_slices_IndexFunc_api_Term_api_Term_of_rule_holds_1 _ _ _ _|exact ih_slices_ContainsFunc_api_Term_api_Term_of_rule_holds_1 _ _ _ _|exact ih_rule_holds _ _ _ _))
  ·intros;simp only [FC_slices_ContainsFunc_api_Term_api_Term_of_rule_holds_1,FR_p];(repeat' (with_reducible first|exact Le.refl|assumption|(refine Le.bind ?_ fun _=>?_)|(refine Le.jn ?_ fun _=>?_)|(refine Le.grp fun _=>?_)|(refine Le.chk ?_)|(refine Le.cond ?_ ?_)|(refine Le.fl (fun _=>?_) fun _=>?_)|(refine Le.sum (fun _=>?_) fun _=>?_)|(refine Le.forL (fun _ _ _=>?_) _ _ _)|(refine Le.foldL (fun _ _ _=>?_) _ _ _)|(refine Le.loop fun _=>?_)|exact ih_rule_holds_1 _ _ _ _|exact ih_rule_holds_2 _ _ _ _|exact ih_slices_IndexFunc_api_Term_api_Term_of_rule_holds_2 _ _ _ _|exact ih_slices_ContainsFunc_api_Term_api_Term_of_rule_holds_2 _ _ _ _|exact ih_slices_IndexFunc_api_Term_api_Term_of_rule_holds_1 _ _ _ _|exact ih_slices_ContainsFunc_api_Term_api_Term_of_rule_holds_1 _ _ _ _|exact ih_rule_holds _ _ _ _))
  ·intros;simp only [FC_rule_holds,FR_a];(repeat' (with_reducible first|exact Le.refl|assumption|(refine Le.bind ?_ fun _=>?_)|(refine Le.jn ?_ fun _=>?_)|(refine Le.grp fun _=>?_)|(refine Le.chk ?_)|(refine Le.cond ?_ ?_)|(refine Le.fl (fun _=>?_) fun _=>?_)|(refine Le.sum (fun _=>?_) fun _=>?_)|(refine Le.forL (fun _ _ _=>?_) _ _ _)|(refine Le.foldL (fun _ _ _=>?_) _ _ _)|(refine Le.loop fun _=>?_)|exact ih_rule_holds_1 _ _ _ _|exact ih_rule_holds_2 _ _ _ _|exact ih_slices_IndexFunc_api_Term_api_Term_of_rule_holds_2 _ _ _ _|exact ih_slices_ContainsFunc_api_Term_api_Term_of_rule_holds_2 _ _ _ _|exact ih_slices_IndexFunc_api_Term_api_Term_of_rule_holds_1 _ _ _ _|exact ih_slices_ContainsFunc_api_Term_api_Term_of_rule_holds_1 _ _ _ _|exact ih_rule_holds _ _ _ _))
def C_rule_holds (c_:GTerm) (kinds_:List GKind) (f_:GFinding) (s_:GSpot):Option Bool:=FC_rule_holds 400 c_ kinds_ f_ s_
theorem C_rule_holds_le {c_:GTerm} {kinds_:List GKind} {f_:GFinding} {s_:GSpot}:Le (C_rule_holds c_ kinds_ f_ s_) (F_a c_ kinds_ f_ s_):=Le.lim (n:=400) fun m hm=>(CG_rule_holds_1_rule_holds_2_slices_IndexFunc_api_Term_api_Term 400 m hm).2.2.2.2.2.2 _ _ _ _
def C_rule_Decide_1 (r_:GRule) (p_:List GKind) (p__:GFinding) (p___:GSpot):Option Bool :=
 (C_rule_holds r_.When p_ p__ p___).bind fun y2=>some y2
theorem C_rule_Decide_1_le {r_:GRule} {p_:List GKind} {p__:GFinding} {p___:GSpot}:Le (C_rule_Decide_1 r_ p_ p__ p___) (F_1p r_ p_ p__ p___):=by
 unfold C_rule_Decide_1 F_1p
 (repeat' (with_reducible first|exact Le.refl|assumption|(refine Le.bind ?_ fun _=>?_)|(refine Le.jn ?_ fun _=>?_)|(refine Le.grp fun _=>?_)|(refine Le.chk ?_)|(refine Le.cond ?_ ?_)|(refine Le.fl (fun _=>?_) fun _=>?_)|(refine Le.sum (fun _=>?_) fun _=>?_)|(refine Le.forL (fun _ _ _=>?_) _ _ _)|(refine Le.foldL (fun _ _ _=>?_) _ _ _)|(refine Le.loop fun _=>?_)|exact C_rule_holds_le))
def C_slices_IndexFunc_api_Rule_api_Rule_of_rule_Decide_1_L1 (fc0_:List GKind) (fc1_:GFinding) (fc2_:GSpot) (k31:Int) (a32:GRule) (x30:Unit):Option (Fl Unit Int) :=
 (C_rule_Decide_1 a32 fc0_ fc1_ fc2_).bind fun y40=>bif y40 then some (.ex k31) else some (.nx ())
theorem C_slices_IndexFunc_api_Rule_api_Rule_of_rule_Decide_1_L1_le  (fc0_:List GKind) (fc1_:GFinding) (fc2_:GSpot) (k31:Int) (a32:GRule) (x30:Unit):Le (C_slices_IndexFunc_api_Rule_api_Rule_of_rule_Decide_1_L1 fc0_ fc1_ fc2_ k31 a32 x30) (F_24 fc0_ fc1_ fc2_ k31 a32 x30):=by
 unfold C_slices_IndexFunc_api_Rule_api_Rule_of_rule_Decide_1_L1 F_24
 (repeat' (with_reducible first|exact Le.refl|assumption|(refine Le.bind ?_ fun _=>?_)|(refine Le.jn ?_ fun _=>?_)|(refine Le.grp fun _=>?_)|(refine Le.chk ?_)|(refine Le.cond ?_ ?_)|(refine Le.fl (fun _=>?_) fun _=>?_)|(refine Le.sum (fun _=>?_) fun _=>?_)|(refine Le.forL (fun _ _ _=>?_) _ _ _)|(refine Le.foldL (fun _ _ _=>?_) _ _ _)|(refine Le.loop fun _=>?_)|exact C_rule_Decide_1_le))
def C_slices_IndexFunc_api_Rule_api_Rule_of_rule_Decide_1 (s_:List GRule) (fc0_:List GKind) (fc1_:GFinding) (fc2_:GSpot):Option Int :=
 (forL (C_slices_IndexFunc_api_Rule_api_Rule_of_rule_Decide_1_L1 fc0_ fc1_ fc2_) s_ 0 ()).bind fun o=>o.elim (fun x41=>some (-1)) (fun r42=>some r42)
theorem C_slices_IndexFunc_api_Rule_api_Rule_of_rule_Decide_1_le {s_:List GRule} {fc0_:List GKind} {fc1_:GFinding} {fc2_:GSpot}:Le (C_slices_IndexFunc_api_Rule_api_Rule_of_rule_Decide_1 s_ fc0_ fc1_ fc2_) (F_1q s_ fc0_ fc1_ fc2_):=by
 unfold C_slices_IndexFunc_api_Rule_api_Rule_of_rule_Decide_1 F_1q
 (repeat' (with_reducible first|exact Le.refl|assumption|(refine Le.bind ?_ fun _=>?_)|(refine Le.jn ?_ fun _=>?_)|(refine Le.grp fun _=>?_)|(refine Le.chk ?_)|(refine Le.cond ?_ ?_)|(refine Le.fl (fun _=>?_) fun _=>?_)|(refine Le.sum (fun _=>?_) fun _=>?_)|(refine Le.forL (fun _ _ _=>?_) _ _ _)|(refine Le.foldL (fun _ _ _=>?_) _ _ _)|(refine Le.loop fun _=>?_)|exact C_rule_Decide_1_le|apply C_slices_IndexFunc_api_Rule_api_Rule_of_rule_Decide_1_L1_le))
def C_rule_Decide (l_:List GRule) (kinds_:List GKind) (f_:GFinding) (s_:GSpot):Option (Int×Int) :=
 (C_slices_IndexFunc_api_Rule_api_Rule_of_rule_Decide_1 l_ kinds_ f_ s_).bind fun y2=>bif decide (y2<0) then some (1,(-1)) else chk (inb y2 l_.length) (some ((l_.getD (y2).toNat default).Verdict,y2))
theorem C_rule_Decide_le {l_:List GRule} {kinds_:List GKind} {f_:GFinding} {s_:GSpot}:Le (C_rule_Decide l_ kinds_ f_ s_) (F_1r l_ kinds_ f_ s_):=by
 unfold C_rule_Decide F_1r
 (repeat' (with_reducible first|exact Le.refl|assumption|(refine Le.bind ?_ fun _=>?_)|(refine Le.jn ?_ fun _=>?_)|(refine Le.grp fun _=>?_)|(refine Le.chk ?_)|(refine Le.cond ?_ ?_)|(refine Le.fl (fun _=>?_) fun _=>?_)|(refine Le.sum (fun _=>?_) fun _=>?_)|(refine Le.forL (fun _ _ _=>?_) _ _ _)|(refine Le.foldL (fun _ _ _=>?_) _ _ _)|(refine Le.loop fun _=>?_)|exact C_slices_IndexFunc_api_Rule_api_Rule_of_rule_Decide_1_le))
def C_rule_Judge (l_:List GRule) (kinds_:List GKind) (f_:GFinding) (spot_:Int):Option (Int×Int) :=
 grp ((decide (spot_<0)||decide ((f_.Where.length:Int)≤spot_))) fun b7=>bif b7 then some (1,(-1)) else (C_rule_Valid l_).bind fun y8=>bif (!decide (y8=0)) then some (1,(-1)) else chk (inb spot_ f_.Where.length) ((C_rule_Decide l_ kinds_ f_ (f_.Where.getD (spot_).toNat default)).bind fun y10=>some (y10.1,y10.2))
theorem C_rule_Judge_le {l_:List GRule} {kinds_:List GKind} {f_:GFinding} {spot_:Int}:Le (C_rule_Judge l_ kinds_ f_ spot_) (F_1s l_ kinds_ f_ spot_):=by
 unfold C_rule_Judge F_1s
 (repeat' (with_reducible first|exact Le.refl|assumption|(refine Le.bind ?_ fun _=>?_)|(refine Le.jn ?_ fun _=>?_)|(refine Le.grp fun _=>?_)|(refine Le.chk ?_)|(refine Le.cond ?_ ?_)|(refine Le.fl (fun _=>?_) fun _=>?_)|(refine Le.sum (fun _=>?_) fun _=>?_)|(refine Le.forL (fun _ _ _=>?_) _ _ _)|(refine Le.foldL (fun _ _ _=>?_) _ _ _)|(refine Le.loop fun _=>?_)|exact C_rule_Valid_le|exact C_rule_Decide_le))
def C_law21_awake:Option Bool :=
 (C_rule_Parse [100,111,99,115,58,32,102,97,108,115,101,32,105,102,32,112,97,116,104,32,34,100,111,99,115,47,34,10]).bind fun y2=>(C_rule_Judge y2.1 [] (GFinding.mk 0 0 [(GSpot.mk (GPlace.mk 0 [100,111,99,115,47,120] 0) [] 0 0)]) 0).bind fun y4=>grp ((decide (y2.2=0)&&decide ((y2.1.length:Int)=1))) fun b8=>grp ((b8&&decide (y4.1=2))) fun b9=>grp ((b9&&decide (y4.2=0))) fun b10=>some b10
theorem C_law21_awake_le:Le (C_law21_awake ) (F_1n ):=by
 unfold C_law21_awake F_1n
 (repeat' (with_reducible first|exact Le.refl|assumption|(refine Le.bind ?_ fun _=>?_)|(refine Le.jn ?_ fun _=>?_)|(refine Le.grp fun _=>?_)|(refine Le.chk ?_)|(refine Le.cond ?_ ?_)|(refine Le.fl (fun _=>?_) fun _=>?_)|(refine Le.sum (fun _=>?_) fun _=>?_)|(refine Le.forL (fun _ _ _=>?_) _ _ _)|(refine Le.foldL (fun _ _ _=>?_) _ _ _)|(refine Le.loop fun _=>?_)|exact C_rule_Parse_le|exact C_rule_Judge_le))
theorem awake21:F_1n=some true:=C_law21_awake_le _ (by kernel_rfl)
end Go.Ab
