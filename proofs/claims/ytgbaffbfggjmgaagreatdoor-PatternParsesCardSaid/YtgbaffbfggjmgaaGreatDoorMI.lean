/- What the functions of this seat that lie on the laws' road compute (part MI), each for every input. By AI agents. -/
import Derived.Test.YtgbaffbfggjmgaaGreatDoorLB
import Derived.Test.YtgbaffbfggjmgaaGreatDoorAbMir
set_option linter.all false
set_option linter.all false
set_option maxRecDepth 20000
set_option maxHeartbeats 2000000
namespace Go.Ab
open Go.Proofs
def C_pattern_reader_set_L1 (x57:(List GRange)×Greader):Option (Fl ((List GRange)×Greader) ((List GRange)×Greader)) :=
 bif (!x57.2.wrong_) then (F_0 x57.2 [93]).bind fun y71=>bif (!y71.1) then (F_t y71.2).bind fun y73=>jn (α:=Greader×GRange) ((F_0 y73.2 [45]).bind fun y79=>bif y79.1 then (F_t y79.2).bind fun y80=>some (y80.2,(GRange.mk y73.1 y80.1)) else some (y79.2,(GRange.mk y73.1 y73.1))) fun j77=>chk (room (x57.1.length+[j77.2].length) 2) (some (.nx ((x57.1++[j77.2]),j77.1))) else some (.ex (x57.1,y71.2)) else some (.ex (x57.1,x57.2))
theorem C_pattern_reader_set_L1_le  (x57:(List GRange)×Greader):Le (C_pattern_reader_set_L1 x57) (F_15 x57):=by
 unfold C_pattern_reader_set_L1 F_15
 (repeat' (with_reducible first|exact Le.refl|assumption|(refine Le.bind ?_ fun _=>?_)|(refine Le.jn ?_ fun _=>?_)|(refine Le.grp fun _=>?_)|(refine Le.chk ?_)|(refine Le.cond ?_ ?_)|(refine Le.fl (fun _=>?_) fun _=>?_)|(refine Le.sum (fun _=>?_) fun _=>?_)|(refine Le.forL (fun _ _ _=>?_) _ _ _)|(refine Le.foldL (fun _ _ _=>?_) _ _ _)|(refine Le.loop fun _=>?_)))
def C_pattern_reader_set (r_:Greader):Option (GNode×Greader) :=
 (iter C_pattern_reader_set_L1 100000 ([],r_)).bind fun r81=>some ((GNode.mk 1 r81.1 [] 0 0),r81.2)
theorem C_pattern_reader_set_le {r_:Greader}:Le (C_pattern_reader_set r_) (F_12 r_):=by
 unfold C_pattern_reader_set F_12
 (repeat' (with_reducible first|exact Le.refl|assumption|(refine Le.bind ?_ fun _=>?_)|(refine Le.jn ?_ fun _=>?_)|(refine Le.grp fun _=>?_)|(refine Le.chk ?_)|(refine Le.cond ?_ ?_)|(refine Le.fl (fun _=>?_) fun _=>?_)|(refine Le.sum (fun _=>?_) fun _=>?_)|(refine Le.forL (fun _ _ _=>?_) _ _ _)|(refine Le.foldL (fun _ _ _=>?_) _ _ _)|(refine Le.loop fun _=>?_)|apply C_pattern_reader_set_L1_le))
mutual
def FC_pattern_reader_item:Nat→Greader→Option (GNode×Greader)
 | 0,_=>none
 | n+1,r_ =>
 jn (α:=GNode×Greader) ((F_0 r_ [40]).bind fun y13=>bif y13.1 then (FC_pattern_reader_choice n y13.2).bind fun y15=>(F_m y15.2 [41]).bind fun y16=>some (y15.1,y16) else (F_0 y13.2 [91]).bind fun y18=>bif y18.1 then (C_pattern_reader_set y18.2).bind fun y19=>some (y19.1,y19.2) else (F_t y18.2).bind fun y21=>some ((GNode.mk 1 [(GRange.mk y21.1 y21.1)] [] 0 0),y21.2)) fun j11=>(F_0 j11.2 [123]).bind fun y35=>bif y35.1 then (F_u y35.2).bind fun y37=>(F_0 y37.2 [44]).bind fun y42=>bif y42.1 then (F_u y42.2).bind fun y43=>(F_m y43.2 [125]).bind fun y44=>some ((GNode.mk 4 [] [j11.1] y37.1 y43.1),y44) else (F_m y42.2 [125]).bind fun y45=>some ((GNode.mk 4 [] [j11.1] y37.1 y37.1),y45) else some (j11.1,y35.2)
def FC_pattern_reader_list_of_pattern_reader_item_of_pattern_reader_more:Nat→Greader→Int→Option (GNode×Greader)
 | 0,_,_=>none
 | n+1,r_,op_ =>
 (FC_pattern_reader_item n r_).bind fun y2=>(iter (fun (x34:Int×(List GNode)×Greader)=>(bif (!x34.2.2.wrong_) then (F_v x34.2.2).bind fun y43=>bif y43 then (FC_pattern_reader_item n x34.2.2).bind fun y44=>chk (room (x34.2.1.length+[y44.1].length) 72) (some (.nx (x34.1,(x34.2.1++[y44.1]),y44.2))) else some (.ex (x34.1,x34.2.1,x34.2.2)) else some (.ex (x34.1,x34.2.1,x34.2.2)):Option (Fl (Int×(List GNode)×Greader) (Int×(List GNode)×Greader)))) 100000 (op_,[y2.1],y2.2)).bind fun r45=>bif decide ((r45.2.1.length:Int)=1) then chk (inb 0 r45.2.1.length) (some (r45.2.1.getD 0 default,r45.2.2)) else some ((GNode.mk r45.1 [] r45.2.1 0 0),r45.2.2)
def FC_pattern_reader_sequence:Nat→Greader→Option (GNode×Greader)
 | 0,_=>none
 | n+1,r_ =>
 (FC_pattern_reader_list_of_pattern_reader_item_of_pattern_reader_more n r_ 2).bind fun y2=>some (y2.1,y2.2)
def FC_pattern_reader_list_of_pattern_reader_sequence_of_pattern_reader_choice_1:Nat→Greader→Int→Option (GNode×Greader)
 | 0,_,_=>none
 | n+1,r_,op_ =>
 (FC_pattern_reader_sequence n r_).bind fun y2=>(iter (fun (x34:Int×(List GNode)×Greader)=>(bif (!x34.2.2.wrong_) then (F_x x34.2.2).bind fun y43=>bif y43.1 then (FC_pattern_reader_sequence n y43.2).bind fun y44=>chk (room (x34.2.1.length+[y44.1].length) 72) (some (.nx (x34.1,(x34.2.1++[y44.1]),y44.2))) else some (.ex (x34.1,x34.2.1,y43.2)) else some (.ex (x34.1,x34.2.1,x34.2.2)):Option (Fl (Int×(List GNode)×Greader) (Int×(List GNode)×Greader)))) 100000 (op_,[y2.1],y2.2)).bind fun r45=>bif decide ((r45.2.1.length:Int)=1) then chk (inb 0 r45.2.1.length) (some (r45.2.1.getD 0 default,r45.2.2)) else some ((GNode.mk r45.1 [] r45.2.1 0 0),r45.2.2)
def FC_pattern_reader_choice:Nat→Greader→Option (GNode×Greader)
 | 0,_=>none
 | n+1,r_ =>
 chk (in64 (r_.deep_+1)) (bif decide (20<(r_.deep_+1)) then some ((GNode.mk 0 [] [] 0 0),(Greader.mk r_.text_ true (r_.deep_+1))) else (FC_pattern_reader_list_of_pattern_reader_sequence_of_pattern_reader_choice_1 n (Greader.mk r_.text_ r_.wrong_ (r_.deep_+1)) 3).bind fun y2=>chk (in64 (y2.2.deep_ - 1)) (some (y2.1,(Greader.mk y2.2.text_ y2.2.wrong_ (y2.2.deep_ - 1)))))
end
theorem CG_pattern_reader_item_pattern_reader_list_of_pattern_reader_it:∀n m,n≤m→(∀(r_:Greader),Le (FC_pattern_reader_item n r_) (FR_3 m r_))∧(∀(r_:Greader) (op_:Int),Le (FC_pattern_reader_list_of_pattern_reader_item_of_pattern_reader_more n r_ op_) (FR_d m r_ op_))∧(∀(r_:Greader),Le (FC_pattern_reader_sequence n r_) (FR_5 m r_))∧(∀(r_:Greader) (op_:Int),Le (FC_pattern_reader_list_of_pattern_reader_sequence_of_pattern_reader_choice_1 n r_ op_) (FR_k m r_ op_))∧(∀(r_:Greader),Le (FC_pattern_reader_choice n r_) (FR_2 m r_))
 | 0,m,_=>by
  refine ⟨?_,?_,?_,?_,?_⟩
  all_goals (intros;first|(simp only [FC_pattern_reader_item,FC_pattern_reader_list_of_pattern_reader_item_of_pattern_reader_more,FC_pattern_reader_sequence,FC_pattern_reader_list_of_pattern_reader_sequence_of_pattern_reader_choice_1,FC_pattern_reader_choice];exact Le.non))
 | n+1,0,h=>absurd h (by omega)
 | n+1,m+1,h=>by
  have ih:=CG_pattern_reader_item_pattern_reader_list_of_pattern_reader_it n m (by omega)
  obtain ⟨ih_pattern_reader_item,ih_pattern_reader_list_of_pattern_reader_item_of_pattern_reader_more,ih_pattern_reader_sequence,ih_pattern_reader_list_of_pattern_reader_sequence_of_pattern_reader_choice_1,ih_pattern_reader_choice⟩:=ih
  refine ⟨?_,?_,?_,?_,?_⟩
  ·intros;simp only [FC_pattern_reader_item,FR_3];(repeat' (with_reducible first|exact Le.refl|assumption|(refine Le.bind ?_ fun _=>?_)|(refine Le.jn ?_ fun _=>?_)|(refine Le.grp fun _=>?_)|(refine Le.chk ?_)|(refine Le.cond ?_ ?_)|(refine Le.fl (fun _=>?_) fun _=>?_)|(refine Le.sum (fun _=>?_) fun _=>?_)|(refine Le.forL (fun _ _ _=>?_) _ _ _)|(refine Le.foldL (fun _ _ _=>?_) _ _ _)|(refine Le.loop fun _=>?_)|exact ih_pattern_reader_item _|exact ih_pattern_reader_list_of_pattern_reader_item_of_pattern_reader_more _ _|exact ih_pattern_reader_sequence _|exact ih_pattern_reader_list_of_pattern_reader_sequence_of_pattern_reader_choice_1 _ _|exact ih_pattern_reader_choice _|exact C_pattern_reader_set_le))
  ·intros;simp only [FC_pattern_reader_list_of_pattern_reader_item_of_pattern_reader_more,FR_d];(repeat' (with_reducible first|exact Le.refl|assumption|(refine Le.bind ?_ fun _=>?_)|(refine Le.jn ?_ fun _=>?_)|(refine Le.grp fun _=>?_)|(refine Le.chk ?_)|(refine Le.cond ?_ ?_)|(refine Le.fl (fun _=>?_) fun _=>?_)|(refine Le.sum (fun _=>?_) fun _=>?_)|(refine Le.forL (fun _ _ _=>?_) _ _ _)|(refine Le.foldL (fun _ _ _=>?_) _ _ _)|(refine Le.loop fun _=>?_)|exact ih_pattern_reader_item _|exact ih_pattern_reader_list_of_pattern_reader_item_of_pattern_reader_more _ _|exact ih_pattern_reader_sequence _|exact ih_pattern_reader_list_of_pattern_reader_sequence_of_pattern_reader_choice_1 _ _|exact ih_pattern_reader_choice _|exact C_pattern_reader_set_le))
  ·intros;simp only [FC_pattern_reader_sequence,FR_5];(repeat' (with_reducible first|exact Le.refl|assumption|(refine Le.bind ?_ fun _=>?_)|(refine Le.jn ?_ fun _=>?_)|(refine Le.grp fun _=>?_)|(refine Le.chk ?_)|(refine Le.cond ?_ ?_)|(refine Le.fl (fun _=>?_) fun _=>?_)|(refine Le.sum (fun _=>?_) fun _=>?_)|(refine Le.forL (fun _ _ _=>?_) _ _ _)|(refine Le.foldL (fun _ _ _=>?_) _ _ _)|(refine Le.loop fun _=>?_)|exact ih_pattern_reader_item _|exact ih_pattern_reader_list_of_pattern_reader_item_of_pattern_reader_more _ _|exact ih_pattern_reader_sequence _|exact ih_pattern_reader_list_of_pattern_reader_sequence_of_pattern_reader_choice_1 _ _|exact ih_pattern_reader_choice _|exact C_pattern_reader_set_le))
  ·intros;simp only [FC_pattern_reader_list_of_pattern_reader_sequence_of_pattern_reader_choice_1,FR_k];(repeat' (with_reducible first|exact Le.refl|assumption|(refine Le.bind ?_ fun _=>?_)|(refine Le.jn ?_ fun _=>?_)|(refine Le.grp fun _=>?_)|(refine Le.chk ?_)|(refine Le.cond ?_ ?_)|(refine Le.fl (fun _=>?_) fun _=>?_)|(refine Le.sum (fun _=>?_) fun _=>?_)|(refine Le.forL (fun _ _ _=>?_) _ _ _)|(refine Le.foldL (fun _ _ _=>?_) _ _ _)|(refine Le.loop fun _=>?_)|exact ih_pattern_reader_item _|exact ih_pattern_reader_list_of_pattern_reader_item_of_pattern_reader_more _ _|exact ih_pattern_reader_sequence _|exact ih_pattern_reader_list_of_pattern_reader_sequence_of_pattern_reader_choice_1 _ _|exact ih_pattern_reader_choice _|exact C_pattern_reader_set_le))
  ·intros;simp only [FC_pattern_reader_choice,FR_2];(repeat' (with_reducible first|exact Le.refl|assumption|(refine Le.bind ?_ fun _=>?_)|(refine Le.jn ?_ fun _=>?_)|(refine Le.grp fun _=>?_)|(refine Le.chk ?_)|(refine Le.cond ?_ ?_)|(refine Le.fl (fun _=>?_) fun _=>?_)|(refine Le.sum (fun _=>?_) fun _=>?_)|(refine Le.forL (fun _ _ _=>?_) _ _ _)|(refine Le.foldL (fun _ _ _=>?_) _ _ _)|(refine Le.loop fun _=>?_)|exact ih_pattern_reader_item _|exact ih_pattern_reader_list_of_pattern_reader_item_of_pattern_reader_more _ _|exact ih_pattern_reader_sequence _|exact ih_pattern_reader_list_of_pattern_reader_sequence_of_pattern_reader_choice_1 _ _|exact ih_pattern_reader_choice _|exact C_pattern_reader_set_le))
def C_pattern_reader_choice (r_:Greader):Option (GNode×Greader):=FC_pattern_reader_choice 400 r_
theorem C_pattern_reader_choice_le {r_:Greader}:Le (C_pattern_reader_choice r_) (F_2 r_):=Le.lim (n:=400) fun m hm=>(CG_pattern_reader_item_pattern_reader_list_of_pattern_reader_it 400 m hm).2.2.2.2 _
def FC_pattern_Nodes:Nat→GNode→Option Int
 | 0,_=>none
 | n+1,n_ =>
 (forL (fun (k45:Int) (a46:GNode) (x44:Int)=>((FC_pattern_Nodes n a46).bind fun y54=>chk (in64 (x44+y54)) (bif decide (200<(x44+y54)) then some (.ex 201) else some (.nx (x44+y54))):Option (Fl Int Int))) n_.Kids 0 1).bind fun o=>o.elim (fun x55=>some x55) (fun r56=>some r56)
theorem CG_pattern_Nodes:∀n m,n≤m→(∀(n_:GNode),Le (FC_pattern_Nodes n n_) (FR_g m n_))
 | 0,m,_=>by
  refine ?_
  all_goals (intros;first|(simp only [FC_pattern_Nodes];exact Le.non))
 | n+1,0,h=>absurd h (by omega)
 | n+1,m+1,h=>by
  have ih:=CG_pattern_Nodes n m (by omega)
  have ih_pattern_Nodes:=ih
  intros;simp only [FC_pattern_Nodes,FR_g];(repeat' (with_reducible first|exact Le.refl|assumption|(refine Le.bind ?_ fun _=>?_)|(refine Le.jn ?_ fun _=>?_)|(refine Le.grp fun _=>?_)|(refine Le.chk ?_)|(refine Le.cond ?_ ?_)|(refine Le.fl (fun _=>?_) fun _=>?_)|(refine Le.sum (fun _=>?_) fun _=>?_)|(refine Le.forL (fun _ _ _=>?_) _ _ _)|(refine Le.foldL (fun _ _ _=>?_) _ _ _)|(refine Le.loop fun _=>?_)|exact ih_pattern_Nodes _))
def C_pattern_Nodes (n_:GNode):Option Int:=FC_pattern_Nodes 400 n_
theorem C_pattern_Nodes_le {n_:GNode}:Le (C_pattern_Nodes n_) (F_g n_):=Le.lim (n:=400) fun m hm=>(CG_pattern_Nodes 400 m hm) _
def FC_pattern_depth:Nat→GNode→Int→Option Int
 | 0,_,_=>none
 | n+1,n_,left_ =>
 bif decide (left_=0) then some 1 else (foldL (fun (k30:Int) (a31:GNode) (x29:Int)=>(chk (in64 (left_ - 1)) ((FC_pattern_depth n a31 (left_ - 1)).bind fun y35=>some (max x29 y35)):Option Int)) n_.Kids 0 0).bind fun x36=>chk (in64 (x36+1)) (some (x36+1))
theorem CG_pattern_depth:∀n m,n≤m→(∀(n_:GNode) (left_:Int),Le (FC_pattern_depth n n_ left_) (FR_h m n_ left_))
 | 0,m,_=>by
  refine ?_
  all_goals (intros;first|(simp only [FC_pattern_depth];exact Le.non))
 | n+1,0,h=>absurd h (by omega)
 | n+1,m+1,h=>by
  have ih:=CG_pattern_depth n m (by omega)
  have ih_pattern_depth:=ih
  intros;simp only [FC_pattern_depth,FR_h];(repeat' (with_reducible first|exact Le.refl|assumption|(refine Le.bind ?_ fun _=>?_)|(refine Le.jn ?_ fun _=>?_)|(refine Le.grp fun _=>?_)|(refine Le.chk ?_)|(refine Le.cond ?_ ?_)|(refine Le.fl (fun _=>?_) fun _=>?_)|(refine Le.sum (fun _=>?_) fun _=>?_)|(refine Le.forL (fun _ _ _=>?_) _ _ _)|(refine Le.foldL (fun _ _ _=>?_) _ _ _)|(refine Le.loop fun _=>?_)|exact ih_pattern_depth _ _))
def C_pattern_depth (n_:GNode) (left_:Int):Option Int:=FC_pattern_depth 400 n_ left_
theorem C_pattern_depth_le {n_:GNode} {left_:Int}:Le (C_pattern_depth n_ left_) (F_h n_ left_):=Le.lim (n:=400) fun m hm=>(CG_pattern_depth 400 m hm) _ _
mutual
def FC_pattern_right_1:Nat→GNode→Option Bool
 | 0,_=>none
 | n+1,k_ =>
 (FC_pattern_right n k_).bind fun y2=>some (!y2)
def FC_slices_IndexFunc_api_Node_api_Node_of_pattern_right_1:Nat→(List GNode)→Option Int
 | 0,_=>none
 | n+1,s_ =>
 (forL (fun (k31:Int) (a32:GNode) (x30:Unit)=>((FC_pattern_right_1 n a32).bind fun y40=>bif y40 then some (.ex k31) else some (.nx ()):Option (Fl Unit Int))) s_ 0 ()).bind fun o=>o.elim (fun x41=>some (-1)) (fun r42=>some r42)
def FC_slices_ContainsFunc_api_Node_api_Node_of_pattern_right_1:Nat→(List GNode)→Option Bool
 | 0,_=>none
 | n+1,s_ =>
 (FC_slices_IndexFunc_api_Node_api_Node_of_pattern_right_1 n s_).bind fun y2=>some (decide (0≤y2))
def FC_pattern_right:Nat→GNode→Option Bool
 | 0,_=>none
 | n+1,n_ =>
 jn (α:=Bool) (bif decide (n_.Op=1) then (F_1l n_).bind fun y6=>some y6 else jn (α:=Bool) (bif decide (n_.Op=2) then some true else some (decide (n_.Op=3))) fun j7=>bif j7 then (F_1m n_).bind fun y8=>some y8 else bif decide (n_.Op=4) then (F_1n n_).bind fun y9=>some y9 else some false) fun j5=>jn (α:=Bool) (bif j5 then (FC_slices_ContainsFunc_api_Node_api_Node_of_pattern_right_1 n n_.Kids).bind fun y13=>some (!y13) else some false) fun j14=>some j14
end
theorem CG_pattern_right_1_slices_IndexFunc_api_Node_api_Node_of_patter:∀n m,n≤m→(∀(k_:GNode),Le (FC_pattern_right_1 n k_) (FR_r m k_))∧(∀(s_:List GNode),Le (FC_slices_IndexFunc_api_Node_api_Node_of_pattern_right_1 n s_) (FR_z m s_))∧(∀(s_:List GNode),Le (FC_slices_ContainsFunc_api_Node_api_Node_of_pattern_right_1 n s_) (FR_w m s_))∧(∀(n_:GNode),Le (FC_pattern_right n n_) (FR_i m n_))
 | 0,m,_=>by
  refine ⟨?_,?_,?_,?_⟩
  all_goals (intros;first|(simp only [FC_pattern_right_1,FC_slices_IndexFunc_api_Node_api_Node_of_pattern_right_1,FC_slices_ContainsFunc_api_Node_api_Node_of_pattern_right_1,FC_pattern_right];exact Le.non))
 | n+1,0,h=>absurd h (by omega)
 | n+1,m+1,h=>by
  have ih:=CG_pattern_right_1_slices_IndexFunc_api_Node_api_Node_of_patter n m (by omega)
  obtain ⟨ih_pattern_right_1,ih_slices_IndexFunc_api_Node_api_Node_of_pattern_right_1,ih_slices_ContainsFunc_api_Node_api_Node_of_pattern_right_1,ih_pattern_right⟩:=ih
  refine ⟨?_,?_,?_,?_⟩
  ·intros;simp only [FC_pattern_right_1,FR_r];(repeat' (with_reducible first|exact Le.refl|assumption|(refine Le.bind ?_ fun _=>?_)|(refine Le.jn ?_ fun _=>?_)|(refine Le.grp fun _=>?_)|(refine Le.chk ?_)|(refine Le.cond ?_ ?_)|(refine Le.fl (fun _=>?_) fun _=>?_)|(refine Le.sum (fun _=>?_) fun _=>?_)|(refine Le.forL (fun _ _ _=>?_) _ _ _)|(refine Le.foldL (fun _ _ _=>?_) _ _ _)|(refine Le.loop fun _=>?_)|exact ih_pattern_right_1 _|exact ih_slices_IndexFunc_api_Node_api_Node_of_pattern_right_1 _|exact ih_slices_ContainsFunc_api_Node_api_Node_of_pattern_right_1 _|exact ih_pattern_right _))
  ·intros;simp only [FC_slices_IndexFunc_api_Node_api_Node_of_pattern_right_1,FR_z];(repeat' (with_reducible first|exact Le.refl|assumption|(refine Le.bind ?_ fun _=>?_)|(refine Le.jn ?_ fun _=>?_)|(refine Le.grp fun _=>?_)|(refine Le.chk ?_)|(refine Le.cond ?_ ?_)|(refine Le.fl (fun _=>?_) fun _=>?_)|(refine Le.sum (fun _=>?_) fun _=>?_)|(refine Le.forL (fun _ _ _=>?_) _ _ _)|(refine Le.foldL (fun _ _ _=>?_) _ _ _)|(refine Le.loop fun _=>?_)|exact ih_pattern_right_1 _|exact ih_slices_IndexFunc_api_Node_api_Node_of_pattern_right_1 _|exact ih_slices_ContainsFunc_api_Node_api_Node_of_pattern_right_1 _|exact ih_pattern_right _))
  ·intros;simp only [FC_slices_ContainsFunc_api_Node_api_Node_of_pattern_right_1,FR_w];(repeat' (with_reducible first|exact Le.refl|assumption|(refine Le.bind ?_ fun _=>?_)|(refine Le.jn ?_ fun _=>?_)|(refine Le.grp fun _=>?_)|(refine Le.chk ?_)|(refine Le.cond ?_ ?_)|(refine Le.fl (fun _=>?_) fun _=>?_)|(refine Le.sum (fun _=>?_) fun _=>?_)|(refine Le.forL (fun _ _ _=>?_) _ _ _)|(refine Le.foldL (fun _ _ _=>?_) _ _ _)|(refine Le.loop fun _=>?_)|exact ih_pattern_right_1 _|exact ih_slices_IndexFunc_api_Node_api_Node_of_pattern_right_1 _|exact ih_slices_ContainsFunc_api_Node_api_Node_of_pattern_right_1 _|exact ih_pattern_right _))
  ·intros;simp only [FC_pattern_right,FR_i];(repeat' (with_reducible first|exact Le.refl|assumption|(refine Le.bind ?_ fun _=>?_)|(refine Le.jn ?_ fun _=>?_)|(refine Le.grp fun _=>?_)|(refine Le.chk ?_)|(refine Le.cond ?_ ?_)|(refine Le.fl (fun _=>?_) fun _=>?_)|(refine Le.sum (fun _=>?_) fun _=>?_)|(refine Le.forL (fun _ _ _=>?_) _ _ _)|(refine Le.foldL (fun _ _ _=>?_) _ _ _)|(refine Le.loop fun _=>?_)|exact ih_pattern_right_1 _|exact ih_slices_IndexFunc_api_Node_api_Node_of_pattern_right_1 _|exact ih_slices_ContainsFunc_api_Node_api_Node_of_pattern_right_1 _|exact ih_pattern_right _))
def C_pattern_right (n_:GNode):Option Bool:=FC_pattern_right 400 n_
theorem C_pattern_right_le {n_:GNode}:Le (C_pattern_right n_) (F_i n_):=Le.lim (n:=400) fun m hm=>(CG_pattern_right_1_slices_IndexFunc_api_Node_api_Node_of_patter 400 m hm).2.2.2 _
def FC_pattern_longest:Nat→GNode→Option Int
 | 0,_=>none
 | n+1,n_ =>
 jn (α:=Int) (bif decide (n_.Op=1) then some 1 else bif decide (n_.Op=2) then (foldL (fun (k49:Int) (a50:GNode) (x48:Int)=>((FC_pattern_longest n a50).bind fun y54=>chk (in64 (x48+y54)) (some (x48+y54)):Option Int)) n_.Kids 0 0).bind fun x55=>some x55 else bif decide (n_.Op=3) then (foldL (fun (k68:Int) (a69:GNode) (x67:Int)=>((FC_pattern_longest n a69).bind fun y73=>some (max x67 y73):Option Int)) n_.Kids 0 0).bind fun x74=>some x74 else chk (inb 0 n_.Kids.length) ((FC_pattern_longest n (n_.Kids.getD 0 default)).bind fun y75=>chk (in64 (n_.Max*y75)) (some (n_.Max*y75)))) fun j36=>some (min j36 1025)
theorem CG_pattern_longest:∀n m,n≤m→(∀(n_:GNode),Le (FC_pattern_longest n n_) (FR_8 m n_))
 | 0,m,_=>by
  refine ?_
  all_goals (intros;first|(simp only [FC_pattern_longest];exact Le.non))
 | n+1,0,h=>absurd h (by omega)
 | n+1,m+1,h=>by
  have ih:=CG_pattern_longest n m (by omega)
  have ih_pattern_longest:=ih
  intros;simp only [FC_pattern_longest,FR_8];(repeat' (with_reducible first|exact Le.refl|assumption|(refine Le.bind ?_ fun _=>?_)|(refine Le.jn ?_ fun _=>?_)|(refine Le.grp fun _=>?_)|(refine Le.chk ?_)|(refine Le.cond ?_ ?_)|(refine Le.fl (fun _=>?_) fun _=>?_)|(refine Le.sum (fun _=>?_) fun _=>?_)|(refine Le.forL (fun _ _ _=>?_) _ _ _)|(refine Le.foldL (fun _ _ _=>?_) _ _ _)|(refine Le.loop fun _=>?_)|exact ih_pattern_longest _))
def C_pattern_longest (n_:GNode):Option Int:=FC_pattern_longest 400 n_
theorem C_pattern_longest_le {n_:GNode}:Le (C_pattern_longest n_) (F_8 n_):=Le.lim (n:=400) fun m hm=>(CG_pattern_longest 400 m hm) _
def C_pattern_Valid (n_:GNode):Option Int :=
 (C_pattern_Nodes n_).bind fun y10=>bif decide (200<y10) then some 3 else (C_pattern_depth n_ 20).bind fun y12=>bif decide (20<y12) then some 9 else (C_pattern_right n_).bind fun y14=>bif (!y14) then some 1 else (C_pattern_longest n_).bind fun y16=>bif decide (1024<y16) then some 3 else some 0
theorem C_pattern_Valid_le {n_:GNode}:Le (C_pattern_Valid n_) (F_11 n_):=by
 unfold C_pattern_Valid F_11
 (repeat' (with_reducible first|exact Le.refl|assumption|(refine Le.bind ?_ fun _=>?_)|(refine Le.jn ?_ fun _=>?_)|(refine Le.grp fun _=>?_)|(refine Le.chk ?_)|(refine Le.cond ?_ ?_)|(refine Le.fl (fun _=>?_) fun _=>?_)|(refine Le.sum (fun _=>?_) fun _=>?_)|(refine Le.forL (fun _ _ _=>?_) _ _ _)|(refine Le.foldL (fun _ _ _=>?_) _ _ _)|(refine Le.loop fun _=>?_)|exact C_pattern_Nodes_le|exact C_pattern_depth_le|exact C_pattern_right_le|exact C_pattern_longest_le))
mutual
def FC_pattern_kid:Nat→Str→GNode→Bool→Option Str
 | 0,_,_,_=>none
 | n+1,out_,n_,parentheses_ =>
 jn (α:=List UInt8) (bif parentheses_ then (bwb out_ 40).bind fun y3=>some y3 else some out_) fun j2=>(FC_pattern_write n j2 n_).bind fun y5=>bif parentheses_ then (bwb y5 41).bind fun y6=>some y6 else some y5
def FC_pattern_write:Nat→Str→GNode→Option Str
 | 0,_,_=>none
 | n+1,out_,n_ =>
 bif decide (n_.Op=1) then (F_1o out_ n_.Ranges).bind fun y1=>some y1 else bif decide (n_.Op=2) then (foldL (fun (k14:Int) (a15:GNode) (x13:List UInt8)=>((FC_pattern_kid n x13 a15 (decide (a15.Op=3))).bind fun y19=>some y19:Option (List UInt8))) n_.Kids 0 out_).bind fun x20=>some x20 else bif decide (n_.Op=3) then (foldL (fun (k45:Int) (a46:GNode) (x44:List UInt8)=>(jn (α:=List UInt8) (bif decide (0<k45) then (bwb x44 124).bind fun y58=>some y58 else some x44) fun j57=>(FC_pattern_write n j57 a46).bind fun y59=>some y59:Option (List UInt8))) n_.Kids 0 out_).bind fun x60=>some x60 else chk (inb 0 n_.Kids.length) (chk (inb 0 n_.Kids.length) ((FC_pattern_kid n out_ (n_.Kids.getD 0 default) (!decide ((n_.Kids.getD 0 default).Op=1))).bind fun y62=>(itoaI n_.Min).bind fun y65=>chk (strl ([123].length+y65.length)) ((bws y62 (([123]:Str)++y65)).bind fun y66=>jn (α:=List UInt8) (bif (!decide (n_.Max=n_.Min)) then (itoaI n_.Max).bind fun y70=>chk (strl ([44].length+y70.length)) ((bws y66 (([44]:Str)++y70)).bind fun y71=>some y71) else some y66) fun j69=>(bwb j69 125).bind fun y72=>some y72)))
end
theorem CG_pattern_kid_pattern_write:∀n m,n≤m→(∀(out_:Str) (n_:GNode) (parentheses_:Bool),Le (FC_pattern_kid n out_ n_ parentheses_) (FR_10 m out_ n_ parentheses_))∧(∀(out_:Str) (n_:GNode),Le (FC_pattern_write n out_ n_) (FR_l m out_ n_))
 | 0,m,_=>by
  refine ⟨?_,?_⟩
  all_goals (intros;first|(simp only [FC_pattern_kid,FC_pattern_write];exact Le.non))
 | n+1,0,h=>absurd h (by omega)
 | n+1,m+1,h=>by
  have ih:=CG_pattern_kid_pattern_write n m (by omega)
  obtain ⟨ih_pattern_kid,ih_pattern_write⟩:=ih
  refine ⟨?_,?_⟩
  ·intros;simp only [FC_pattern_kid,FR_10];(repeat' (with_reducible first|exact Le.refl|assumption|(refine Le.bind ?_ fun _=>?_)|(refine Le.jn ?_ fun _=>?_)|(refine Le.grp fun _=>?_)|(refine Le.chk ?_)|(refine Le.cond ?_ ?_)|(refine Le.fl (fun _=>?_) fun _=>?_)|(refine Le.sum (fun _=>?_) fun _=>?_)|(refine Le.forL (fun _ _ _=>?_) _ _ _)|(refine Le.foldL (fun _ _ _=>?_) _ _ _)|(refine Le.loop fun _=>?_)|exact ih_pattern_kid _ _ _|exact ih_pattern_write _ _))
  ·intros;simp only [FC_pattern_write,FR_l];(repeat' (with_reducible first|exact Le.refl|assumption|(refine Le.bind ?_ fun _=>?_)|(refine Le.jn ?_ fun _=>?_)|(refine Le.grp fun _=>?_)|(refine Le.chk ?_)|(refine Le.cond ?_ ?_)|(refine Le.fl (fun _=>?_) fun _=>?_)|(refine Le.sum (fun _=>?_) fun _=>?_)|(refine Le.forL (fun _ _ _=>?_) _ _ _)|(refine Le.foldL (fun _ _ _=>?_) _ _ _)|(refine Le.loop fun _=>?_)|exact ih_pattern_kid _ _ _|exact ih_pattern_write _ _))
def C_pattern_write (out_:Str) (n_:GNode):Option Str:=FC_pattern_write 400 out_ n_
theorem C_pattern_write_le {out_:Str} {n_:GNode}:Le (C_pattern_write out_ n_) (F_l out_ n_):=Le.lim (n:=400) fun m hm=>(CG_pattern_kid_pattern_write 400 m hm).2 _ _
def C_pattern_Text (n_:GNode):Option (Str×Int) :=
 (C_pattern_Valid n_).bind fun y4=>bif (!decide (y4=0)) then some ([],y4) else (C_pattern_write ([]:Str) n_).bind fun y6=>(bstr y6).bind fun y8=>some (y8,0)
theorem C_pattern_Text_le {n_:GNode}:Le (C_pattern_Text n_) (F_18 n_):=by
 unfold C_pattern_Text F_18
 (repeat' (with_reducible first|exact Le.refl|assumption|(refine Le.bind ?_ fun _=>?_)|(refine Le.jn ?_ fun _=>?_)|(refine Le.grp fun _=>?_)|(refine Le.chk ?_)|(refine Le.cond ?_ ?_)|(refine Le.fl (fun _=>?_) fun _=>?_)|(refine Le.sum (fun _=>?_) fun _=>?_)|(refine Le.forL (fun _ _ _=>?_) _ _ _)|(refine Le.foldL (fun _ _ _=>?_) _ _ _)|(refine Le.loop fun _=>?_)|exact C_pattern_Valid_le|exact C_pattern_write_le))
def C_pattern_Read (s_:Str):Option (GNode×Int) :=
 (C_pattern_reader_choice (Greader.mk s_ false 0)).bind fun y2=>(C_pattern_Text y2.1).bind fun y12=>grp ((y2.2.wrong_||(!decide (y2.2.text_=[])))) fun b16=>grp ((b16||(!decide (y12.2=0)))) fun b17=>grp ((b17||(!decide (y12.1=s_)))) fun b18=>bif b18 then some ((GNode.mk 0 [] [] 0 0),4) else some (y2.1,0)
theorem C_pattern_Read_le {s_:Str}:Le (C_pattern_Read s_) (F_1i s_):=by
 unfold C_pattern_Read F_1i
 (repeat' (with_reducible first|exact Le.refl|assumption|(refine Le.bind ?_ fun _=>?_)|(refine Le.jn ?_ fun _=>?_)|(refine Le.grp fun _=>?_)|(refine Le.chk ?_)|(refine Le.cond ?_ ?_)|(refine Le.fl (fun _=>?_) fun _=>?_)|(refine Le.sum (fun _=>?_) fun _=>?_)|(refine Le.forL (fun _ _ _=>?_) _ _ _)|(refine Le.foldL (fun _ _ _=>?_) _ _ _)|(refine Le.loop fun _=>?_)|exact C_pattern_reader_choice_le|exact C_pattern_Text_le))
def C_pattern_Parse (s_:Str):Option (GNode×Int) :=
 bif decide (4000<(s_.length:Int)) then some ((GNode.mk 0 [] [] 0 0),3) else (C_pattern_Read s_).bind fun y2=>some (y2.1,y2.2)
theorem C_pattern_Parse_le {s_:Str}:Le (C_pattern_Parse s_) (F_1a s_):=by
 unfold C_pattern_Parse F_1a
 (repeat' (with_reducible first|exact Le.refl|assumption|(refine Le.bind ?_ fun _=>?_)|(refine Le.jn ?_ fun _=>?_)|(refine Le.grp fun _=>?_)|(refine Le.chk ?_)|(refine Le.cond ?_ ?_)|(refine Le.fl (fun _=>?_) fun _=>?_)|(refine Le.sum (fun _=>?_) fun _=>?_)|(refine Le.forL (fun _ _ _=>?_) _ _ _)|(refine Le.foldL (fun _ _ _=>?_) _ _ _)|(refine Le.loop fun _=>?_)|exact C_pattern_Read_le))
def C_pattern_Longest (n_:GNode):Option Int :=
 (C_pattern_Valid n_).bind fun y4=>bif (!decide (y4=0)) then some 0 else (C_pattern_longest n_).bind fun y6=>some y6
theorem C_pattern_Longest_le {n_:GNode}:Le (C_pattern_Longest n_) (F_1r n_):=by
 unfold C_pattern_Longest F_1r
 (repeat' (with_reducible first|exact Le.refl|assumption|(refine Le.bind ?_ fun _=>?_)|(refine Le.jn ?_ fun _=>?_)|(refine Le.grp fun _=>?_)|(refine Le.chk ?_)|(refine Le.cond ?_ ?_)|(refine Le.fl (fun _=>?_) fun _=>?_)|(refine Le.sum (fun _=>?_) fun _=>?_)|(refine Le.forL (fun _ _ _=>?_) _ _ _)|(refine Le.foldL (fun _ _ _=>?_) _ _ _)|(refine Le.loop fun _=>?_)|exact C_pattern_Valid_le|exact C_pattern_longest_le))
def FC_pattern_shortest:Nat→GNode→Option Int
 | 0,_=>none
 | n+1,n_ =>
 bif decide (n_.Op=1) then some 1 else bif decide (n_.Op=2) then (foldL (fun (k50:Int) (a51:GNode) (x49:Int)=>((FC_pattern_shortest n a51).bind fun y55=>chk (in64 (x49+y55)) (some (x49+y55)):Option Int)) n_.Kids 0 0).bind fun x56=>some x56 else bif decide (n_.Op=3) then chk (inb 0 n_.Kids.length) ((FC_pattern_shortest n (n_.Kids.getD 0 default)).bind fun y58=>(foldL (fun (k71:Int) (a72:GNode) (x70:Int)=>((FC_pattern_shortest n a72).bind fun y76=>some (min x70 y76):Option Int)) n_.Kids 0 y58).bind fun x77=>some x77) else chk (inb 0 n_.Kids.length) ((FC_pattern_shortest n (n_.Kids.getD 0 default)).bind fun y78=>chk (in64 (n_.Min*y78)) (some (n_.Min*y78)))
theorem CG_pattern_shortest:∀n m,n≤m→(∀(n_:GNode),Le (FC_pattern_shortest n n_) (FR_j m n_))
 | 0,m,_=>by
  refine ?_
  all_goals (intros;first|(simp only [FC_pattern_shortest];exact Le.non))
 | n+1,0,h=>absurd h (by omega)
 | n+1,m+1,h=>by
  have ih:=CG_pattern_shortest n m (by omega)
  have ih_pattern_shortest:=ih
  intros;simp only [FC_pattern_shortest,FR_j];(repeat' (with_reducible first|exact Le.refl|assumption|(refine Le.bind ?_ fun _=>?_)|(refine Le.jn ?_ fun _=>?_)|(refine Le.grp fun _=>?_)|(refine Le.chk ?_)|(refine Le.cond ?_ ?_)|(refine Le.fl (fun _=>?_) fun _=>?_)|(refine Le.sum (fun _=>?_) fun _=>?_)|(refine Le.forL (fun _ _ _=>?_) _ _ _)|(refine Le.foldL (fun _ _ _=>?_) _ _ _)|(refine Le.loop fun _=>?_)|exact ih_pattern_shortest _))
def C_pattern_shortest (n_:GNode):Option Int:=FC_pattern_shortest 400 n_
theorem C_pattern_shortest_le {n_:GNode}:Le (C_pattern_shortest n_) (F_j n_):=Le.lim (n:=400) fun m hm=>(CG_pattern_shortest 400 m hm) _
def C_pattern_Shortest (n_:GNode):Option Int :=
 (C_pattern_Valid n_).bind fun y4=>bif (!decide (y4=0)) then some 0 else (C_pattern_shortest n_).bind fun y6=>some y6
theorem C_pattern_Shortest_le {n_:GNode}:Le (C_pattern_Shortest n_) (F_1s n_):=by
 unfold C_pattern_Shortest F_1s
 (repeat' (with_reducible first|exact Le.refl|assumption|(refine Le.bind ?_ fun _=>?_)|(refine Le.jn ?_ fun _=>?_)|(refine Le.grp fun _=>?_)|(refine Le.chk ?_)|(refine Le.cond ?_ ?_)|(refine Le.fl (fun _=>?_) fun _=>?_)|(refine Le.sum (fun _=>?_) fun _=>?_)|(refine Le.forL (fun _ _ _=>?_) _ _ _)|(refine Le.foldL (fun _ _ _=>?_) _ _ _)|(refine Le.loop fun _=>?_)|exact C_pattern_Valid_le|exact C_pattern_shortest_le))
def C_ref05_Word_L1 (s_:Str) (x11:Int×(List GNode)):Option (Fl (Int×(List GNode)) (List GNode)) :=
 bif decide (x11.1<(s_.length:Int)) then chk (inb x11.1 s_.length) (chk (inb x11.1 s_.length) (chk (room (x11.2.length+[(GNode.mk 1 [(GRange.mk (s_.getD (x11.1).toNat 0) (s_.getD (x11.1).toNat 0))] [] 0 0)].length) 72) (chk (in64 (x11.1+1)) (some (.nx ((x11.1+1),(x11.2++[(GNode.mk 1 [(GRange.mk (s_.getD (x11.1).toNat 0) (s_.getD (x11.1).toNat 0))] [] 0 0)]))))))) else some (.ex x11.2)
theorem C_ref05_Word_L1_le  (s_:Str) (x11:Int×(List GNode)):Le (C_ref05_Word_L1 s_ x11) (F_2a s_ x11):=by
 unfold C_ref05_Word_L1 F_2a
 (repeat' (with_reducible first|exact Le.refl|assumption|(refine Le.bind ?_ fun _=>?_)|(refine Le.jn ?_ fun _=>?_)|(refine Le.grp fun _=>?_)|(refine Le.chk ?_)|(refine Le.cond ?_ ?_)|(refine Le.fl (fun _=>?_) fun _=>?_)|(refine Le.sum (fun _=>?_) fun _=>?_)|(refine Le.forL (fun _ _ _=>?_) _ _ _)|(refine Le.foldL (fun _ _ _=>?_) _ _ _)|(refine Le.loop fun _=>?_)))
def C_ref05_Word (s_:Str):Option GNode :=
 grp ((decide ((s_.length:Int)=0)||decide (100<(s_.length:Int)))) fun b4=>bif b4 then some (GNode.mk 0 [] [] 0 0) else (iter (C_ref05_Word_L1 s_) 100000 (0,[])).bind fun r12=>bif decide ((r12.length:Int)=1) then chk (inb 0 r12.length) (some (r12.getD 0 default)) else some (GNode.mk 2 [] r12 0 0)
theorem C_ref05_Word_le {s_:Str}:Le (C_ref05_Word s_) (F_1u s_):=by
 unfold C_ref05_Word F_1u
 (repeat' (with_reducible first|exact Le.refl|assumption|(refine Le.bind ?_ fun _=>?_)|(refine Le.jn ?_ fun _=>?_)|(refine Le.grp fun _=>?_)|(refine Le.chk ?_)|(refine Le.cond ?_ ?_)|(refine Le.fl (fun _=>?_) fun _=>?_)|(refine Le.sum (fun _=>?_) fun _=>?_)|(refine Le.forL (fun _ _ _=>?_) _ _ _)|(refine Le.foldL (fun _ _ _=>?_) _ _ _)|(refine Le.loop fun _=>?_)|apply C_ref05_Word_L1_le))
mutual
def FC_slices_EqualFunc_api_Node_api_Node_api_Node_api_Node_of_pattern_Same:Nat→(List GNode)→(List GNode)→Option Bool
 | 0,_,_=>none
 | n+1,s1_,s2_ =>
 bif (!decide ((s1_.length:Int)=(s2_.length:Int))) then some false else (forL (fun (k31:Int) (a32:GNode) (x30:Unit)=>(chk (inb k31 s2_.length) ((FC_pattern_Same n a32 (s2_.getD (k31).toNat default)).bind fun y40=>bif (!y40) then some (.ex false) else some (.nx ())):Option (Fl Unit Bool))) s1_ 0 ()).bind fun o=>o.elim (fun x41=>some true) (fun r42=>some r42)
def FC_pattern_Same:Nat→GNode→GNode→Option Bool
 | 0,_,_=>none
 | n+1,a_,b_ =>
 grp ((decide (a_.Op=b_.Op)&&decide (a_.Min=b_.Min))) fun b7=>grp ((b7&&decide (a_.Max=b_.Max))) fun b8=>jn (α:=Bool) (bif b8 then (F_22 a_.Ranges b_.Ranges).bind fun y10=>some y10 else some false) fun j11=>jn (α:=Bool) (bif j11 then (FC_slices_EqualFunc_api_Node_api_Node_api_Node_api_Node_of_pattern_Same n a_.Kids b_.Kids).bind fun y13=>some y13 else some false) fun j14=>some j14
end
theorem CG_slices_EqualFunc_api_Node_api_Node_api_Node_api_Node_of_patt:∀n m,n≤m→(∀(s1_:List GNode) (s2_:List GNode),Le (FC_slices_EqualFunc_api_Node_api_Node_api_Node_api_Node_of_pattern_Same n s1_ s2_) (FR_19 m s1_ s2_))∧(∀(a_:GNode) (b_:GNode),Le (FC_pattern_Same n a_ b_) (FR_s m a_ b_))
 | 0,m,_=>by
  refine ⟨?_,?_⟩
  all_goals (intros;first|(simp only [FC_slices_EqualFunc_api_Node_api_Node_api_Node_api_Node_of_pattern_Same,FC_pattern_Same];exact Le.non))
 | n+1,0,h=>absurd h (by omega)
 | n+1,m+1,h=>by
  have ih:=CG_slices_EqualFunc_api_Node_api_Node_api_Node_api_Node_of_patt n m (by omega)
  obtain ⟨ih_slices_EqualFunc_api_Node_api_Node_api_Node_api_Node_of_pattern_Same,ih_pattern_Same⟩:=ih
  refine ⟨?_,?_⟩
  ·intros;simp only [FC_slices_EqualFunc_api_Node_api_Node_api_Node_api_Node_of_pattern_Same,FR_19];(repeat' (with_reducible first|exact Le.refl|assumption|(refine Le.bind ?_ fun _=>?_)|(refine Le.jn ?_ fun _=>?_)|(refine Le.grp fun _=>?_)|(refine Le.chk ?_)|(refine Le.cond ?_ ?_)|(refine Le.fl (fun _=>?_) fun _=>?_)|(refine Le.sum (fun _=>?_) fun _=>?_)|(refine Le.forL (fun _ _ _=>?_) _ _ _)|(refine Le.foldL (fun _ _ _=>?_) _ _ _)|(refine Le.loop fun _=>?_)|exact ih_slices_EqualFunc_api_Node_api_Node_api_Node_api_Node_of_pattern_Same _ _|exact ih_pattern_Same _ _))
  ·intros;simp only [FC_pattern_Same,FR_s];(repeat' (with_reducible first|exact Le.refl|assumption|(refine Le.bind ?_ fun _=>?_)|(refine Le.jn ?_ fun _=>?_)|(refine Le.grp fun _=>?_)|(refine Le.chk ?_)|(refine Le.cond ?_ ?_)|(refine Le.fl (fun _=>?_) fun _=>?_)|(refine Le.sum (fun _=>?_) fun _=>?_)|(refine Le.forL (fun _ _ _=>?_) _ _ _)|(refine Le.foldL (fun _ _ _=>?_) _ _ _)|(refine Le.loop fun _=>?_)|exact ih_slices_EqualFunc_api_Node_api_Node_api_Node_api_Node_of_pattern_Same _ _|exact ih_pattern_Same _ _))
def C_pattern_Same (a_:GNode) (b_:GNode):Option Bool:=FC_pattern_Same 400 a_ b_
theorem C_pattern_Same_le {a_:GNode} {b_:GNode}:Le (C_pattern_Same a_ b_) (F_s a_ b_):=Le.lim (n:=400) fun m hm=>(CG_slices_EqualFunc_api_Node_api_Node_api_Node_api_Node_of_patt 400 m hm).2 _ _
def C_law05_awake:Option Bool :=
 (C_pattern_Parse [40,97,98,124,99,41,123,50,125]).bind fun y2=>jn (α:=Bool) (bif decide (y2.2=0) then (C_pattern_Longest y2.1).bind fun y12=>some (decide (y12=4)) else some false) fun j13=>jn (α:=Bool) (bif j13 then (C_pattern_Shortest y2.1).bind fun y15=>some (decide (y15=2)) else some false) fun j16=>jn (α:=Bool) (bif j16 then F_23.bind fun y20=>(C_ref05_Word [97,98]).bind fun y21=>(C_pattern_Same y20 y21).bind fun y22=>some y22 else some false) fun j23=>some j23
theorem C_law05_awake_le:Le (C_law05_awake ) (F_1p ):=by
 unfold C_law05_awake F_1p
 (repeat' (with_reducible first|exact Le.refl|assumption|(refine Le.bind ?_ fun _=>?_)|(refine Le.jn ?_ fun _=>?_)|(refine Le.grp fun _=>?_)|(refine Le.chk ?_)|(refine Le.cond ?_ ?_)|(refine Le.fl (fun _=>?_) fun _=>?_)|(refine Le.sum (fun _=>?_) fun _=>?_)|(refine Le.forL (fun _ _ _=>?_) _ _ _)|(refine Le.foldL (fun _ _ _=>?_) _ _ _)|(refine Le.loop fun _=>?_)|exact C_pattern_Parse_le|exact C_pattern_Longest_le|exact C_pattern_Shortest_le|exact C_ref05_Word_le|exact C_pattern_Same_le))
theorem awake05:F_1p=some true:=C_law05_awake_le _ (by kernel_rfl)
end Go.Ab
