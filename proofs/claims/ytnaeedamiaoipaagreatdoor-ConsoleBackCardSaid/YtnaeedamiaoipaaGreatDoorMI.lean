/- What the functions of this seat that lie on the laws' road compute (part MI), each for every input. By AI agents. -/
import Derived.Test.YtnaeedamiaoipaaGreatDoorLC
import Derived.Test.YtnaeedamiaoipaaGreatDoorAbMir
set_option linter.all false
set_option linter.all false
set_option maxRecDepth 20000
set_option maxHeartbeats 2000000
namespace Go.Ab
open Go.Proofs
def C_slices_Clone_api_Command_api_Command (s_:List GCommand):Option (List GCommand) :=
 ambC s_.isEmpty (some []) (chk (room (([]:List GCommand).length+s_.length) 64) (some (([]:List GCommand)++s_)))
theorem C_slices_Clone_api_Command_api_Command_le {s_:List GCommand}:Le (C_slices_Clone_api_Command_api_Command s_) (F_1v s_):=by
 unfold C_slices_Clone_api_Command_api_Command F_1v
 (repeat' (with_reducible first|exact Le.refl|assumption|(refine Le.bind ?_ fun _=>?_)|(refine Le.jn ?_ fun _=>?_)|(refine Le.grp fun _=>?_)|(refine Le.chk ?_)|(refine Le.cond ?_ ?_)|(refine Le.fl (fun _=>?_) fun _=>?_)|(refine Le.sum (fun _=>?_) fun _=>?_)|(refine Le.forL (fun _ _ _=>?_) _ _ _)|(refine Le.foldL (fun _ _ _=>?_) _ _ _)|(refine Le.loop fun _=>?_)|(refine Le.perm fun _=>?_)|(refine Le.amb ?_)|exact Le.sort))
def C_slices_insertionSortCmpFunc_api_Command_of_console_Make_4_L1 (a_:Int) (x126:Int×(List GCommand)):Option (Fl (Int×(List GCommand)) (List GCommand)) :=
 bif decide (a_<x126.1) then chk (inb x126.1 x126.2.length) (chk (in64 (x126.1 - 1)) (chk (inb (x126.1 - 1) x126.2.length) ((F_2t (x126.2.getD ((x126.1).toNat) default) (x126.2.getD (((x126.1 - 1)).toNat) default)).bind fun y134=>bif decide (y134<0) then chk (in64 (x126.1 - 1)) (chk (in64 (x126.1 - 1)) (chk (inb (x126.1 - 1) x126.2.length) (chk (inb x126.1 x126.2.length) (chk (inb x126.1 x126.2.length) (chk (inb (x126.1 - 1) (x126.2.set ((x126.1).toNat) (x126.2.getD (((x126.1 - 1)).toNat) default)).length) (chk (in64 (x126.1 - 1)) (some (.nx ((x126.1 - 1),(x126.2.set ((x126.1).toNat) (x126.2.getD (((x126.1 - 1)).toNat) default)).set (((x126.1 - 1)).toNat) (x126.2.getD ((x126.1).toNat) default)))))))))) else some (.ex x126.2)))) else some (.ex x126.2)
theorem C_slices_insertionSortCmpFunc_api_Command_of_console_Make_4_L1_le  (a_:Int) (x126:Int×(List GCommand)):Le (C_slices_insertionSortCmpFunc_api_Command_of_console_Make_4_L1 a_ x126) (F_11 a_ x126):=by
 unfold C_slices_insertionSortCmpFunc_api_Command_of_console_Make_4_L1 F_11
 (repeat' (with_reducible first|exact Le.refl|assumption|(refine Le.bind ?_ fun _=>?_)|(refine Le.jn ?_ fun _=>?_)|(refine Le.grp fun _=>?_)|(refine Le.chk ?_)|(refine Le.cond ?_ ?_)|(refine Le.fl (fun _=>?_) fun _=>?_)|(refine Le.sum (fun _=>?_) fun _=>?_)|(refine Le.forL (fun _ _ _=>?_) _ _ _)|(refine Le.foldL (fun _ _ _=>?_) _ _ _)|(refine Le.loop fun _=>?_)|(refine Le.perm fun _=>?_)|(refine Le.amb ?_)|exact Le.sort))
def C_slices_insertionSortCmpFunc_api_Command_of_console_Make_4_L2 (a_:Int) (b_:Int) (x67:Int×(List GCommand)):Option (Fl (Int×(List GCommand)) (List GCommand)) :=
 bif decide (x67.1<b_) then (iter (C_slices_insertionSortCmpFunc_api_Command_of_console_Make_4_L1 a_) 100000 (x67.1,x67.2)).bind fun r135=>chk (in64 (x67.1+1)) (some (.nx ((x67.1+1),r135))) else some (.ex x67.2)
theorem C_slices_insertionSortCmpFunc_api_Command_of_console_Make_4_L2_le  (a_:Int) (b_:Int) (x67:Int×(List GCommand)):Le (C_slices_insertionSortCmpFunc_api_Command_of_console_Make_4_L2 a_ b_ x67) (F_12 a_ b_ x67):=by
 unfold C_slices_insertionSortCmpFunc_api_Command_of_console_Make_4_L2 F_12
 (repeat' (with_reducible first|exact Le.refl|assumption|(refine Le.bind ?_ fun _=>?_)|(refine Le.jn ?_ fun _=>?_)|(refine Le.grp fun _=>?_)|(refine Le.chk ?_)|(refine Le.cond ?_ ?_)|(refine Le.fl (fun _=>?_) fun _=>?_)|(refine Le.sum (fun _=>?_) fun _=>?_)|(refine Le.forL (fun _ _ _=>?_) _ _ _)|(refine Le.foldL (fun _ _ _=>?_) _ _ _)|(refine Le.loop fun _=>?_)|(refine Le.perm fun _=>?_)|(refine Le.amb ?_)|exact Le.sort|apply C_slices_insertionSortCmpFunc_api_Command_of_console_Make_4_L1_le))
def C_slices_insertionSortCmpFunc_api_Command_of_console_Make_4 (data_:List GCommand) (a_:Int) (b_:Int):Option (List GCommand) :=
 chk (in64 (a_+1)) ((iter (C_slices_insertionSortCmpFunc_api_Command_of_console_Make_4_L2 a_ b_) 100000 ((a_+1),data_)).bind fun r136=>some r136)
theorem C_slices_insertionSortCmpFunc_api_Command_of_console_Make_4_le {data_:List GCommand} {a_:Int} {b_:Int}:Le (C_slices_insertionSortCmpFunc_api_Command_of_console_Make_4 data_ a_ b_) (F_g data_ a_ b_):=by
 unfold C_slices_insertionSortCmpFunc_api_Command_of_console_Make_4 F_g
 (repeat' (with_reducible first|exact Le.refl|assumption|(refine Le.bind ?_ fun _=>?_)|(refine Le.jn ?_ fun _=>?_)|(refine Le.grp fun _=>?_)|(refine Le.chk ?_)|(refine Le.cond ?_ ?_)|(refine Le.fl (fun _=>?_) fun _=>?_)|(refine Le.sum (fun _=>?_) fun _=>?_)|(refine Le.forL (fun _ _ _=>?_) _ _ _)|(refine Le.foldL (fun _ _ _=>?_) _ _ _)|(refine Le.loop fun _=>?_)|(refine Le.perm fun _=>?_)|(refine Le.amb ?_)|exact Le.sort|apply C_slices_insertionSortCmpFunc_api_Command_of_console_Make_4_L1_le|apply C_slices_insertionSortCmpFunc_api_Command_of_console_Make_4_L2_le))
def C_slices_stableCmpFunc_api_Command_of_console_Make_4_L1 (n_:Int) (x17:Int×Int×(List GCommand)):Option (Fl (Int×Int×(List GCommand)) (Int×(List GCommand))) :=
 bif decide (x17.2.1≤n_) then (C_slices_insertionSortCmpFunc_api_Command_of_console_Make_4 x17.2.2 x17.1 x17.2.1).bind fun y21=>chk (in64 (x17.2.1+20)) (some (.nx (x17.2.1,(x17.2.1+20),y21))) else some (.ex (x17.1,x17.2.2))
theorem C_slices_stableCmpFunc_api_Command_of_console_Make_4_L1_le  (n_:Int) (x17:Int×Int×(List GCommand)):Le (C_slices_stableCmpFunc_api_Command_of_console_Make_4_L1 n_ x17) (F_m n_ x17):=by
 unfold C_slices_stableCmpFunc_api_Command_of_console_Make_4_L1 F_m
 (repeat' (with_reducible first|exact Le.refl|assumption|(refine Le.bind ?_ fun _=>?_)|(refine Le.jn ?_ fun _=>?_)|(refine Le.grp fun _=>?_)|(refine Le.chk ?_)|(refine Le.cond ?_ ?_)|(refine Le.fl (fun _=>?_) fun _=>?_)|(refine Le.sum (fun _=>?_) fun _=>?_)|(refine Le.forL (fun _ _ _=>?_) _ _ _)|(refine Le.foldL (fun _ _ _=>?_) _ _ _)|(refine Le.loop fun _=>?_)|(refine Le.perm fun _=>?_)|(refine Le.amb ?_)|exact Le.sort|exact C_slices_insertionSortCmpFunc_api_Command_of_console_Make_4_le))
def C_slices_stableCmpFunc_api_Command_of_console_Make_4_L2 (n_:Int) (x26:Unit):Option (Fl Unit Unit) :=
 bif decide (20<n_) then none else some (.ex ())
theorem C_slices_stableCmpFunc_api_Command_of_console_Make_4_L2_le  (n_:Int) (x26:Unit):Le (C_slices_stableCmpFunc_api_Command_of_console_Make_4_L2 n_ x26) (F_1w n_ x26):=by
 unfold C_slices_stableCmpFunc_api_Command_of_console_Make_4_L2 F_1w
 (repeat' (with_reducible first|exact Le.refl|assumption|(refine Le.bind ?_ fun _=>?_)|(refine Le.jn ?_ fun _=>?_)|(refine Le.grp fun _=>?_)|(refine Le.chk ?_)|(refine Le.cond ?_ ?_)|(refine Le.fl (fun _=>?_) fun _=>?_)|(refine Le.sum (fun _=>?_) fun _=>?_)|(refine Le.forL (fun _ _ _=>?_) _ _ _)|(refine Le.foldL (fun _ _ _=>?_) _ _ _)|(refine Le.loop fun _=>?_)|(refine Le.perm fun _=>?_)|(refine Le.amb ?_)|exact Le.sort|exact C_slices_insertionSortCmpFunc_api_Command_of_console_Make_4_le|apply C_slices_stableCmpFunc_api_Command_of_console_Make_4_L1_le))
def C_slices_stableCmpFunc_api_Command_of_console_Make_4 (data_:List GCommand) (n_:Int):Option (List GCommand) :=
 (iter (C_slices_stableCmpFunc_api_Command_of_console_Make_4_L1 n_) 100000 (0,20,data_)).bind fun r22=>(C_slices_insertionSortCmpFunc_api_Command_of_console_Make_4 r22.2 r22.1 n_).bind fun y24=>(iter (C_slices_stableCmpFunc_api_Command_of_console_Make_4_L2 n_) 100000 ()).bind fun r27=>some y24
theorem C_slices_stableCmpFunc_api_Command_of_console_Make_4_le {data_:List GCommand} {n_:Int}:Le (C_slices_stableCmpFunc_api_Command_of_console_Make_4 data_ n_) (F_n data_ n_):=by
 unfold C_slices_stableCmpFunc_api_Command_of_console_Make_4 F_n
 (repeat' (with_reducible first|exact Le.refl|assumption|(refine Le.bind ?_ fun _=>?_)|(refine Le.jn ?_ fun _=>?_)|(refine Le.grp fun _=>?_)|(refine Le.chk ?_)|(refine Le.cond ?_ ?_)|(refine Le.fl (fun _=>?_) fun _=>?_)|(refine Le.sum (fun _=>?_) fun _=>?_)|(refine Le.forL (fun _ _ _=>?_) _ _ _)|(refine Le.foldL (fun _ _ _=>?_) _ _ _)|(refine Le.loop fun _=>?_)|(refine Le.perm fun _=>?_)|(refine Le.amb ?_)|exact Le.sort|exact C_slices_insertionSortCmpFunc_api_Command_of_console_Make_4_le|apply C_slices_stableCmpFunc_api_Command_of_console_Make_4_L1_le|apply C_slices_stableCmpFunc_api_Command_of_console_Make_4_L2_le))
def C_slices_SortStableFunc_api_Command_api_Command_of_console_Make_4 (x_:List GCommand):Option (List GCommand) :=
 (C_slices_stableCmpFunc_api_Command_of_console_Make_4 x_ (x_.length:Int)).bind fun y1=>some y1
theorem C_slices_SortStableFunc_api_Command_api_Command_of_console_Make_4_le {x_:List GCommand}:Le (C_slices_SortStableFunc_api_Command_api_Command_of_console_Make_4 x_) (F_o x_):=by
 unfold C_slices_SortStableFunc_api_Command_api_Command_of_console_Make_4 F_o
 (repeat' (with_reducible first|exact Le.refl|assumption|(refine Le.bind ?_ fun _=>?_)|(refine Le.jn ?_ fun _=>?_)|(refine Le.grp fun _=>?_)|(refine Le.chk ?_)|(refine Le.cond ?_ ?_)|(refine Le.fl (fun _=>?_) fun _=>?_)|(refine Le.sum (fun _=>?_) fun _=>?_)|(refine Le.forL (fun _ _ _=>?_) _ _ _)|(refine Le.foldL (fun _ _ _=>?_) _ _ _)|(refine Le.loop fun _=>?_)|(refine Le.perm fun _=>?_)|(refine Le.amb ?_)|exact Le.sort|exact C_slices_stableCmpFunc_api_Command_of_console_Make_4_le))
def C_console_Make_L1 (y10:(List Int)×(List Str)) (k68:Int) (a69:GCommand) (x67:Int×(List GAccess)×(List Int)×(List GMember)):Option (Int×(List GAccess)×(List Int)×(List GMember)) :=
 (F_2u a69 y10.2 (GDirectory.mk x67.2.2.1 x67.2.2.2) (GEstate.mk x67.1 x67.2.1)).bind fun y73=>some (y73.2.Places,y73.2.Events,y73.1.Kinds,y73.1.Events)
theorem C_console_Make_L1_le  (y10:(List Int)×(List Str)) (k68:Int) (a69:GCommand) (x67:Int×(List GAccess)×(List Int)×(List GMember)):Le (C_console_Make_L1 y10 k68 a69 x67) (F_13 y10 k68 a69 x67):=by
 unfold C_console_Make_L1 F_13
 (repeat' (with_reducible first|exact Le.refl|assumption|(refine Le.bind ?_ fun _=>?_)|(refine Le.jn ?_ fun _=>?_)|(refine Le.grp fun _=>?_)|(refine Le.chk ?_)|(refine Le.cond ?_ ?_)|(refine Le.fl (fun _=>?_) fun _=>?_)|(refine Le.sum (fun _=>?_) fun _=>?_)|(refine Le.forL (fun _ _ _=>?_) _ _ _)|(refine Le.foldL (fun _ _ _=>?_) _ _ _)|(refine Le.loop fun _=>?_)|(refine Le.perm fun _=>?_)|(refine Le.amb ?_)|exact Le.sort|exact C_slices_Clone_api_Command_api_Command_le|exact C_slices_SortStableFunc_api_Command_api_Command_of_console_Make_4_le))
def C_console_Make (l_:List GCommand):Option (GDirectory×GEstate×(List Str)×Int) :=
 (F_k l_).bind fun y6=>bif (!decide (y6=0)) then (F_1 y6).bind fun y8=>some (y8.1,y8.2.1,y8.2.2.1,y8.2.2.2) else (F_2p l_).bind fun y10=>(valsF y10.2).bind fun y13=>(F_2q y10.2).bind fun y14=>(compactS y14).bind fun y26=>bif decide ((y26.1:Int)<(y10.2.length:Int)) then (F_1 7).bind fun y28=>some (y28.1,y28.2.1,y28.2.2.1,y28.2.2.2) else (F_2s l_ y10.2).bind fun y30=>bif y30 then (F_1 6).bind fun y32=>some (y32.1,y32.2.1,y32.2.2.1,y32.2.2.2) else bif decide (24<(y10.2.length:Int)) then (F_1 3).bind fun y34=>some (y34.1,y34.2.1,y34.2.2.1,y34.2.2.2) else (C_slices_Clone_api_Command_api_Command l_).bind fun y36=>(C_slices_SortStableFunc_api_Command_api_Command_of_console_Make_4 y36).bind fun y38=>(foldL (C_console_Make_L1 y10) y38 0 (16,[],y10.1,[])).bind fun x74=>(F_w (GDirectory.mk x74.2.2.1 x74.2.2.2)).bind fun y80=>bif (!decide (y80=0)) then (F_1 y80).bind fun y82=>some (y82.1,y82.2.1,y82.2.2.1,y82.2.2.2) else (F_e (GEstate.mk x74.1 x74.2.1)).bind fun y88=>bif (!decide (y88=0)) then (F_1 y88).bind fun y90=>some (y90.1,y90.2.1,y90.2.2.1,y90.2.2.2) else some ((GDirectory.mk x74.2.2.1 x74.2.2.2),(GEstate.mk x74.1 x74.2.1),y10.2,0)
theorem C_console_Make_le {l_:List GCommand}:Le (C_console_Make l_) (F_1x l_):=by
 unfold C_console_Make F_1x
 (repeat' (with_reducible first|exact Le.refl|assumption|(refine Le.bind ?_ fun _=>?_)|(refine Le.jn ?_ fun _=>?_)|(refine Le.grp fun _=>?_)|(refine Le.chk ?_)|(refine Le.cond ?_ ?_)|(refine Le.fl (fun _=>?_) fun _=>?_)|(refine Le.sum (fun _=>?_) fun _=>?_)|(refine Le.forL (fun _ _ _=>?_) _ _ _)|(refine Le.foldL (fun _ _ _=>?_) _ _ _)|(refine Le.loop fun _=>?_)|(refine Le.perm fun _=>?_)|(refine Le.amb ?_)|exact Le.sort|exact C_slices_Clone_api_Command_api_Command_le|exact C_slices_SortStableFunc_api_Command_api_Command_of_console_Make_4_le|apply C_console_Make_L1_le))
def C_directory_table_upward_L1 (k351:Int) (a352:Bool) (x350:(List Int)×(List Bool)):Option ((List Int)×(List Bool)) :=
 jn (α:=Bool) (bif a352 then chk (inb k351 x350.2.length) (some (!(x350.2.getD ((k351).toNat) default))) else some false) fun j360=>bif j360 then chk (room (x350.1.length+[k351].length) 8) (chk (inb k351 x350.2.length) (some ((x350.1++[k351]),x350.2.set ((k351).toNat) true))) else some (x350.1,x350.2)
theorem C_directory_table_upward_L1_le  (k351:Int) (a352:Bool) (x350:(List Int)×(List Bool)):Le (C_directory_table_upward_L1 k351 a352 x350) (F_29 k351 a352 x350):=by
 unfold C_directory_table_upward_L1 F_29
 (repeat' (with_reducible first|exact Le.refl|assumption|(refine Le.bind ?_ fun _=>?_)|(refine Le.jn ?_ fun _=>?_)|(refine Le.grp fun _=>?_)|(refine Le.chk ?_)|(refine Le.cond ?_ ?_)|(refine Le.fl (fun _=>?_) fun _=>?_)|(refine Le.sum (fun _=>?_) fun _=>?_)|(refine Le.forL (fun _ _ _=>?_) _ _ _)|(refine Le.foldL (fun _ _ _=>?_) _ _ _)|(refine Le.loop fun _=>?_)|(refine Le.perm fun _=>?_)|(refine Le.amb ?_)|exact Le.sort))
def C_directory_table_upward_L2 (x_:List (List Bool)) (x257:(List Int)×(List Bool)):Option (Fl ((List Int)×(List Bool)) (List Bool)) :=
 bif decide (0<(x257.1.length:Int)) then chk (inb 0 x257.1.length) (chk (inb (x257.1.getD 0 default) x_.length) ((foldL C_directory_table_upward_L1 (x_.getD (x257.1.getD 0 default).toNat default) 0 (x257.1,x257.2)).bind fun x361=>chk (inc 1 (x361.1.length:Int) x361.1.length) (some (.nx ((x361.1.drop 1).take (x361.1.length - 1),x361.2))))) else some (.ex x257.2)
theorem C_directory_table_upward_L2_le  (x_:List (List Bool)) (x257:(List Int)×(List Bool)):Le (C_directory_table_upward_L2 x_ x257) (F_2a x_ x257):=by
 unfold C_directory_table_upward_L2 F_2a
 (repeat' (with_reducible first|exact Le.refl|assumption|(refine Le.bind ?_ fun _=>?_)|(refine Le.jn ?_ fun _=>?_)|(refine Le.grp fun _=>?_)|(refine Le.chk ?_)|(refine Le.cond ?_ ?_)|(refine Le.fl (fun _=>?_) fun _=>?_)|(refine Le.sum (fun _=>?_) fun _=>?_)|(refine Le.forL (fun _ _ _=>?_) _ _ _)|(refine Le.foldL (fun _ _ _=>?_) _ _ _)|(refine Le.loop fun _=>?_)|(refine Le.perm fun _=>?_)|(refine Le.amb ?_)|exact Le.sort|apply C_directory_table_upward_L1_le))
def C_directory_table_upward (x_:List (List Bool)) (p_:Int):Option (List Bool) :=
 chk (roomI (x_.length:Int) (x_.length:Int) 1) (chk (inb p_ (List.replicate ((x_.length:Int)).toNat false).length) ((iter (C_directory_table_upward_L2 x_) 100000 ([p_],(List.replicate ((x_.length:Int)).toNat false).set ((p_).toNat) true)).bind fun r362=>some r362))
theorem C_directory_table_upward_le {x_:List (List Bool)} {p_:Int}:Le (C_directory_table_upward x_ p_) (F_1f x_ p_):=by
 unfold C_directory_table_upward F_1f
 (repeat' (with_reducible first|exact Le.refl|assumption|(refine Le.bind ?_ fun _=>?_)|(refine Le.jn ?_ fun _=>?_)|(refine Le.grp fun _=>?_)|(refine Le.chk ?_)|(refine Le.cond ?_ ?_)|(refine Le.fl (fun _=>?_) fun _=>?_)|(refine Le.sum (fun _=>?_) fun _=>?_)|(refine Le.forL (fun _ _ _=>?_) _ _ _)|(refine Le.foldL (fun _ _ _=>?_) _ _ _)|(refine Le.loop fun _=>?_)|(refine Le.perm fun _=>?_)|(refine Le.amb ?_)|exact Le.sort|apply C_directory_table_upward_L1_le|apply C_directory_table_upward_L2_le))
def C_directory_Upward (d_:GDirectory) (p_:Int) (t_:Int):Option (List Int) :=
 (F_28 d_ p_).bind fun y4=>bif (!y4) then some [] else (atF d_.Kinds.length (d_.Events.map fun e=>(e.Time,e.Kind,e.Principal,e.Group)) t_).bind fun y8=>(C_directory_table_upward y8 p_).bind fun y9=>(F_2b y9).bind fun y10=>some y10
theorem C_directory_Upward_le {d_:GDirectory} {p_:Int} {t_:Int}:Le (C_directory_Upward d_ p_ t_) (F_1g d_ p_ t_):=by
 unfold C_directory_Upward F_1g
 (repeat' (with_reducible first|exact Le.refl|assumption|(refine Le.bind ?_ fun _=>?_)|(refine Le.jn ?_ fun _=>?_)|(refine Le.grp fun _=>?_)|(refine Le.chk ?_)|(refine Le.cond ?_ ?_)|(refine Le.fl (fun _=>?_) fun _=>?_)|(refine Le.sum (fun _=>?_) fun _=>?_)|(refine Le.forL (fun _ _ _=>?_) _ _ _)|(refine Le.foldL (fun _ _ _=>?_) _ _ _)|(refine Le.loop fun _=>?_)|(refine Le.perm fun _=>?_)|(refine Le.amb ?_)|exact Le.sort|exact C_directory_table_upward_le))
def C_access_Granted_L1 (k21:Int) (a19:Int×Int) (x18:List Int):Option (List Int) :=
 chk (room (x18.length+[a19.1].length) 8) (some (x18++[a19.1]))
theorem C_access_Granted_L1_le  (k21:Int) (a19:Int×Int) (x18:List Int):Le (C_access_Granted_L1 k21 a19 x18) (F_1h k21 a19 x18):=by
 unfold C_access_Granted_L1 F_1h
 (repeat' (with_reducible first|exact Le.refl|assumption|(refine Le.bind ?_ fun _=>?_)|(refine Le.jn ?_ fun _=>?_)|(refine Le.grp fun _=>?_)|(refine Le.chk ?_)|(refine Le.cond ?_ ?_)|(refine Le.fl (fun _=>?_) fun _=>?_)|(refine Le.sum (fun _=>?_) fun _=>?_)|(refine Le.forL (fun _ _ _=>?_) _ _ _)|(refine Le.foldL (fun _ _ _=>?_) _ _ _)|(refine Le.loop fun _=>?_)|(refine Le.perm fun _=>?_)|(refine Le.amb ?_)|exact Le.sort))
def C_access_Granted (a_:GEstate) (place_:Int) (t_:Int):Option (List Int) :=
 (F_1e a_ place_).bind fun y4=>bif (!y4) then some [] else (F_2c a_ place_ t_).bind fun y15=>permC (fun l20=>(foldL C_access_Granted_L1 l20 0 []).bind fun x22=>(sortIC x22).bind fun y24=>some y24) y15
theorem C_access_Granted_le {a_:GEstate} {place_:Int} {t_:Int}:Le (C_access_Granted a_ place_ t_) (F_1i a_ place_ t_):=by
 unfold C_access_Granted F_1i
 (repeat' (with_reducible first|exact Le.refl|assumption|(refine Le.bind ?_ fun _=>?_)|(refine Le.jn ?_ fun _=>?_)|(refine Le.grp fun _=>?_)|(refine Le.chk ?_)|(refine Le.cond ?_ ?_)|(refine Le.fl (fun _=>?_) fun _=>?_)|(refine Le.sum (fun _=>?_) fun _=>?_)|(refine Le.forL (fun _ _ _=>?_) _ _ _)|(refine Le.foldL (fun _ _ _=>?_) _ _ _)|(refine Le.loop fun _=>?_)|(refine Le.perm fun _=>?_)|(refine Le.amb ?_)|exact Le.sort|apply C_access_Granted_L1_le))
def C_readers_grant_L1 (y2:List Int) (k37:Int) (a38:Int) (x36:Unit):Option (Fl Unit (Int×Bool)) :=
 (F_2d y2 a38).bind fun y46=>bif y46 then some (.ex (a38,true)) else some (.nx ())
theorem C_readers_grant_L1_le  (y2:List Int) (k37:Int) (a38:Int) (x36:Unit):Le (C_readers_grant_L1 y2 k37 a38 x36) (F_2e y2 k37 a38 x36):=by
 unfold C_readers_grant_L1 F_2e
 (repeat' (with_reducible first|exact Le.refl|assumption|(refine Le.bind ?_ fun _=>?_)|(refine Le.jn ?_ fun _=>?_)|(refine Le.grp fun _=>?_)|(refine Le.chk ?_)|(refine Le.cond ?_ ?_)|(refine Le.fl (fun _=>?_) fun _=>?_)|(refine Le.sum (fun _=>?_) fun _=>?_)|(refine Le.forL (fun _ _ _=>?_) _ _ _)|(refine Le.foldL (fun _ _ _=>?_) _ _ _)|(refine Le.loop fun _=>?_)|(refine Le.perm fun _=>?_)|(refine Le.amb ?_)|exact Le.sort|exact C_directory_Upward_le|exact C_access_Granted_le))
def C_readers_grant (d_:GDirectory) (a_:GEstate) (p_:Int) (place_:Int) (t_:Int):Option (Int×Bool) :=
 (C_directory_Upward d_ p_ t_).bind fun y2=>(C_access_Granted a_ place_ t_).bind fun y25=>(forL (C_readers_grant_L1 y2) y25 0 ()).bind fun o=>o.elim (fun x47=>some (0,false)) (fun r48=>some r48)
theorem C_readers_grant_le {d_:GDirectory} {a_:GEstate} {p_:Int} {place_:Int} {t_:Int}:Le (C_readers_grant d_ a_ p_ place_ t_) (F_1j d_ a_ p_ place_ t_):=by
 unfold C_readers_grant F_1j
 (repeat' (with_reducible first|exact Le.refl|assumption|(refine Le.bind ?_ fun _=>?_)|(refine Le.jn ?_ fun _=>?_)|(refine Le.grp fun _=>?_)|(refine Le.chk ?_)|(refine Le.cond ?_ ?_)|(refine Le.fl (fun _=>?_) fun _=>?_)|(refine Le.sum (fun _=>?_) fun _=>?_)|(refine Le.forL (fun _ _ _=>?_) _ _ _)|(refine Le.foldL (fun _ _ _=>?_) _ _ _)|(refine Le.loop fun _=>?_)|(refine Le.perm fun _=>?_)|(refine Le.amb ?_)|exact Le.sort|exact C_directory_Upward_le|exact C_access_Granted_le|apply C_readers_grant_L1_le))
def C_readers_May (d_:GDirectory) (a_:GEstate) (p_:Int) (place_:Int) (t_:Int):Option Bool :=
 (F_27 d_ a_ p_ place_).bind fun y4=>bif (!y4) then some false else (F_f a_ place_ t_).bind fun y6=>(C_readers_grant d_ a_ p_ place_ t_).bind fun y8=>grp ((y6.2||y8.2)) fun b10=>some b10
theorem C_readers_May_le {d_:GDirectory} {a_:GEstate} {p_:Int} {place_:Int} {t_:Int}:Le (C_readers_May d_ a_ p_ place_ t_) (F_z d_ a_ p_ place_ t_):=by
 unfold C_readers_May F_z
 (repeat' (with_reducible first|exact Le.refl|assumption|(refine Le.bind ?_ fun _=>?_)|(refine Le.jn ?_ fun _=>?_)|(refine Le.grp fun _=>?_)|(refine Le.chk ?_)|(refine Le.cond ?_ ?_)|(refine Le.fl (fun _=>?_) fun _=>?_)|(refine Le.sum (fun _=>?_) fun _=>?_)|(refine Le.forL (fun _ _ _=>?_) _ _ _)|(refine Le.foldL (fun _ _ _=>?_) _ _ _)|(refine Le.loop fun _=>?_)|(refine Le.perm fun _=>?_)|(refine Le.amb ?_)|exact Le.sort|exact C_readers_grant_le))
def C_readers_Who_L1 (d_:GDirectory) (a_:GEstate) (place_:Int) (t_:Int) (k54:Int) (a55:Int) (x53:Bool×(List Int)):Option (Bool×(List Int)) :=
 (C_readers_May d_ a_ k54 place_ t_).bind fun y63=>bif y63 then chk (room (x53.2.length+[k54].length) 8) (some (x53.1,(x53.2++[k54]))) else some (x53.1,x53.2)
theorem C_readers_Who_L1_le  (d_:GDirectory) (a_:GEstate) (place_:Int) (t_:Int) (k54:Int) (a55:Int) (x53:Bool×(List Int)):Le (C_readers_Who_L1 d_ a_ place_ t_ k54 a55 x53) (F_2f d_ a_ place_ t_ k54 a55 x53):=by
 unfold C_readers_Who_L1 F_2f
 (repeat' (with_reducible first|exact Le.refl|assumption|(refine Le.bind ?_ fun _=>?_)|(refine Le.jn ?_ fun _=>?_)|(refine Le.grp fun _=>?_)|(refine Le.chk ?_)|(refine Le.cond ?_ ?_)|(refine Le.fl (fun _=>?_) fun _=>?_)|(refine Le.sum (fun _=>?_) fun _=>?_)|(refine Le.forL (fun _ _ _=>?_) _ _ _)|(refine Le.foldL (fun _ _ _=>?_) _ _ _)|(refine Le.loop fun _=>?_)|(refine Le.perm fun _=>?_)|(refine Le.amb ?_)|exact Le.sort|exact C_readers_May_le))
def C_readers_Who (d_:GDirectory) (a_:GEstate) (place_:Int) (t_:Int):Option (GAudience×Int) :=
 (F_y d_ a_).bind fun y4=>bif (!decide (y4=0)) then some ((GAudience.mk false []),y4) else (F_d a_ place_).bind fun y8=>bif (!y8) then some ((GAudience.mk false []),6) else (F_f a_ place_ t_).bind fun y10=>(foldL (C_readers_Who_L1 d_ a_ place_ t_) d_.Kinds 0 (y10.2,[])).bind fun x64=>some ((GAudience.mk x64.1 x64.2),0)
theorem C_readers_Who_le {d_:GDirectory} {a_:GEstate} {place_:Int} {t_:Int}:Le (C_readers_Who d_ a_ place_ t_) (F_1k d_ a_ place_ t_):=by
 unfold C_readers_Who F_1k
 (repeat' (with_reducible first|exact Le.refl|assumption|(refine Le.bind ?_ fun _=>?_)|(refine Le.jn ?_ fun _=>?_)|(refine Le.grp fun _=>?_)|(refine Le.chk ?_)|(refine Le.cond ?_ ?_)|(refine Le.fl (fun _=>?_) fun _=>?_)|(refine Le.sum (fun _=>?_) fun _=>?_)|(refine Le.forL (fun _ _ _=>?_) _ _ _)|(refine Le.foldL (fun _ _ _=>?_) _ _ _)|(refine Le.loop fun _=>?_)|(refine Le.perm fun _=>?_)|(refine Le.amb ?_)|exact Le.sort|exact C_readers_May_le|apply C_readers_Who_L1_le))
def C_console_who_L1 (names_:List Str) (k19:Int) (a20:Int) (x18:Str):Option Str :=
 chk (inb a20 names_.length) (chk (strl ([32].length+(names_.getD (a20).toNat default).length)) (chk (strl (x18.length+(([32]:Str)++(names_.getD (a20).toNat default)).length)) (some (x18++(([32]:Str)++(names_.getD (a20).toNat default))))))
theorem C_console_who_L1_le  (names_:List Str) (k19:Int) (a20:Int) (x18:Str):Le (C_console_who_L1 names_ k19 a20 x18) (F_2v names_ k19 a20 x18):=by
 unfold C_console_who_L1 F_2v
 (repeat' (with_reducible first|exact Le.refl|assumption|(refine Le.bind ?_ fun _=>?_)|(refine Le.jn ?_ fun _=>?_)|(refine Le.grp fun _=>?_)|(refine Le.chk ?_)|(refine Le.cond ?_ ?_)|(refine Le.fl (fun _=>?_) fun _=>?_)|(refine Le.sum (fun _=>?_) fun _=>?_)|(refine Le.forL (fun _ _ _=>?_) _ _ _)|(refine Le.foldL (fun _ _ _=>?_) _ _ _)|(refine Le.loop fun _=>?_)|(refine Le.perm fun _=>?_)|(refine Le.amb ?_)|exact Le.sort|exact C_readers_Who_le))
def C_console_who (c_:GCommand) (d_:GDirectory) (a_:GEstate) (names_:List Str):Option Str :=
 (C_readers_Who d_ a_ c_.A c_.Time).bind fun y2=>jn (α:=Str) (bif y2.1.Public then some [112,117,98,108,105,99] else some [105,110,115,105,100,101]) fun j3=>(foldL (C_console_who_L1 names_) y2.1.Principals 0 j3).bind fun x21=>some x21
theorem C_console_who_le {c_:GCommand} {d_:GDirectory} {a_:GEstate} {names_:List Str}:Le (C_console_who c_ d_ a_ names_) (F_1y c_ d_ a_ names_):=by
 unfold C_console_who F_1y
 (repeat' (with_reducible first|exact Le.refl|assumption|(refine Le.bind ?_ fun _=>?_)|(refine Le.jn ?_ fun _=>?_)|(refine Le.grp fun _=>?_)|(refine Le.chk ?_)|(refine Le.cond ?_ ?_)|(refine Le.fl (fun _=>?_) fun _=>?_)|(refine Le.sum (fun _=>?_) fun _=>?_)|(refine Le.forL (fun _ _ _=>?_) _ _ _)|(refine Le.foldL (fun _ _ _=>?_) _ _ _)|(refine Le.loop fun _=>?_)|(refine Le.perm fun _=>?_)|(refine Le.amb ?_)|exact Le.sort|exact C_readers_Who_le|apply C_console_who_L1_le))
def C_exposure_times_L1 (k18:Int) (a19:GMember) (x17:List Int):Option (List Int) :=
 chk (room (x17.length+[a19.Time].length) 8) (some (x17++[a19.Time]))
theorem C_exposure_times_L1_le  (k18:Int) (a19:GMember) (x17:List Int):Le (C_exposure_times_L1 k18 a19 x17) (F_10 k18 a19 x17):=by
 unfold C_exposure_times_L1 F_10
 (repeat' (with_reducible first|exact Le.refl|assumption|(refine Le.bind ?_ fun _=>?_)|(refine Le.jn ?_ fun _=>?_)|(refine Le.grp fun _=>?_)|(refine Le.chk ?_)|(refine Le.cond ?_ ?_)|(refine Le.fl (fun _=>?_) fun _=>?_)|(refine Le.sum (fun _=>?_) fun _=>?_)|(refine Le.forL (fun _ _ _=>?_) _ _ _)|(refine Le.foldL (fun _ _ _=>?_) _ _ _)|(refine Le.loop fun _=>?_)|(refine Le.perm fun _=>?_)|(refine Le.amb ?_)|exact Le.sort))
def C_exposure_times (d_:GDirectory) (a_:GEstate):Option (List Int) :=
 (F_2i a_).bind fun y2=>(foldL C_exposure_times_L1 d_.Events 0 y2).bind fun x20=>(sortIC x20).bind fun y22=>(compactI y22).bind fun y24=>some ((y24.2.drop 0).take y24.1)
theorem C_exposure_times_le {d_:GDirectory} {a_:GEstate}:Le (C_exposure_times d_ a_) (F_1l d_ a_):=by
 unfold C_exposure_times F_1l
 (repeat' (with_reducible first|exact Le.refl|assumption|(refine Le.bind ?_ fun _=>?_)|(refine Le.jn ?_ fun _=>?_)|(refine Le.grp fun _=>?_)|(refine Le.chk ?_)|(refine Le.cond ?_ ?_)|(refine Le.fl (fun _=>?_) fun _=>?_)|(refine Le.sum (fun _=>?_) fun _=>?_)|(refine Le.forL (fun _ _ _=>?_) _ _ _)|(refine Le.foldL (fun _ _ _=>?_) _ _ _)|(refine Le.loop fun _=>?_)|(refine Le.perm fun _=>?_)|(refine Le.amb ?_)|exact Le.sort|apply C_exposure_times_L1_le))
def C_exposure_place_L1 (d_:GDirectory) (a_:GEstate) (p_:Int) (t_:Int) (k75:Int) (a76:Int) (x74:Unit):Option (Fl Unit (Int×Bool)) :=
 (F_f a_ a76 t_).bind fun y96=>grp ((decide (p_=(-1))&&y96.2)) fun b99=>bif b99 then some (.ex (a76,true)) else bif (!decide (p_=(-1))) then (C_readers_May d_ a_ p_ a76 t_).bind fun y100=>bif y100 then some (.ex (a76,true)) else some (.nx ()) else some (.nx ())
theorem C_exposure_place_L1_le  (d_:GDirectory) (a_:GEstate) (p_:Int) (t_:Int) (k75:Int) (a76:Int) (x74:Unit):Le (C_exposure_place_L1 d_ a_ p_ t_ k75 a76 x74) (F_2l d_ a_ p_ t_ k75 a76 x74):=by
 unfold C_exposure_place_L1 F_2l
 (repeat' (with_reducible first|exact Le.refl|assumption|(refine Le.bind ?_ fun _=>?_)|(refine Le.jn ?_ fun _=>?_)|(refine Le.grp fun _=>?_)|(refine Le.chk ?_)|(refine Le.cond ?_ ?_)|(refine Le.fl (fun _=>?_) fun _=>?_)|(refine Le.sum (fun _=>?_) fun _=>?_)|(refine Le.forL (fun _ _ _=>?_) _ _ _)|(refine Le.foldL (fun _ _ _=>?_) _ _ _)|(refine Le.loop fun _=>?_)|(refine Le.perm fun _=>?_)|(refine Le.amb ?_)|exact Le.sort|exact C_readers_May_le))
def C_exposure_place (d_:GDirectory) (a_:GEstate) (content_:Int) (p_:Int) (t_:Int):Option (Int×Bool) :=
 (F_2k a_ content_ t_).bind fun y47=>(forL (C_exposure_place_L1 d_ a_ p_ t_) y47 0 ()).bind fun o=>o.elim (fun x101=>some (0,false)) (fun r102=>some r102)
theorem C_exposure_place_le {d_:GDirectory} {a_:GEstate} {content_:Int} {p_:Int} {t_:Int}:Le (C_exposure_place d_ a_ content_ p_ t_) (F_1o d_ a_ content_ p_ t_):=by
 unfold C_exposure_place F_1o
 (repeat' (with_reducible first|exact Le.refl|assumption|(refine Le.bind ?_ fun _=>?_)|(refine Le.jn ?_ fun _=>?_)|(refine Le.grp fun _=>?_)|(refine Le.chk ?_)|(refine Le.cond ?_ ?_)|(refine Le.fl (fun _=>?_) fun _=>?_)|(refine Le.sum (fun _=>?_) fun _=>?_)|(refine Le.forL (fun _ _ _=>?_) _ _ _)|(refine Le.foldL (fun _ _ _=>?_) _ _ _)|(refine Le.loop fun _=>?_)|(refine Le.perm fun _=>?_)|(refine Le.amb ?_)|exact Le.sort|exact C_readers_May_le|apply C_exposure_place_L1_le))
def C_exposure_since_L1 (d_:GDirectory) (a_:GEstate) (content_:Int) (p_:Int) (k35:Int) (a36:Int) (x34:Unit):Option (Fl Unit (Int×Bool)) :=
 (C_exposure_place d_ a_ content_ p_ a36).bind fun y44=>bif y44.2 then some (.ex (a36,true)) else some (.nx ())
theorem C_exposure_since_L1_le  (d_:GDirectory) (a_:GEstate) (content_:Int) (p_:Int) (k35:Int) (a36:Int) (x34:Unit):Le (C_exposure_since_L1 d_ a_ content_ p_ k35 a36 x34) (F_2m d_ a_ content_ p_ k35 a36 x34):=by
 unfold C_exposure_since_L1 F_2m
 (repeat' (with_reducible first|exact Le.refl|assumption|(refine Le.bind ?_ fun _=>?_)|(refine Le.jn ?_ fun _=>?_)|(refine Le.grp fun _=>?_)|(refine Le.chk ?_)|(refine Le.cond ?_ ?_)|(refine Le.fl (fun _=>?_) fun _=>?_)|(refine Le.sum (fun _=>?_) fun _=>?_)|(refine Le.forL (fun _ _ _=>?_) _ _ _)|(refine Le.foldL (fun _ _ _=>?_) _ _ _)|(refine Le.loop fun _=>?_)|(refine Le.perm fun _=>?_)|(refine Le.amb ?_)|exact Le.sort|exact C_exposure_times_le|exact C_exposure_place_le))
def C_exposure_since (d_:GDirectory) (a_:GEstate) (content_:Int) (p_:Int):Option (Int×Bool) :=
 (C_exposure_times d_ a_).bind fun y23=>(forL (C_exposure_since_L1 d_ a_ content_ p_) y23 0 ()).bind fun o=>o.elim (fun x45=>some (0,false)) (fun r46=>some r46)
theorem C_exposure_since_le {d_:GDirectory} {a_:GEstate} {content_:Int} {p_:Int}:Le (C_exposure_since d_ a_ content_ p_) (F_1p d_ a_ content_ p_):=by
 unfold C_exposure_since F_1p
 (repeat' (with_reducible first|exact Le.refl|assumption|(refine Le.bind ?_ fun _=>?_)|(refine Le.jn ?_ fun _=>?_)|(refine Le.grp fun _=>?_)|(refine Le.chk ?_)|(refine Le.cond ?_ ?_)|(refine Le.fl (fun _=>?_) fun _=>?_)|(refine Le.sum (fun _=>?_) fun _=>?_)|(refine Le.forL (fun _ _ _=>?_) _ _ _)|(refine Le.foldL (fun _ _ _=>?_) _ _ _)|(refine Le.loop fun _=>?_)|(refine Le.perm fun _=>?_)|(refine Le.amb ?_)|exact Le.sort|exact C_exposure_times_le|exact C_exposure_place_le|apply C_exposure_since_L1_le))
def C_exposure_Since (d_:GDirectory) (a_:GEstate) (content_:Int) (p_:Int):Option (Int×Bool) :=
 (F_2g d_ a_ content_).bind fun y4=>bif (!decide (y4=0)) then some (0,false) else (C_exposure_since d_ a_ content_ p_).bind fun y6=>some (y6.1,y6.2)
theorem C_exposure_Since_le {d_:GDirectory} {a_:GEstate} {content_:Int} {p_:Int}:Le (C_exposure_Since d_ a_ content_ p_) (F_1q d_ a_ content_ p_):=by
 unfold C_exposure_Since F_1q
 (repeat' (with_reducible first|exact Le.refl|assumption|(refine Le.bind ?_ fun _=>?_)|(refine Le.jn ?_ fun _=>?_)|(refine Le.grp fun _=>?_)|(refine Le.chk ?_)|(refine Le.cond ?_ ?_)|(refine Le.fl (fun _=>?_) fun _=>?_)|(refine Le.sum (fun _=>?_) fun _=>?_)|(refine Le.forL (fun _ _ _=>?_) _ _ _)|(refine Le.foldL (fun _ _ _=>?_) _ _ _)|(refine Le.loop fun _=>?_)|(refine Le.perm fun _=>?_)|(refine Le.amb ?_)|exact Le.sort|exact C_exposure_since_le))
def C_console_Run_L1 (y2:GDirectory×GEstate×(List Str)×Int) (k144:Int) (a145:GCommand) (x143:List UInt8):Option (List UInt8) :=
 bif decide (a145.Kind=10) then (C_console_who a145 y2.1 y2.2.1 y2.2.2.1).bind fun y173=>chk (strl (y173.length+[10].length)) ((bws x143 (y173++[10])).bind fun y174=>some y174) else bif decide (a145.Kind=11) then jn (α:=Str) ((F_l y2.2.2.1 a145.Name).bind fun y183=>(C_exposure_Since y2.1 y2.2.1 a145.A y183).bind fun y184=>bif y184.2 then (itoaI y184.1).bind fun y185=>some y185 else some [110,101,118,101,114]) fun j180=>chk (strl (j180.length+[10].length)) ((bws x143 (j180++[10])).bind fun y186=>some y186) else some x143
theorem C_console_Run_L1_le  (y2:GDirectory×GEstate×(List Str)×Int) (k144:Int) (a145:GCommand) (x143:List UInt8):Le (C_console_Run_L1 y2 k144 a145 x143) (F_14 y2 k144 a145 x143):=by
 unfold C_console_Run_L1 F_14
 (repeat' (with_reducible first|exact Le.refl|assumption|(refine Le.bind ?_ fun _=>?_)|(refine Le.jn ?_ fun _=>?_)|(refine Le.grp fun _=>?_)|(refine Le.chk ?_)|(refine Le.cond ?_ ?_)|(refine Le.fl (fun _=>?_) fun _=>?_)|(refine Le.sum (fun _=>?_) fun _=>?_)|(refine Le.forL (fun _ _ _=>?_) _ _ _)|(refine Le.foldL (fun _ _ _=>?_) _ _ _)|(refine Le.loop fun _=>?_)|(refine Le.perm fun _=>?_)|(refine Le.amb ?_)|exact Le.sort|exact C_console_Make_le|exact C_console_who_le|exact C_exposure_Since_le))
def C_console_Run (l_:List GCommand):Option (Str×Int) :=
 (C_console_Make l_).bind fun y2=>bif (!decide (y2.2.2.2=0)) then some ([],y2.2.2.2) else (foldL (C_console_Run_L1 y2) l_ 0 ([]:Str)).bind fun x187=>(bstr x187).bind fun y189=>some (y189,0)
theorem C_console_Run_le {l_:List GCommand}:Le (C_console_Run l_) (F_1z l_):=by
 unfold C_console_Run F_1z
 (repeat' (with_reducible first|exact Le.refl|assumption|(refine Le.bind ?_ fun _=>?_)|(refine Le.jn ?_ fun _=>?_)|(refine Le.grp fun _=>?_)|(refine Le.chk ?_)|(refine Le.cond ?_ ?_)|(refine Le.fl (fun _=>?_) fun _=>?_)|(refine Le.sum (fun _=>?_) fun _=>?_)|(refine Le.forL (fun _ _ _=>?_) _ _ _)|(refine Le.foldL (fun _ _ _=>?_) _ _ _)|(refine Le.loop fun _=>?_)|(refine Le.perm fun _=>?_)|(refine Le.amb ?_)|exact Le.sort|exact C_console_Make_le|exact C_console_who_le|exact C_exposure_Since_le|apply C_console_Run_L1_le))
def C_law44_awake:Option Bool :=
 (F_2 [112,101,114,115,111,110,32,97,110,110,10,97,108,108,111,119,32,51,32,97,110,110,32,48,10,112,117,116,32,53,32,55,32,48,10,115,105,110,99,101,32,55,32,97,110,110,10,119,104,111,32,52,32,48,10]).bind fun y2=>(C_console_Run y2.1).bind fun y4=>grp ((decide (y2.2.2=0)&&decide ((y2.1.length:Int)=5))) fun b8=>grp ((b8&&decide (y4.2=0))) fun b9=>grp ((b9&&decide (y4.1=[53,10,105,110,115,105,100,101,32,97,110,110,10]))) fun b10=>some b10
theorem C_law44_awake_le:Le (C_law44_awake ) (F_p ):=by
 unfold C_law44_awake F_p
 (repeat' (with_reducible first|exact Le.refl|assumption|(refine Le.bind ?_ fun _=>?_)|(refine Le.jn ?_ fun _=>?_)|(refine Le.grp fun _=>?_)|(refine Le.chk ?_)|(refine Le.cond ?_ ?_)|(refine Le.fl (fun _=>?_) fun _=>?_)|(refine Le.sum (fun _=>?_) fun _=>?_)|(refine Le.forL (fun _ _ _=>?_) _ _ _)|(refine Le.foldL (fun _ _ _=>?_) _ _ _)|(refine Le.loop fun _=>?_)|(refine Le.perm fun _=>?_)|(refine Le.amb ?_)|exact Le.sort|exact C_console_Run_le))
theorem awake44:F_p=some true:=C_law44_awake_le _ (by kernel_rfl)
end Go.Ab
