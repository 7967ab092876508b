/- The abstract layer, part 20: reads of known rows, without witnesses. -/
import Derived.Test.YtnaeedamiaoipaaGreatDoorAbLib
set_option linter.all false
set_option linter.unusedVariables false
namespace Go.Ab
open Go.RowKit
theorem getD_lt {α:Type} {l:List α} {i:Nat} {d:α} (h:i<l.length):l[i]?=some (l.getD i d):=by simp [h]
theorem sIad_map {α:Type} [Inhabited α] {k:Nat} {f:α→V} {l:List α} {kk:IntKind} {n:Int} {K L:V→Prop} :
  sIad k (.sl (l.map f)) (.int kk n) K L=((0≤n∧n<l.length)∧(f (l.getD n.toNat default)).cells.length=k∧L (.eptr (f (l.getD n.toNat default)) 0)):=by
 refine propext ⟨fun ⟨h0,y,h1,h2,h3⟩=>?_,fun ⟨⟨h0,h1⟩,h2,h3⟩=>⟨h0,_,?_,h2,h3⟩⟩
 ·rw [List.getElem?_map] at h1
  cases hl:l[n.toNat]? with
  | none=>rw [hl] at h1;cases h1
  | some a =>
   rw [hl] at h1;cases h1
   have hlt:=(List.getElem?_eq_some_iff.1 hl).1
   have e:l.getD n.toNat default=a:=by simp [List.getD,hl]
   rw [e];exact ⟨⟨h0,by omega⟩,h2,h3⟩
 ·rw [List.getElem?_map,getD_lt (by omega)];rfl
theorem sIad_osl {id k k' lo m:Nat} {kk:IntKind} {n:Int} {K L:V→Prop}:sIad k (.osl id k' lo m) (.int kk n) K L=bif Nat.beq k k' then (0≤n∧n<m)∧K (.optr id k (lo+n.toNat) 0) else False:=rfl
theorem ex_map {α:Type} [Inhabited α] {f:α→V} {l:List α} {i:Nat} {p:V→Prop}:(∃x,(l.map f)[i]?=some x∧p x)=(i<l.length∧p (f (l.getD i default))):=by
 refine propext ⟨fun ⟨x,h1,h2⟩=>?_,fun ⟨h1,h2⟩=>⟨_,?_,h2⟩⟩
 ·rw [List.getElem?_map] at h1
  cases hl:l[i]? with
  | none=>rw [hl] at h1;cases h1
  | some a =>
   rw [hl] at h1;cases h1
   have e:l.getD i default=a:=by simp [List.getD,hl]
   rw [e];exact ⟨(List.getElem?_eq_some_iff.1 hl).1,h2⟩
 ·rw [List.getElem?_map,getD_lt h1];rfl
theorem byteV_inj {a b:UInt8} (h:byteV a=byteV b):a=b:=by
 simp only [byteV,V.int.injEq,true_and] at h
 exact UInt8.toNat_inj.1 (by omega)
theorem bytes_inj {a b:List UInt8} (h:a.map byteV=b.map byteV):a=b:=List.map_inj_right (fun _ _ h=>byteV_inj h)|>.1 h
theorem ex_bytes {s:List UInt8} {p:List UInt8→Prop}:(∃t:List UInt8,s.map byteV=t.map byteV∧p t)=p s :=
 propext ⟨fun ⟨t,h1,h2⟩=>by rw [bytes_inj h1];exact h2,fun h=>⟨s,rfl,h⟩⟩
theorem ex_bytes2 {s:List UInt8} {lo n:Nat} {p:List UInt8→Prop}:(∃t:List UInt8,((s.map byteV).drop lo).take n=t.map byteV∧t.length=n∧p t)=(((s.drop lo).take n).length=n∧p ((s.drop lo).take n)):=by
 rw [←List.map_drop,←List.map_take]
 exact propext ⟨fun ⟨t,h1,h2,h3⟩=>by rw [bytes_inj h1];exact ⟨h2,h3⟩,fun ⟨h1,h2⟩=>⟨_,rfl,h1,h2⟩⟩
section
variable {M:Mach} {c:Cfg} {d:Option Nat} {r:List MOp} {s:List Fr} {e e0:List (Nat×V)} {h h0:Heap} {anc:List (List Nat)} {u t m:List Nat} {log:List Ent}
theorem Mach.iad_map {α:Type} [Inhabited α] {k:Nat} {f:α→V} {l:List α} {kk:IntKind} {n:Int} {K:V→Prop} :
  sIad k (.sl (l.map f)) (.int kk n) K (compK (M.lok c d r s e h))=((0≤n∧n<l.length)∧(f (l.getD n.toNat default)).cells.length=k∧compK (M.aft c d r s e h) (.eptr (f (l.getD n.toNat default)) 0)):=by
 rw [sIad_map,M.lok_comp]
theorem Mach.iad_mapD {α:Type} [Inhabited α] {k:Nat} {f:α→V} {l:List α} {kk:IntKind} {n:Int} {K:V→Prop} :
  sIad k (.sl (l.map f)) (.int kk n) K (compK (M.lokD c anc e0 h0 d u t m r log s e h))=((0≤n∧n<l.length)∧(f (l.getD n.toNat default)).cells.length=k∧compK (M.aftD c anc e0 h0 d u t m r log s e h) (.eptr (f (l.getD n.toNat default)) 0)):=by
 rw [sIad_map,M.lokD_comp]
theorem Mach.ex_part {α:Type} [Inhabited α] {f:α→V} {l:List α} {i off:Nat} {n:Option Nat} :
  (∃x,(l.map f)[i]?=some x∧part n off x.cells (compK (M.lok c d r s e h)))=(i<l.length∧part n off (f (l.getD i default)).cells (compK (M.aft c d r s e h))):=by
 rw [ex_map]
 have:compK (M.lok c d r s e h)=compK (M.aft c d r s e h):=funext fun v=>M.lok_comp
 rw [this]
theorem Mach.ex_partD {α:Type} [Inhabited α] {f:α→V} {l:List α} {i off:Nat} {n:Option Nat} :
  (∃x,(l.map f)[i]?=some x∧part n off x.cells (compK (M.lokD c anc e0 h0 d u t m r log s e h)))=(i<l.length∧part n off (f (l.getD i default)).cells (compK (M.aftD c anc e0 h0 d u t m r log s e h))):=by
 rw [ex_map]
 have:compK (M.lokD c anc e0 h0 d u t m r log s e h)=compK (M.aftD c anc e0 h0 d u t m r log s e h):=funext fun v=>M.lokD_comp
 rw [this]
theorem Mach.b2s_sl {b:List UInt8}:(∃t:List UInt8,b.map byteV=t.map byteV∧compK (M.lok c d r s e h) (.str t))=compK (M.aft c d r s e h) (.str b):=by rw [ex_bytes,M.lok_comp]
theorem Mach.b2s_slD {b:List UInt8}:(∃t':List UInt8,b.map byteV=t'.map byteV∧compK (M.lokD c anc e0 h0 d u t m r log s e h) (.str t'))=compK (M.aftD c anc e0 h0 d u t m r log s e h) (.str b):=by rw [ex_bytes,M.lokD_comp]
theorem Mach.b2s_osl {b:List UInt8} {lo n:Nat}:(∃t:List UInt8,((b.map byteV).drop lo).take n=t.map byteV∧t.length=n∧compK (M.lok c d r s e h) (.str t))=(((b.drop lo).take n).length=n∧compK (M.aft c d r s e h) (.str ((b.drop lo).take n))):=by rw [ex_bytes2,M.lok_comp]
theorem Mach.b2s_oslD {b:List UInt8} {lo n:Nat}:(∃t':List UInt8,((b.map byteV).drop lo).take n=t'.map byteV∧t'.length=n∧compK (M.lokD c anc e0 h0 d u t m r log s e h) (.str t'))=(((b.drop lo).take n).length=n∧compK (M.aftD c anc e0 h0 d u t m r log s e h) (.str ((b.drop lo).take n))):=by rw [ex_bytes2,M.lokD_comp]
end
theorem bltq {a b:Nat}:Nat.blt a b=Nat.ble (a+1) b:=rfl
theorem take_map {α:Type} {f:α→V} {l:List α} {n:Nat}:(l.map f).take n=(l.take n).map f:=List.map_take.symm
theorem drop_map {α:Type} {f:α→V} {l:List α} {n:Nat}:(l.map f).drop n=(l.drop n).map f:=List.map_drop.symm
theorem drop0 {α:Type} {l:List α}:l.drop 0=l:=rfl
theorem at_mp {P:Program} {n0:Nat} {vs:List V} {ob:Nat→Option Obj'} {K L:Eff→Prop} {m:MapOp} {xs:List Opd}:stepV P (.mp m xs) n0 vs ob K L=sMap m n0 vs ob K L:=propext Iff.rfl
section
variable {P:Program} {n0:Nat} {vs:List V} {ob:Nat→Option Obj'} {K L:Eff→Prop} {xs:List Opd}
theorem dD_mk {kd:KD}:stepD P (.mp (.mk kd) xs) n0 vs ob K L=sMap (.mk kd) n0 vs ob K L:=propext Iff.rfl
theorem dD_lku {kd:KD} {ok:Bool} {z:V}:stepD P (.mp (.lku kd ok z) xs) n0 vs ob K L=sMap (.lku kd ok z) n0 vs ob K L:=propext Iff.rfl
theorem dD_up {kd:KD}:stepD P (.mp (.up kd) xs) n0 vs ob K L=sMap (.up kd) n0 vs ob K L:=propext Iff.rfl
theorem dD_ups {kd:KD}:stepD P (.mp (.ups kd) xs) n0 vs ob K L=sMap (.ups kd) n0 vs ob K L:=propext Iff.rfl
theorem dD_uss:stepD P (.mp .uss xs) n0 vs ob K L=sMap .uss n0 vs ob K L:=propext Iff.rfl
theorem dD_lss:stepD P (.mp .lss xs) n0 vs ob K L=sMap .lss n0 vs ob K L:=propext Iff.rfl
theorem dD_mx3:stepD P (.mp .mx3 xs) n0 vs ob K L=sMap .mx3 n0 vs ob K L:=propext Iff.rfl
theorem dD_fnz {ng:Bool}:stepD P (.mp (.fnz ng) xs) n0 vs ob K L=sMap (.fnz ng) n0 vs ob K L:=propext Iff.rfl
theorem dD_ifz {ng:Bool}:stepD P (.mp (.ifz ng) xs) n0 vs ob K L=sMap (.ifz ng) n0 vs ob K L:=propext Iff.rfl
theorem dD_bnd {f:Nat}:stepD P (.mp (.bnd f) xs) n0 vs ob K L=sMap (.bnd f) n0 vs ob K L:=propext Iff.rfl
theorem dD_r2s:stepD P (.mp .r2s xs) n0 vs ob K L=sMap .r2s n0 vs ob K L:=propext Iff.rfl
theorem dD_apc {k b:Nat}:stepD P (.mp (.apc k b) xs) n0 vs ob K L=sMap (.apc k b) n0 vs ob K L:=propext Iff.rfl
theorem dD_cpy {k:Nat}:stepD P (.mp (.cpy k) xs) n0 vs ob K L=sMap (.cpy k) n0 vs ob K L:=propext Iff.rfl
theorem dD_tab {i:Nat}:stepD P (.mp (.tab i) xs) n0 vs ob K L=sMap (.tab i) n0 vs ob K L:=propext Iff.rfl
theorem tab_1:sMap (.tab 1) n0 [] ob K L=K (evl (.agg [.int .i64 1,.int .i64 100,.int .i64 1000,.int .i64 10000])):=propext Iff.rfl
theorem tab_2:sMap (.tab 2) n0 [] ob K L=K (evl (.agg [.int .i64 40,.int .i64 16,.int .i64 4,.int .i64 1])):=propext Iff.rfl
theorem dD_del {kd:KD}:stepD P (.mp (.del kd) xs) n0 vs ob K L=sMap (.del kd) n0 vs ob K L:=propext Iff.rfl
theorem dD_mlen:stepD P (.mp .len xs) n0 vs ob K L=sMap .len n0 vs ob K L:=propext Iff.rfl
theorem dD_rng:stepD P (.mp .rng xs) n0 vs ob K L=sMap .rng n0 vs ob K L:=propext Iff.rfl
theorem dD_ent:stepD P (.mp .ent xs) n0 vs ob K L=sMap .ent n0 vs ob K L:=propext Iff.rfl
end
theorem has_smap {n:Nat} {kd:KD} {es:List (V×V)}:(V.smap kd es).has n=false:=by simp only [V.has]
theorem cells_smap {kd:KD} {es:List (V×V)}:(V.smap kd es).cells=[.smap kd es]:=rfl
theorem mget_none {k z:V} {ok:Bool}:lkuRes ok z none=bif ok then .tup [z,.bool false] else z:=rfl
theorem mget_some {k z v:V} {ok:Bool}:lkuRes ok z (some v)=bif ok then .tup [v,.bool true] else v:=rfl
theorem mget_nil {k:V}:mget k []=none:=rfl
theorem Mach.opsDG_any {M:Mach} {c:Cfg} {anc:List (List Nat)} {e0 e:List (Nat×V)} {h0 h:Heap} {i:MIns} {d:Option Nat} {n:Nat} {w b:Bool} {r:List MOp} {log:List Ent} {s:List Fr}:M.opsDG c anc e0 h0 i d n w r log s e h (.bool b) =
  ((b=w→M.insG c anc e0 h0 i d [n] r log s (put n (.bool w) e) h)∧(b=(!w)→M.opsD c anc e0 h0 r (⟨d,none,[n],[],[]⟩::log) s ⟨delE d (put n (.bool (!w)) e),h⟩)):=by
 rw [M.opsDG_bool];rfl
attribute [go_sem high] tab_1 tab_2
attribute [go_sem] at_mp dD_ups dD_uss dD_lss shutV dD_mx3 dD_fnz fnz1 dD_ifz dD_bnd dD_r2s dD_cpy dD_apc dD_tab dD_mk dD_lku dD_up dD_del dD_mlen dD_rng dD_ent sMap ments evl eup KD.is has_smap cells_smap mget_none mget_some mget_nil V.shm V.shmL shmE shmH Obj'.shm
attribute [go_sem] Mach.go_regI Mach.kN_it_nil Mach.kN_it_op Mach.kN_it_nt Mach.kX_it Mach.go_seq Mach.go_block Mach.go_skip Mach.go_ret Mach.go_exit Mach.go_reg Mach.go_regD
attribute [go_sem low] Mach.goC_any Mach.opsG_any Mach.opsDG_any
attribute [go_sem high] Mach.goC_t Mach.goC_f Mach.opsG_lit_tt Mach.opsG_lit_ff Mach.opsG_lit_tf Mach.opsG_lit_ft Mach.opsDG_tt Mach.opsDG_ff Mach.opsDG_tf Mach.opsDG_ft Mach.opsG_tup Mach.opsDG_tup
attribute [go_sem] Mach.kN_it_grp at_lsl at_ls2b dD_lsl dD_ls2b sLs2b at_aix at_aad at_barr dD_aix dD_aad dD_barr sAix sAad arrParts
attribute [go_sem] Mach.go_cond Mach.kN_nil Mach.kN_sq Mach.kN_bl Mach.kX_nil Mach.kX_sq Mach.kX_bl' Mach.ops_nil Mach.ops_guard Mach.ops_ins Mach.opsD_nil Mach.opsD_ins
attribute [go_sem] Mach.opsD_guard Mach.insG_eq stepD_call dD_mv dD_pick dD_alloc dD_box dD_build dD_bslice dD_ld dD_st dD_nck
attribute [go_sem] dD_bin dD_mask dD_beq dD_eqs dD_not dD_neg dD_i2i dD_idc dD_s2b dD_b2s dD_mkfn dD_mksl
attribute [go_sem] dD_sls dD_slc dD_fad dD_fld dD_iad dD_idx dD_ext dD_len dD_app dD_mm Mach.aftD_eq Mach.aftD_comp
attribute [go_sem] Mach.aftD_up slotsOf MIns.touch vid Mach.aft_eq Mach.aft_some
attribute [go_sem] Mach.aft_none Mach.aft_up Mach.aft_upn
attribute [go_sem] at_mv at_pick at_ld at_st at_nck at_bin at_mask at_beq at_eqs at_not at_neg at_i2i
attribute [go_sem] at_idc at_b2s at_mkfn at_sls at_slc at_fad at_fld at_iad at_idx at_ext at_len at_mm
attribute [go_sem] at_alloc at_box at_bslice at_s2b at_mksl at_app at_call at_build fillB get_cons get_nil find_cons
attribute [go_sem] find_nil put_cons put_nil del_cons del_nil obOf_eq has_ptr has_osl has_optr has_omap has_bptr has_agg has_tup
attribute [go_sem] has_fn has_bool has_int has_str has_sl has_nils has_nilp has_nilm has_nilf has_nili has_any has_eptr
attribute [go_sem] hasL_nil hasL_cons cleanL_nil cleanL_cons mem_nil mem_cons' noEnv noHeap Obj'.has MIns.creates MIns.opds optOpd
attribute [go_sem] List.map List.append List.reverse List.reverseAux Opd.ev Option.getD Option.isSome Option.isNone setE puts dels delE
attribute [go_sem] cond_true cond_false Bool.and_true Bool.true_and Bool.and_false Bool.false_and Bool.or_false Bool.false_or Bool.not_true Bool.not_false sBin sPick
attribute [go_sem] sLd sSt sNck sMask sBeq sEqs sNot sNeg sI2i sIdc sB2s sSls
attribute [go_sem] sSlc sFad sFld sIad_osl drop0 List.drop_zero sIdx sExt sLen sMm sBox sS2b
attribute [go_sem] sMksl sApp appSrc vlen kEq enumE beqq part cells_bool cells_int cells_str
attribute [go_sem] cells_nils cells_nilp cells_nilm cells_nilf cells_nili cells_agg cells_sl cells_ptr cells_eptr cells_osl cells_optr cells_omap cells_bptr
attribute [go_sem] cells_fn cells_byteV forall_one forall_none bytes_ok ints_ok tyJ atEnd resAll endQ tupv selOK
attribute [go_sem] sel V.within V.withinL withinH Obj'.within Nat.zero_add Nat.add_zero Int.toNat_natCast gfork_tt gfork_tf gfork_ft gfork_ff
attribute [go_sem] and_true true_and inHeap List.nil_append List.cons_append List.append_nil bleq setCells List.length_cons List.length_nil List.take_succ_cons
attribute [go_sem] List.take_zero List.drop_succ_cons List.all_cons List.all_nil V.one decide_true decide_false List.length_map Nat.le_refl V.nany V.nav okElem V.sealed
attribute [go_sem] V.isB V.sc Mach.go_note stepNote filt renE renH V.ren V.renL Obj'.ren sealEOK V.sealOK sealE
attribute [go_sem] V.shut sealH sealHOK Obj'.sealOK Obj'.shut List.take_length List.map_append List.map_cons List.map_nil List.length_append V.sealL V.sealOKs
attribute [go_sem] ints tape V.unnil V.unnilL
attribute [go_sem] fillV List.zip List.zipWith List.set_cons_succ List.set_cons_zero bltq at_mks dD_mks sMks uvT tyF
attribute [go_sem] take_map drop_map List.forall_mem_map implies_true Int.toNat_zero
attribute [go_sem ↓] Mach.iad_map Mach.iad_mapD Mach.ex_part Mach.ex_partD Mach.b2s_sl Mach.b2s_slD Mach.b2s_osl Mach.b2s_oslD
end Go.Ab
