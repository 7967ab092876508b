/- strconv.ParseUint of two bytes at base 16, bitSize 8: a walk, after the shelf's own at base 10. -/
import Derived.Shelf.Pu.Lays
import Derived.Shelf.Pu.Lower
import Derived.Shelf.Pu.ToError
import Derived.Lib.AtoiErrMem
import Derived.Lib.Strings
import Derived.Lib.Walk
import Derived.Lib.ConvBytes
import Derived.Lib.ParseIntBMem
import Derived.Lib.Hide
import Derived.Laws.Strings3
import Derived.Laws.Closers25
import Derived.Laws.Closers25b
import Derived.WalkKit
import Derived.BigCall
import Derived.BigGuard
set_option linter.all false
namespace Go.Proofs
open Go.Shelf Go.RowKit
variable {P:Program} {ρ:Ren}
def hexL (c:UInt8):Int:=bits .or .u8 (c.toNat:Int) 32
def hexD (c:UInt8):Option Nat:=if 48≤c.toNat∧c.toNat≤57 then some (c.toNat - 48) else if 97≤hexL c∧hexL c≤102 then some (hexL c - 87).toNat else none
def hexN (acc:Nat):List UInt8→Option Nat
 | []=>some acc
 | c::r=>match hexD c with
  | some d=>hexN (acc*16+d) r
  | none=>none
def hexV (T:TypeId):Option Nat→Value
 | some n=>.tuple #[.int .u64 n,.nilIface]
 | none=>.tuple #[.int .u64 0,.iface T (.int .i64 2)]
set_option maxHeartbeats 32000000 in
set_option maxRecDepth 100000 in
theorem AnyPu.parseUint_16_b8 (L:LaysPu.n16 P ρ) (t:ByteArray) (hne:t.size=2) (w:World) :
  Calls P (ρ.f 16) #[.string t,.int .i64 16,.int .i64 8] w fun e w'=>e=.returned (hexV (ρ.t 34) (hexN 0 t.data.toList))∧w'=Lib.bytesWorld w (ρ.t 5) t:=by
 have mixed:=L.mixed
 have t9:=L.t9;have a9:=L.a9;have z9:=L.z9;have v9:=L.v9
 have t3:=L.t3;have a3:=L.a3;have z3:=L.z3;have v3:=L.v3
 have t22:=L.t22;have a22:=L.a22;have z22:=L.z22;have v22:=L.v22
 have t24:=L.t24;have a24:=L.a24;have z24:=L.z24;have v24:=L.v24
 have t4:=L.t4;have a4:=L.a4;have z4:=L.z4;have v4:=L.v4
 have t34:=L.t34;have a34:=L.a34;have z34:=L.z34;have v34:=L.v34
 have t5:=L.t5;have a5:=L.a5;have z5:=L.z5;have v5:=L.v5
 have t36:=L.t36;have a36:=L.a36;have z36:=L.z36;have v36:=L.v36
 have t37:=L.t37;have a37:=L.a37;have z37:=L.z37;have v37:=L.v37
 have t0:=L.t0;have a0:=L.a0;have z0:=L.z0;have v0:=L.v0
 have e19:∀args w,(callFunc (ρ.f 19) args).run P w=.ok (.enter (ρ.f 19) args) w:=enters_of L.f19 (by kernel_rfl) rfl
 have hemp:t.toList.isEmpty=false:=by
  rw [←decide_eq_emptyBytes]
  exact decide_eq_false (fun h=>by rw [h] at hne;cases hne)
 have hcv:=Lib.run_convert_string_bytes (P:=P) w (ρ.t 9) (ρ.t 37) (ρ.t 5) t (u:=.string) L.t9 L.t37 L.t5
 have hB:∀j,j<t.size→(Lib.bytesWorld w (ρ.t 5) t).cell? ⟨w.heap.size,j,none⟩=some (.int .u8 (t.data.toList.getD j 0).toNat):=fun j hj=>Lib.bytesWorld_cell w (ρ.t 5) t j hj
 obtain ⟨W1,hW1⟩:∃W1,W1=Lib.bytesWorld w (ρ.t 5) t:=⟨_,rfl⟩
 rw [←hW1] at hcv hB ⊢
 clear hW1
 obtain ⟨bs,hL⟩:∃bs,bs=t.data.toList:=⟨_,rfl⟩
 have hLn:bs.length=t.size:=by rw [hL,Lib.size_eq]
 rw [←hL] at hB ⊢
 clear hL
 have hmv:IntKind.u64.wrap (IntKind.u64.wrap 256 - 1)=255:=by
  rw [IntKind.wrap_u64,IntKind.wrap_u64]
  decide
 go_enter L.f16,BodyPu.n16_ntmps ρ
 go_wp2
 go_loop [12,13,101] (fun vu vn vi=>∃(k acc:Nat) (a:Int),vu=.bool false∧vn=.int .u64 a∧vi=.int .i64 k∧k≤t.size∧Hid (a=(acc:Int)∧(acc≤255∧(k<2→acc≤15)∧(k=0→acc=0))∧hexN 0 bs=hexN acc (bs.drop k)))
  (fun _ _ vi=>t.size - (intOf vi).toNat)
 case atStart=>exact ⟨0,0,0,rfl,rfl,rfl,by omega,rfl,⟨by omega,by omega,by omega⟩,rfl⟩
 case round =>
  obtain ⟨k,acc,a,rfl,rfl,rfl,hk,hh⟩:=hrel
  obtain ⟨ha,⟨hacc,hacc1,hacc2⟩,hdec⟩:=hh.out
  clear hh
  by_cases hkn:k<t.size
  ·have hc:=hB k hkn
   have hdrop:bs.drop k=bs[k]'(by omega)::bs.drop (k+1):=List.drop_eq_getElem_cons (by omega)
   have hget:bs.getD k 0=bs[k]'(by omega):=by simp [List.getD,List.getElem?_eq_getElem (show k<bs.length by omega)]
   rw [hdrop] at hdec
   rw [hget] at hc
   generalize bs[k]'(by omega)=c at hc hdec
   have hc256:c.toNat<256:=c.toNat_lt
   have ha15:acc≤15:=hacc1 (by omega)
   have hk0:k=0→acc=0:=hacc2
   have a0:0≤a:=by omega
   have a1:a≤15:=by omega
   clear hB hdrop hget
   by_cases hdig:48≤c.toNat∧c.toNat≤57
   ·obtain ⟨hd0,hd1⟩:=hdig
    have hF:hexN acc (c::bs.drop (k+1))=hexN (acc*16+(c.toNat - 48)) (bs.drop (k+1)):=by simp [hexN,hexD,hd0,hd1]
    have HN:Hid (a*16+((c.toNat:Int) - 48)=((acc*16+(c.toNat - 48):Nat):Int)∧(acc*16+(c.toNat - 48)≤255∧(k+1<2→acc*16+(c.toNat - 48)≤15)∧(k+1=0→acc*16+(c.toNat - 48)=0))∧hexN 0 bs=hexN (acc*16+(c.toNat - 48)) (bs.drop (k+1))):=Lib.hid ⟨by omega,⟨by omega,fun h=>by have:=hk0 (by omega);omega,by omega⟩,hdec.trans hF⟩
    have iov:a*16+((c.toNat:Int) - 48)≤255:=by omega
    clear hacc hacc1 hacc2 hF hdec ha ha15 hk0
    go_wp2
    refine ⟨⟨k+1,acc*16+(c.toNat - 48),a*16+((c.toNat:Int) - 48),rfl,(by first|rfl|(congr 1;omega)),(by first|rfl|(congr 1;omega)),by omega,HN⟩,by simp [intOf];omega⟩
   ·have hv0:=bits_lo_u8 .or (c.toNat:Int) 32
    have hv1:=bits_hi_u8 .or (c.toNat:Int) 32
    have hl:hexL c=bits .or .u8 (c.toNat:Int) 32:=rfl
    by_cases hlet:97≤hexL c∧hexL c≤102
    ·have hD:hexD c=some (hexL c - 87).toNat:=by unfold hexD;rw [if_neg hdig,if_pos hlet]
     have hF:hexN acc (c::bs.drop (k+1))=hexN (acc*16+(hexL c - 87).toNat) (bs.drop (k+1)):=by simp only [hexN,hD]
     rw [hl] at hF hlet
     obtain ⟨v,hv⟩:∃v,v=bits .or .u8 (c.toNat:Int) 32:=⟨_,rfl⟩
     rw [←hv] at hF hlet hv0 hv1
     have HN:Hid (a*16+(v - 87)=((acc*16+(v - 87).toNat:Nat):Int)∧(acc*16+(v - 87).toNat≤255∧(k+1<2→acc*16+(v - 87).toNat≤15)∧(k+1=0→acc*16+(v - 87).toNat=0))∧hexN 0 bs=hexN (acc*16+(v - 87).toNat) (bs.drop (k+1))):=Lib.hid ⟨by omega,⟨by omega,fun h=>by have:=hk0 (by omega);omega,by omega⟩,hdec.trans hF⟩
     have iov:a*16+(v - 87)≤255:=by omega
     obtain ⟨hl1,hl2⟩:=hlet
     have h95:¬(c.toNat:Int)=95:=fun h=>by
      rw [h] at hv
      have:bits .or .u8 95 32=127:=by decide
      omega
     clear hacc hacc1 hacc2 hF hdec ha ha15 hk0 hD hl
     go_wp2_with (go_at_fn (ρ.f 19);refine (AnyPu.internal_strconv_lower { L with } _ _).mono ?_;rintro e w' ⟨rfl,rfl⟩;try rw [←hv])
     all_goals try (exfalso;omega;done)
     all_goals refine ⟨⟨k+1,acc*16+(v - 87).toNat,a*16+(v - 87),rfl,?_,?_,by omega,HN⟩,?_⟩
     all_goals first|(simp [intOf];omega;done)|rfl|(congr 1;omega)|skip
    ·have hF:hexN acc (c::bs.drop (k+1))=none:=by
      have hD:hexD c=none:=by unfold hexD;rw [if_neg hdig,if_neg hlet]
      simp only [hexN,hD]
     rw [hF] at hdec
     rw [hl] at hlet
     clear hacc hacc1 hacc2 hF ha hl
     have hu0:=bits_lo_u8 .or 95 32
     have hu1:=bits_hi_u8 .or 95 32
     go_wp2_with (go_at_fn (ρ.f 19);refine (AnyPu.internal_strconv_lower { L with } _ _).mono ?_;rintro e w' ⟨rfl,rfl⟩)
     all_goals go_ret2
     all_goals first|exact ⟨rfl,rfl⟩|exact ⟨by rw [hdec];rfl,rfl⟩
  ·have hkk:k=t.size:=by omega
   subst hkk
   have hF:hexN acc (bs.drop t.size)=some acc:=by rw [List.drop_eq_nil_of_le (by omega)];rfl
   rw [hF] at hdec
   subst ha
   clear hacc hF
   go_wp2
   go_ret2
   exact ⟨rfl,rfl⟩
set_option maxHeartbeats 4000000 in
set_option maxRecDepth 100000 in
theorem AnyPu.pubUint_16_ok (L:LaysPu.n14 P ρ) (s:ByteArray) (hne:s.size=2) (u:Nat) (h:hexN 0 s.data.toList=some u) (w:World) :
  Calls P (ρ.f 14) #[.string s,.int .i64 16,.int .i64 8] w fun e w'=>e=.returned (.tuple #[.int .u64 u,.nilIface])∧w'=Lib.bytesWorld w (ρ.t 5) s:=by
 have mixed:=L.mixed
 have t9:=L.t9;have a9:=L.a9;have z9:=L.z9;have v9:=L.v9
 have t3:=L.t3;have a3:=L.a3;have z3:=L.z3;have v3:=L.v3
 have t22:=L.t22;have a22:=L.a22;have z22:=L.z22;have v22:=L.v22
 have t24:=L.t24;have a24:=L.a24;have z24:=L.z24;have v24:=L.v24
 have t25:=L.t25;have a25:=L.a25;have z25:=L.z25;have v25:=L.v25
 have t4:=L.t4;have a4:=L.a4;have z4:=L.z4;have v4:=L.v4
 have e16:∀args w,(callFunc (ρ.f 16) args).run P w=.ok (.enter (ρ.f 16) args) w:=enters_of L.f16 (by kernel_rfl) rfl
 have hI:=AnyPu.parseUint_16_b8 { L with } s hne w
 rw [h] at hI
 have hI:Calls P (ρ.f 16) #[.string s,.int .i64 16,.int .i64 8] w fun e w'=>e=.returned (.tuple #[.int .u64 u,.nilIface])∧w'=Lib.bytesWorld w (ρ.t 5) s:=hI
 clear h
 go_enter L.f14,BodyPu.n14_ntmps ρ
 go_wp2_with (go_at_fn (ρ.f 16);refine hI.mono ?_;rintro e W1 ⟨rfl,hW⟩)
 go_wp2
 go_ret2
 first|exact ⟨rfl,hW⟩|exact ⟨rfl,rfl⟩
set_option maxHeartbeats 4000000 in
set_option maxRecDepth 100000 in
theorem AnyPu.pubUint_16_no (L:LaysPu.n14 P ρ) (s:ByteArray) (hne:s.size=2) (h:hexN 0 s.data.toList=none) (ev:Value) (w:World) (hv:w.cell? ⟨(ρ.g 0),0,none⟩=some ev) (hev:ev=.nilIface∨∃te pe,ev=.iface te pe) :
  Calls P (ρ.f 14) #[.string s,.int .i64 16,.int .i64 8] w fun e w'=>∃N,e=.returned (.tuple #[.int .u64 0,.iface (ρ.t 39) (.pointer (some ⟨N,0,none⟩))])∧w.heap.size≤N∧Below w.heap.size w w':=by
 have mixed:=L.mixed
 have t9:=L.t9;have a9:=L.a9;have z9:=L.z9;have v9:=L.v9
 have t3:=L.t3;have a3:=L.a3;have z3:=L.z3;have v3:=L.v3
 have t22:=L.t22;have a22:=L.a22;have z22:=L.z22;have v22:=L.v22
 have t24:=L.t24;have a24:=L.a24;have z24:=L.z24;have v24:=L.v24
 have t25:=L.t25;have a25:=L.a25;have z25:=L.z25;have v25:=L.v25
 have t4:=L.t4;have a4:=L.a4;have z4:=L.z4;have v4:=L.v4
 have e16:∀args w,(callFunc (ρ.f 16) args).run P w=.ok (.enter (ρ.f 16) args) w:=enters_of L.f16 (by kernel_rfl) rfl
 have e17:∀args w,(callFunc (ρ.f 17) args).run P w=.ok (.enter (ρ.f 17) args) w:=enters_of L.f17 (by kernel_rfl) rfl
 have hG:(ρ.g 0)<w.heap.size:=Lib.lt_of_cell hv
 have hI:=AnyPu.parseUint_16_b8 { L with } s hne w
 rw [h] at hI
 have hI:Calls P (ρ.f 16) #[.string s,.int .i64 16,.int .i64 8] w fun e w'=>e=.returned (.tuple #[.int .u64 0,.iface (ρ.t 34) (.int .i64 2)])∧w'=Lib.bytesWorld w (ρ.t 5) s:=hI
 clear h
 go_enter L.f14,BodyPu.n14_ntmps ρ
 go_wp2_with (go_at_fn (ρ.f 16);refine hI.mono ?_)
 rintro e W1 ⟨rfl,hW⟩
 have hb1:Below w.heap.size w W1:=by
  rw [hW];exact Lib.bytesWorld_below _ _ _
 have hv1:W1.cell? ⟨(ρ.g 0),0,none⟩=some ev:=(hb1.cell (show (⟨(ρ.g 0),0,none⟩:Addr).block<w.heap.size from hG)).trans hv
 clear hW
 go_wp2_with (go_at_fn (ρ.f 17);refine (AnyPu.strconv_toError_syntax { L with } ⟨#[80,97,114,115,101,85,105,110,116]⟩ s 16 8 ev _ (by omega) ?_ hev).mono ?_)
 ·exact hv1
 rintro e W2 ⟨N,rfl,h1,h2,h3⟩
 go_wp2
 go_ret2
 exact ⟨N,rfl,Nat.le_trans hb1.size h1,hb1.trans (h3.mono hb1.size)⟩
end Go.Proofs
