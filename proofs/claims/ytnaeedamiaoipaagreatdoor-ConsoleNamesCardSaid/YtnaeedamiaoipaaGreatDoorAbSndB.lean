/- The abstract layer, part 6: arithmetic, comparisons, strings, addresses and loads. -/
import Derived.Test.YtnaeedamiaoipaaGreatDoorAbSndA
set_option linter.all false
namespace Go.Ab
open Go.RowKit
section
variable {P:Program} {o:Oper} {c:Ctx} {g:Gh} {σ:St} {a:Act} {w:World} {ob:Nat→Option Obj'} {K L:Eff→Prop} {K':Act→World→Prop} {Q':Exit→Act→World→Prop}
theorem binOp_strings (op:BinOp) (t:TypeId) (x y:ByteArray):binOp op t (.string x) (.string y)=Op.stringOp op x y:=by cases op<;>rfl
theorem inR_div {k:IntKind} {x:Int} (h:inR k x) (n:Nat):inR k (x / 2^n):=by
 rw [rng_iff] at *
 have hp:(0:Int)<2^n:=Int.pow_pos (by decide)
 have h1:0≤x→0≤x / 2^n∧x / 2^n≤x:=fun hx=>⟨Int.ediv_nonneg hx (Int.le_of_lt hp),Int.ediv_le_self _ hx⟩
 have h2:x<0→x≤x / 2^n∧x / 2^n<0:=by
  intro hx
  refine ⟨?_,Int.ediv_neg_of_neg_of_pos hx hp⟩
  have:=Int.le_ediv_of_mul_le hp (a:=x) (b:=x) (by
   have h1:(1:Int)≤2^n:=hp
   have:=Int.mul_le_mul_of_nonpos_left (Int.le_of_lt hx) h1
   simpa using this)
  exact this
 by_cases hx:0≤x
 ·have:=h1 hx
  cases k<;>simp [rng] at*<;> omega
 ·have:=h2 (by omega)
  cases k<;>simp [rng] at*<;> omega
theorem inR_tmod {k:IntKind} {x y:Int} (h:inR k x):inR k (x.tmod y):=by
 rw [rng_iff] at *
 have h1:0≤x→0≤x.tmod y∧x.tmod y≤x:=by
  intro hx
  refine ⟨Int.tmod_nonneg _ hx,?_⟩
  rw [Int.tmod_eq_emod_of_nonneg hx]
  by_cases hy:y=0
  ·subst hy;simp
  ·have:=Int.emod_emod_of_dvd x (Int.dvd_refl y)
   have h2:=Int.mul_ediv_add_emod x y
   have h3:0≤y*(x / y):=by
    rcases Int.lt_or_gt_of_ne hy with hy|hy
    ·have:x / y≤0:=Int.ediv_nonpos_of_nonneg_of_nonpos hx (Int.le_of_lt hy)
     exact Int.mul_nonneg_of_nonpos_of_nonpos (Int.le_of_lt hy) this
    ·exact Int.mul_nonneg (Int.le_of_lt hy) (Int.ediv_nonneg hx (Int.le_of_lt hy))
   omega
 by_cases hx:0≤x
 ·have:=h1 hx
  cases k<;>simp [rng] at*<;> omega
 ·have h2:x≤x.tmod y∧x.tmod y≤0:=by
   have hn:0≤-x:=by omega
   have e:x.tmod y=-((-x).tmod y):=by rw [Int.neg_tmod];omega
   have q1:=Int.tmod_nonneg y hn
   have q2:(-x).tmod y≤-x:=by
    rw [Int.tmod_eq_emod_of_nonneg hn]
    by_cases hy:y=0
    ·subst hy;simp
    ·have h2:=Int.mul_ediv_add_emod (-x) y
     have h3:0≤y*((-x) / y):=by
      rcases Int.lt_or_gt_of_ne hy with hy|hy
      ·have:(-x) / y≤0:=Int.ediv_nonpos_of_nonneg_of_nonpos hn (Int.le_of_lt hy)
       exact Int.mul_nonneg_of_nonpos_of_nonpos (Int.le_of_lt hy) this
      ·exact Int.mul_nonneg (Int.le_of_lt hy) (Int.ediv_nonneg hn (Int.le_of_lt hy))
     omega
   omega
  cases k<;>simp [rng] at*<;> omega
theorem s_bin {ch:Bool} {op:BinOp} {x y:Opd} (hok:(MIns.bin ch op x y).ok P o.op=true) (hR:Rel P c g σ a w) {d:Nat} (h:stepV P (.bin ch op x y) d [x.ev σ.env,y.ev σ.env] ob K L) (hF:Fin o c g σ a w K L K'):o.wp P a w K' Q':=by
 have:∃t x' y' t',o.op=.binOp op t x' y' t'∧x.ok x'=true∧y.ok y'=true:=by
  cases ho:o.op<;>simp [MIns.ok,ho] at hok
  obtain ⟨⟨h1,h2⟩,h3⟩:=hok
  subst h1
  exact ⟨_,_,_,_,rfl,h2,h3⟩
 obtain ⟨t,x',y',t',ho,hx,hy⟩:=this
 have vx:=Opd.vr hR hx
 have vy:=Opd.vr hR hy
 simp only [stepV,sBin,evl] at h
 split at h
 ·rename_i k p k' q hp hq
  rw [hp] at vx;rw [hq] at vy
  obtain ⟨ex,rx⟩:=vx.int_inv
  obtain ⟨ey,ry⟩:=vy.int_inv
  have gen:∀v r,(binOp op t (.int k p) (.int k' q)).run P w=.ok v w→K ⟨r,[],[]⟩→VR g w v r→o.wp P a w K' Q':=fun v r hrun hk hv =>
   fin_val hR hF (v:=v) (by simp [execOp,ho,ex,ey,eqGuard_at_int,hrun]) (.inl hk) hv
  have b2:∀{p:Prop} [Decidable p] {b:Bool},(b=decide p)→VR g w (.bool b) (.bool (decide p)):=by
   rintro p _ b rfl;exact .rd (.bool _)
  by_cases hkk:kEq k k'=true
  case neg =>
   cases op<;>simp [hkk] at h
   ·exact gen _ _ (by simp [binOp_shl,shift_shl _ _ _ _ h.1.1 h.1.2]) h.2 (.rd (.int _ _ (wrap_inR _ _)))
   ·exact gen _ _ (by simp [binOp_shr,shift_shr _ _ _ _ h.1.1 h.1.2]) h.2 (.rd (.int _ _ (inR_div rx _)))
  have hkk':=kEq_eq hkk
  subst hkk'
  cases op<;>simp only [hkk,cond_true] at h
  ·cases ch
   ·exact gen _ _ (by simp [binOp_add,Op.intArith]) h (.rd (.int _ _ (wrap_inR _ _)))
   ·exact gen (.int k (p+q)) _ (by simp [binOp_add,Op.intArith,wrap_of_rng h.1]) h.2 (.rd (.int _ _ (rng_iff.2 h.1)))
  ·cases ch
   ·exact gen _ _ (by simp [binOp_sub,Op.intArith]) h (.rd (.int _ _ (wrap_inR _ _)))
   ·exact gen (.int k (p - q)) _ (by simp [binOp_sub,Op.intArith,wrap_of_rng h.1]) h.2 (.rd (.int _ _ (rng_iff.2 h.1)))
  ·cases ch
   ·exact gen _ _ (by simp [binOp_mul,Op.intArith]) h (.rd (.int _ _ (wrap_inR _ _)))
   ·exact gen (.int k (p*q)) _ (by simp [binOp_mul,Op.intArith,wrap_of_rng h.1]) h.2 (.rd (.int _ _ (rng_iff.2 h.1)))
  ·cases ch
   ·simp only [cond_false] at h
    exact gen (.int k (k.wrap (p.tdiv q))) _ (by simp [binOp_quo,Op.intDiv,h.1]) h.2 (.rd (.int _ _ (wrap_inR _ _)))
   ·simp only [cond_true] at h
    obtain ⟨⟨h1,h2⟩,h3⟩:=h
    have hq0:q≠0:=by omega
    have e:p.tdiv q=p / q:=Int.tdiv_eq_ediv_of_nonneg h1
    have hr:inR k (p / q):=by
     have a1:0≤p / q:=Int.ediv_nonneg h1 (Int.le_of_lt h2)
     have a2:p / q≤p:=Int.ediv_le_self _ h1
     rw [rng_iff] at *
     cases k<;>simp [rng] at*<;> omega
    exact gen (.int k (p / q)) _ (by simp [binOp_quo,Op.intDiv,hq0,e,wrap_of_rng (rng_iff.1 hr)]) h3 (.rd (.int _ _ hr))
  ·cases ch
   ·simp only [cond_false] at h
    exact gen (.int k (p.tmod q)) _ (by simp [binOp_rem,Op.intDiv,h.1]) h.2 (.rd (.int _ _ (inR_tmod rx)))
   ·simp only [cond_true] at h
    obtain ⟨⟨h1,h2⟩,h3⟩:=h
    have hq0:q≠0:=by omega
    have e:p.tmod q=p % q:=Int.tmod_eq_emod_of_nonneg h1
    have hr:inR k (p % q):=by rw [←e];exact inR_tmod rx
    exact gen (.int k (p % q)) _ (by simp [binOp_rem,Op.intDiv,hq0,e]) h3 (.rd (.int _ _ hr))
  ·exact gen _ _ (by simp [binOp_and,intBits_and]) h (.rd (.int _ _ (bits_inR _ _ _ _)))
  ·exact gen _ _ (by simp [binOp_or,intBits_or]) h (.rd (.int _ _ (bits_inR _ _ _ _)))
  ·exact gen _ _ (by simp [binOp_xor,intBits_xor]) h (.rd (.int _ _ (bits_inR _ _ _ _)))
  ·exact gen _ _ (by simp [binOp_shl,shift_shl _ _ _ _ h.1.1 h.1.2]) h.2 (.rd (.int _ _ (wrap_inR _ _)))
  ·exact gen _ _ (by simp [binOp_shr,shift_shr _ _ _ _ h.1.1 h.1.2]) h.2 (.rd (.int _ _ (inR_div rx _)))
  ·exact gen _ _ (by simp [binOp_andNot,intBits_andNot]) h (.rd (.int _ _ (bits_inR _ _ _ _)))
  ·exact gen (.bool (decide (p=q))) _ (by simp [binOp_eql];rw [Bool.eq_iff_iff];simp) h (.rd (.bool _))
  ·exact gen (.bool (!decide (p=q))) _ (by simp [binOp_neq,bne];rw [Bool.eq_iff_iff];simp) h (.rd (.bool _))
  ·exact gen _ _ (by simp [binOp_lss]) h (b2 rfl)
  ·exact gen _ _ (by simp [binOp_leq]) h (b2 rfl)
  ·exact gen _ _ (by simp [binOp_gtr]) h (b2 rfl)
  ·exact gen _ _ (by simp [binOp_geq]) h (b2 rfl)
 ·rename_i p q hp hq
  rw [hp] at vx;rw [hq] at vy
  obtain ⟨tx,ex,hx1,hx2⟩:=vx.str_inv
  obtain ⟨ty,ey,hy1,hy2⟩:=vy.str_inv
  have gen:∀v r,(Op.stringOp op tx ty).run P w=.ok v w→K ⟨r,[],[]⟩→VR g w v r→o.wp P a w K' Q':=fun v r hrun hk hv =>
   fin_val hR hF (v:=v) (by simp [execOp,ho,ex,ey,eqGuard_at_string,binOp_strings,hrun]) (.inl hk) hv
  have lx:tx.toList=p:=by rw [ByteArray.toList_eq,hx1]
  have ly:ty.toList=q:=by rw [ByteArray.toList_eq,hy1]
  have sx:tx.size=p.length:=by rw [←hx1,Array.length_toList];rfl
  have sy:ty.size=q.length:=by rw [←hy1,Array.length_toList];rfl
  have eqb:(p==q)=decide (p=q):=by rw [Bool.eq_iff_iff];simp
  cases op<;>simp only at h<;>try exact h.elim
  ·obtain ⟨h1,h2⟩:=h;replace h1:=strl_iff.1 h1
   have hn:¬((tx.size+ty.size:Nat):Int) > IntKind.i64.max:=by rw [IntKind.max_i64];omega
   refine gen (.string (tx++ty)) _ (by simp only [Op.stringOp];rw [if_neg hn];rfl) h2 (.rd ?_)
   have e:(tx++ty).data.toList=p++q:=by rw [←hx1,←hy1];simp
   rw [←e]
   refine .str _ ?_
   have:(tx++ty).size=(tx++ty).data.toList.length:=by rw [Array.length_toList];rfl
   rw [this,e,List.length_append,maxLen]
   omega
  ·exact gen (.bool (decide (p=q))) _ (by simp [Op.stringOp,lx,ly,eqb]) h (.rd (.bool _))
  ·exact gen (.bool (!decide (p=q))) _ (by simp [Op.stringOp,lx,ly,eqb]) h (.rd (.bool _))
  ·exact gen (.bool (Op.bytesLess p q)) _ (by simp [Op.stringOp,lx,ly]) h (.rd (.bool _))
  ·exact gen (.bool (Op.bytesLess p q||decide (p=q))) _ (by simp [Op.stringOp,lx,ly,eqb]) h (.rd (.bool _))
  ·exact gen (.bool (!(Op.bytesLess p q||decide (p=q)))) _ (by simp [Op.stringOp,lx,ly,eqb]) h (.rd (.bool _))
  ·exact gen (.bool (!Op.bytesLess p q)) _ (by simp [Op.stringOp,lx,ly]) h (.rd (.bool _))
 ·exact h.elim
theorem mask_eq (k:IntKind) (x:Int) (m:Nat) (hm:m<k.bits):bits .and k x (2^m - 1)=x % 2^m:=by
 have hp:(0:Nat)<2^m:=Nat.pow_pos (by decide)
 have hlt:2^m<2^k.bits:=Nat.pow_lt_pow_right (by decide) hm
 have e1:(BitVec.ofInt k.bits (2^m - 1:Int)).toNat=2^m - 1:=by
  have:(2^m - 1:Int)=((2^m - 1:Nat):Int):=by
   rw [Int.ofNat_sub hp];simp
  rw [this,BitVec.ofInt_natCast,BitVec.toNat_ofNat,Nat.mod_eq_of_lt (by omega)]
 have e2:((BitVec.ofInt k.bits x &&& BitVec.ofInt k.bits (2^m - 1:Int)).toNat:Int)=x % 2^m:=by
  rw [BitVec.toNat_and,e1,Nat.and_two_pow_sub_one_eq_mod,BitVec.toNat_ofInt]
  have hb:(0:Int)<2^k.bits:=Int.pow_pos (by decide)
  have h0:=Int.emod_nonneg x (Int.ne_of_gt hb)
  rw [Int.natCast_emod]
  have:(((x % ((2^k.bits:Nat):Int)).toNat:Nat):Int)=x % 2^k.bits:=by
   rw [Int.toNat_of_nonneg (by simpa using h0)];simp
  rw [this]
  have hd:(2^m:Int) ∣ 2^k.bits:=by
   have:=Int.natCast_dvd_natCast.2 (Nat.pow_dvd_pow 2 (Nat.le_of_lt hm))
   simpa using this
  have:=Int.emod_emod_of_dvd x hd
  simpa using this
 unfold bits
 simp only [e2]
 refine wrap_of_rng ?_
 have h0:=Int.emod_nonneg x (Int.ne_of_gt (Int.pow_pos (n:=2) (m:=m) (by decide)))
 have h1:=Int.emod_lt_of_pos x (Int.pow_pos (n:=2) (m:=m) (by decide))
 have h2:(2^m:Int)≤2^(k.bits - 1):=by
  have:(2:Nat)^m≤2^(k.bits - 1):=Nat.pow_le_pow_right (by decide) (by omega)
  exact_mod_cast this
 have h3:x % 2^m<2^(k.bits - 1):=Int.lt_of_lt_of_le h1 h2
 clear h1 h2 e2 e1 hlt hp hm
 obtain ⟨r,hr⟩:∃r,r=x % 2^m:=⟨_,rfl⟩
 rw [←hr] at h0 h3 ⊢
 clear hr
 cases k<;>simp only [rng,IntKind.bits] at h3 ⊢<;>omega
theorem s_mask {m:Nat} {x:Opd} {k:IntKind} (hok:(MIns.mask m x k).ok P o.op=true) (hR:Rel P c g σ a w) {d:Nat} (h:stepV P (.mask m x k) d [x.ev σ.env] ob K L) (hF:Fin o c g σ a w K L K'):o.wp P a w K' Q':=by
 have:∃t x' n t',o.op=.binOp .and t x' (.const (.int k n)) t'∧x.ok x'=true∧n=2^m - 1∧m<k.bits:=by
  cases ho:o.op<;>rw [ho] at hok<;>try (simp [MIns.ok] at hok;done)
  rename_i op t x' y t'
  cases op<;>try (simp [MIns.ok] at hok;done)
  cases y<;>try (simp [MIns.ok] at hok;done)
  rename_i v
  cases v<;>try (simp [MIns.ok] at hok;done)
  rename_i k' n
  simp [MIns.ok] at hok
  obtain ⟨⟨⟨h1,h2⟩,h3⟩,h4⟩:=hok
  have:=kEq_eq h2;subst this
  exact ⟨t,x',n,t',rfl,h1,h3,by simpa [Nat.blt_eq] using h4⟩
 obtain ⟨t,x',n,t',ho,hx,rfl,hm⟩:=this
 have vx:=Opd.vr hR hx
 simp only [stepV,sMask,evl] at h
 cases hc:x.ev σ.env<;>simp only [hc] at h<;>try exact h.elim
 rename_i k' p
 rw [hc] at vx
 by_cases hk:kEq k k'=true
 case neg=>simp [hk] at h
 simp only [hk,cond_true] at h
 have:=kEq_eq hk;subst this
 obtain ⟨ex,rx⟩:=vx.int_inv
 refine fin_val hR hF (v:=.int k (bits .and k p (2^m - 1))) ?_ (.inl h) ?_
 ·have:a.eval (.const (.int k (2^m - 1)))=.int k (2^m - 1):=rfl
  simp [execOp,ho,ex,this,eqGuard_and,binOp_and,intBits_and]
 ·rw [←mask_eq k p m hm]
  exact .rd (.int _ _ (bits_inR _ _ _ _))
theorem s_beq {ng:Bool} {x y:Opd} (hok:(MIns.beq ng x y).ok P o.op=true) (hR:Rel P c g σ a w) {d:Nat} (h:stepV P (.beq ng x y) d [x.ev σ.env,y.ev σ.env] ob K L) (hF:Fin o c g σ a w K L K'):o.wp P a w K' Q':=by
 cases ho:o.op<;>simp [MIns.ok,ho] at hok
 rename_i op t x' y' t'
 obtain ⟨⟨⟨h1,hx⟩,hy⟩,ht⟩:=hok
 have ht':P.underlying t=some .bool:=by unfold isBoolT at ht;split at ht<;>simp_all
 have vx:=Opd.vr hR hx
 have vy:=Opd.vr hR hy
 simp only [stepV,sBeq,evl] at h
 split at h
 ·rename_i p q hp hq
  rw [hp] at vx;rw [hq] at vy
  refine fin_val hR hF (v:=.bool (bif ng then !(p==q) else p==q)) ?_ (.inl h) (.rd (.bool _))
  cases ng<;>simp at h1<;>subst h1<;>simp [execOp,ho,vx.bool_inv,vy.bool_inv,eqGuard_at_bool,run_eql_bool _ t p q ht',run_neq_bool _ t p q ht']
 ·exact h.elim
theorem eqCells_split:∀(m:Nat) {ks:List Nat} {cs ds:List V} {t:Bool},m≤ks.length→eqCells ks cs ds=some t→∃t1 t2,eqCells (ks.take m) (cs.take m) (ds.take m)=some t1∧eqCells (ks.drop m) (cs.drop m) (ds.drop m)=some t2∧t=(t1&&t2)∧m≤cs.length∧m≤ds.length
 | 0,ks,cs,ds,t,_,h=>⟨true,t,by simp [eqCells],by simpa using h,by simp,Nat.zero_le _,Nat.zero_le _⟩
 | m+1,ks,cs,ds,t,hm,h=>by
  unfold eqCells at h
  split at h
  ·simp at hm
  ·rename_i q k a r k' b s' 
   cases hk:kEq k k' with
   | false=>rw [hk] at h;cases h
   | true =>
    rw [hk] at h
    simp only [cond_true,Option.map_eq_some_iff] at h
    obtain ⟨t',h1,rfl⟩:=h
    obtain ⟨t1,t2,e1,e2,e3,e4,e5⟩:=eqCells_split m (by simpa using hm) h1
    exact ⟨decide (a=b)&&t1,t2,by simp [eqCells,hk,e1],by simpa using e2,by rw [e3,Bool.and_assoc],by simpa using e4,by simpa using e5⟩
  ·rename_i q a r b s'
   simp only [Option.map_eq_some_iff] at h
   obtain ⟨t',h1,rfl⟩:=h
   obtain ⟨t1,t2,e1,e2,e3,e4,e5⟩:=eqCells_split m (by simpa using hm) h1
   exact ⟨decide (a=b)&&t1,t2,by simp [eqCells,e1],by simpa using e2,by rw [e3,Bool.and_assoc],by simpa using e4,by simpa using e5⟩
  ·rename_i q a r b s'
   simp only [Option.map_eq_some_iff] at h
   obtain ⟨t',h1,rfl⟩:=h
   obtain ⟨t1,t2,e1,e2,e3,e4,e5⟩:=eqCells_split m (by simpa using hm) h1
   exact ⟨(a==b)&&t1,t2,by simp [eqCells,e1],by simpa using e2,by rw [e3,Bool.and_assoc],by simpa using e4,by simpa using e5⟩
  ·cases h
theorem eqc0 {qs:List Nat} {cs ds:List V} {t:Bool} (h:eqCells (0::qs) cs ds=some t):∃k a b cs' ds' t',cs=.int k a::cs'∧ds=.int k b::ds'∧eqCells qs cs' ds'=some t'∧t=(decide (a=b)&&t'):=by
 cases cs with
 | nil=>simp [eqCells] at h
 | cons c cs=>cases ds with
  | nil=>cases c<;>simp [eqCells] at h
  | cons d ds =>
   cases c<;>cases d<;>simp only [eqCells,reduceCtorEq] at h
   rename_i k a k' b
   cases hk:kEq k k' with
   | false=>rw [hk] at h;cases h
   | true =>
    rw [hk] at h
    simp only [cond_true,Option.map_eq_some_iff] at h
    obtain ⟨t',h1,rfl⟩:=h
    have:=kEq_eq hk;subst this
    exact ⟨k,a,b,cs,ds,t',rfl,rfl,h1,rfl⟩
theorem eqc1 {qs:List Nat} {cs ds:List V} {t:Bool} (h:eqCells (1::qs) cs ds=some t):∃a b cs' ds' t',cs=.str a::cs'∧ds=.str b::ds'∧eqCells qs cs' ds'=some t'∧t=(decide (a=b)&&t'):=by
 cases cs with
 | nil=>simp [eqCells] at h
 | cons c cs=>cases ds with
  | nil=>cases c<;>simp [eqCells] at h
  | cons d ds =>
   cases c<;>cases d<;>simp only [eqCells,reduceCtorEq] at h
   simp only [Option.map_eq_some_iff] at h
   obtain ⟨t',h1,rfl⟩:=h
   exact ⟨_,_,cs,ds,t',rfl,rfl,h1,rfl⟩
theorem eqc2 {qs:List Nat} {cs ds:List V} {t:Bool} (h:eqCells (2::qs) cs ds=some t):∃a b cs' ds' t',cs=.bool a::cs'∧ds=.bool b::ds'∧eqCells qs cs' ds'=some t'∧t=((a==b)&&t'):=by
 cases cs with
 | nil=>simp [eqCells] at h
 | cons c cs=>cases ds with
  | nil=>cases c<;>simp [eqCells] at h
  | cons d ds =>
   cases c<;>cases d<;>simp only [eqCells,reduceCtorEq] at h
   simp only [Option.map_eq_some_iff] at h
   obtain ⟨t',h1,rfl⟩:=h
   exact ⟨_,_,cs,ds,t',rfl,rfl,h1,rfl⟩
def EqF (P:Program) (g:Gh) (w:World) (d:Nat) (n:Nat) (ks:List Nat) (fs:List Field):Prop:=∀(dp:Nat) (vs us:Array Value) (cs ds:List V) (t:Bool),eqCells ks cs ds=some t →
  (∀i c,cs[i]?=some c→VR g w (vs.getD (n+i) undef) c)→(∀i c,ds[i]?=some c→VR g w (us.getD (n+i) undef) c)→n+cs.length≤vs.size→n+ds.length≤us.size →
  (Op.eqFields (dp+d+1) vs us fs).run P w=.ok t w
theorem run_eqL {rec:List Nat→List Field→Bool} {d:Nat} (hrec:∀ks fs,rec ks fs=true→∃d',d=d'+1∧EqF P g w d' 0 ks fs):∀(fs:List Field) (n:Nat) (ks:List Nat),flatL rec P n ks fs=true→EqF P g w d n ks fs:=by
 intro fs
 induction fs with
 | nil =>
  intro n ks hf dp vs us cs ds t he _ _ _ _
  cases ks with
  | cons q qs=>simp [flatL] at hf
  | nil =>
   cases cs<;>cases ds<;>simp [eqCells] at he
   subst he
   rfl
 | cons f fs ih =>
  intro n ks hf dp vs us cs ds t he hc hd hs1 hs2
  simp only [flatL,Bool.and_eq_true] at hf
  obtain ⟨h12,h3⟩:=hf
  obtain ⟨h1,h2⟩:=h12
  have hoff:f.offset=n:=by simpa using h1
  have hnm:f.name ≠ "_":=by simpa using h2
  have rest:∀(qs:List Nat) (c0 d0:V) (cs' ds':List V) (b t':Bool),flatL rec P (n+1) qs fs=true→cs=c0::cs'→ds=d0::ds'→eqCells qs cs' ds'=some t'→t=(b&&t') →
    (∀w':World,(isAgg f.type).run P w'=.ok false w')→(∀v0 u0,VR g w v0 c0→VR g w u0 d0→(Op.equalIn (dp+d+1) f.type v0 u0).run P w=.ok b w) →
    (Op.eqFields (dp+d+1) vs us (f::fs)).run P w=.ok t w:=by
   intro qs c0 d0 cs' ds' b t' h4 e1 e2 ht' ht hagg hb
   subst e1;subst e2
   have v0:=hc 0 c0 rfl
   have u0:=hd 0 d0 rfl
   simp only [Nat.add_zero] at v0 u0
   have hv:vs[n]?=some (vs.getD n undef):=by
    have:n<vs.size:=by simp at hs1;omega
    simp [Array.getD_eq_getD_getElem?,this]
   have hu:us[n]?=some (us.getD n undef):=by
    have:n<us.size:=by simp at hs2;omega
    simp [Array.getD_eq_getD_getElem?,this]
   have hpv:(Go.part f.type vs f.offset).run P w=.ok (vs.getD n undef) w:=by
    unfold Go.part
    simp only [Sem.run_bind,hagg w,Result.andThen_ok,Bool.false_eq_true,if_false,hoff,hv,Sem.run_pure]
   have hpu:(Go.part f.type us f.offset).run P w=.ok (us.getD n undef) w:=by
    unfold Go.part
    simp only [Sem.run_bind,hagg w,Result.andThen_ok,Bool.false_eq_true,if_false,hoff,hu,Sem.run_pure]
   have hrest:=ih (n+1) qs h4 dp vs us cs' ds' t' ht' (fun i c hi=>by have:=hc (i+1) c (by simpa using hi);rwa [show n+(i+1)=n+1+i by omega] at this)
     (fun i c hi=>by have:=hd (i+1) c (by simpa using hi);rwa [show n+(i+1)=n+1+i by omega] at this) (by simp at hs1;omega) (by simp at hs2;omega)
   unfold Op.eqFields
   simp only [hnm,ne_eq,not_false_iff,if_true,Sem.run_bind,hpv,hpu,hb _ _ v0 u0,Result.andThen_ok]
   cases b
   ·simp [ht]
   ·simp [hrest,ht]
  have agg:∀dsc,P.underlying f.type=some dsc→(match dsc with|.struct _|.array _ _=>true|_=>false)=false→∀w':World,(isAgg f.type).run P w'=.ok false w':=by
   intro dsc hu hd w'
   cases dsc<;>simp [isAgg,run_underlying hu] at hd ⊢
  unfold flatF at h3
  split at h3
  ·rename_i qs hu
   obtain ⟨k,a,b,cs',ds',t',rfl,rfl,he',ht'⟩:=eqc0 he
   refine rest qs _ _ cs' ds' (decide (a=b)) t' h3 rfl rfl he' ht' (agg _ hu rfl) fun v0 u0 hv0 hu0=>?_
   rw [hv0.int_inv.1,hu0.int_inv.1,run_equalIn_int w (dp+d) f.type _ _ _ _ hu]
   exact congrArg (fun b=>Result.ok b w) (by rw [Bool.eq_iff_iff];simp)
  ·rename_i qs hu
   obtain ⟨a,b,cs',ds',t',rfl,rfl,he',ht'⟩:=eqc1 he
   refine rest qs _ _ cs' ds' (decide (a=b)) t' h3 rfl rfl he' ht' (agg _ hu rfl) fun v0 u0 hv0 hu0=>?_
   obtain ⟨t0,e0,hx0,_⟩:=hv0.str_inv
   obtain ⟨t1,e1,hx1,_⟩:=hu0.str_inv
   rw [e0,e1,run_equalIn_string w (dp+d) f.type _ _ hu,ByteArray.toList_eq,ByteArray.toList_eq,hx0,hx1]
   exact congrArg (fun b=>Result.ok b w) (by rw [Bool.eq_iff_iff];simp)
  ·rename_i qs hu
   obtain ⟨a,b,cs',ds',t',rfl,rfl,he',ht'⟩:=eqc2 he
   refine rest qs _ _ cs' ds' (a==b) t' h3 rfl rfl he' ht' (agg _ hu rfl) fun v0 u0 hv0 hu0=>?_
   rw [hv0.bool_inv,hu0.bool_inv,run_equalIn_bool' w (dp+d) f.type _ _ hu]
  ·rename_i fs' hu
   split at h3
   ·rename_i inf hi
    simp only [Bool.and_eq_true,Bool.not_eq_true'] at h3
    obtain ⟨⟨⟨a1,a2⟩,a3⟩,a4⟩:=h3
    have a1:=Nat.le_of_ble_eq_true a1
    obtain ⟨t1,t2,e1,e2,rfl,e4,e5⟩:=eqCells_split inf.size a1 he
    obtain ⟨d',rfl,hr⟩:=hrec _ _ a2
    have hsz:∀w':World,(Go.sizeOf f.type).run P w'=.ok inf.size w':=fun w'=>by simp [Go.sizeOf,typeInfo,hi]
    have hag:∀w':World,(isAgg f.type).run P w'=.ok true w':=fun w'=>by simp [isAgg,run_underlying hu]
    have pt:∀(xs:Array Value),(Go.part f.type xs f.offset).run P w=.ok (.agg (xs.extract n (n+inf.size))) w:=fun xs=>by
     unfold Go.part
     simp only [Sem.run_bind,hag w,Result.andThen_ok,if_true,hsz w,Sem.run_pure,hoff]
    have hfo:P.fieldsOf f.type=fs':=by simp [Program.fieldsOf,hu]
    have gd:∀(xs:Array Value) (i:Nat),i<inf.size→n+inf.size≤xs.size→(xs.extract n (n+inf.size)).getD (0+i) undef=xs.getD (n+i) undef:=fun xs i hi hx=>by
     simp only [Array.getD_eq_getD_getElem?,Nat.zero_add]
     rw [Array.getElem?_extract,if_pos (by omega)]
    have l1:(cs.take inf.size).length=inf.size:=by simp;omega
    have l2:(ds.take inf.size).length=inf.size:=by simp;omega
    have h0:=hr dp (vs.extract n (n+inf.size)) (us.extract n (n+inf.size)) (cs.take inf.size) (ds.take inf.size) t1 e1
     (fun i c hi=>by
      have hlt:i<inf.size:=by have:=(List.getElem?_eq_some_iff.1 hi).1;omega
      rw [gd _ _ hlt (by omega)]
      refine hc i c ?_
      rwa [List.getElem?_take,if_pos hlt] at hi)
     (fun i c hi=>by
      have hlt:i<inf.size:=by have:=(List.getElem?_eq_some_iff.1 hi).1;omega
      rw [gd _ _ hlt (by omega)]
      refine hd i c ?_
      rwa [List.getElem?_take,if_pos hlt] at hi)
     (by rw [l1];simp;omega) (by rw [l2];simp;omega)
    have hrest:=ih (n+inf.size) _ a4 dp vs us (cs.drop inf.size) (ds.drop inf.size) t2 e2 (fun i c hi=>by rw [List.getElem?_drop] at hi;have:=hc _ c hi;rwa [←Nat.add_assoc] at this)
     (fun i c hi=>by rw [List.getElem?_drop] at hi;have:=hd _ c hi;rwa [←Nat.add_assoc] at this) (by simp;omega) (by simp;omega)
    unfold Op.eqFields
    have heq:(Op.equalIn (dp+(d'+1)+1) f.type (.agg (vs.extract n (n+inf.size))) (.agg (us.extract n (n+inf.size)))).run P w=.ok t1 w:=by
     rw [run_equalIn_agg w (dp+(d'+1)) f.type _ _ (by rw [hfo];exact hu) a3,hfo]
     exact h0
    simp only [hnm,ne_eq,not_false_iff,if_true,Sem.run_bind,pt,heq,Result.andThen_ok]
    cases t1
    ·simp
    ·simp [hrest]
   ·cases h3
  ·cases h3
theorem run_eqN:∀(d:Nat) (ks:List Nat) (fs:List Field),flatN P d ks fs=true→EqF P g w d 0 ks fs
 | 0,ks,fs,h=>run_eqL (fun _ _ h=>by cases h) fs 0 ks h
 | d+1,ks,fs,h=>run_eqL (fun ks fs h=>⟨d,rfl,run_eqN d ks fs h⟩) fs 0 ks h
theorem s_eqs {ng:Bool} {ks:List Nat} {x y:Opd} (hok:(MIns.eqs ng ks x y).ok P o.op=true) (hR:Rel P c g σ a w) {d:Nat} (h:stepV P (.eqs ng ks x y) d [x.ev σ.env,y.ev σ.env] ob K L) (hF:Fin o c g σ a w K L K'):o.wp P a w K' Q':=by
 cases ho:o.op<;>simp [MIns.ok,ho] at hok
 rename_i op t x' y' t'
 obtain ⟨⟨⟨h1,hx⟩,hy⟩,ht⟩:=hok
 have vx:=Opd.vr hR hx
 have vy:=Opd.vr hR hy
 simp only [stepV,sEqs,evl] at h
 split at h
 ·rename_i cs ds hp hq
  rw [hp] at vx;rw [hq] at vy
  split at h
  ·rename_i b hb
   obtain ⟨vs,ex,lx,rx⟩:=vx.agg_inv
   obtain ⟨us,ey,ly,ry⟩:=vy.agg_inv
   have:∃fs,P.underlying t=some (.struct fs)∧flatN P 3 ks fs.toList=true∧P.stoodInHeld t=false∧P.eqGuardType P.depth t=false:=by
    unfold eqStruct at ht
    split at ht
    ·rename_i fs hu
     simp only [Bool.and_eq_true,Bool.not_eq_true'] at ht
     exact ⟨fs,hu,ht.1.1,ht.1.2,ht.2⟩
    ·cases ht
   obtain ⟨fs,hu,hf,hst,hg⟩:=this
   have hfo:P.fieldsOf t=fs:=by simp [Program.fieldsOf,hu]
   have heq:(Op.equalIn 10000 t (.agg vs) (.agg us)).run P w=.ok b w:=by
    rw [run_equalIn_agg w 9999 t vs us (by rw [hfo];exact hu) hst,hfo]
    exact run_eqN 3 ks fs.toList hf 9995 vs us cs ds b hb (fun i c hi=>by rw [Nat.zero_add];exact rx i c hi) (fun i c hi=>by rw [Nat.zero_add];exact ry i c hi) (by omega) (by omega)
   refine fin_val hR hF (v:=.bool (bif ng then !b else b)) ?_ (.inl h) (.rd (.bool _))
   cases ng<;>simp at h1<;>subst h1<;>simp [execOp,ho,ex,ey,run_eqGuard_agg w _ t x' y' vs us hg,run_eql_struct,run_neq_struct,heq]
  ·exact h.elim
 ·exact h.elim
end
end Go.Ab
