/- The abstract layer, part 18: the reckoning, as a machine of which only the rules are known. -/
import Derived.Test.YtnaeedamiaoipaaGreatDoorAbRun
set_option linter.all false
set_option linter.unusedVariables false
namespace Go.Ab
open Go.RowKit
structure Mach where
 grpC:Cfg→List MOp→List It→List Fr→St→Prop
 kN:Cfg→List Fr→St→Prop
 kX:Cfg→List Fr→Nat→St→Prop
 go:Cfg→MC→List Fr→St→Prop
 ops:Cfg→List MOp→List Fr→St→Prop
 aft:Cfg→Option Nat→List MOp→List Fr→List (Nat×V)→Heap→Eff→Prop
 lok:Cfg→Option Nat→List MOp→List Fr→List (Nat×V)→Heap→Eff→Prop
 opsG:Cfg→MIns→Option Nat→Nat→Bool→List MOp→List Fr→List (Nat×V)→Heap→V→Prop
 goC:Cfg→Opd→MC→MC→List Fr→List (Nat×V)→Heap→V→Prop
 opsD:Cfg→List (List Nat)→List (Nat×V)→Heap→List MOp→List Ent→List Fr→St→Prop
 aftD:Cfg→List (List Nat)→List (Nat×V)→Heap→Option Nat→List Nat→List Nat→List Nat→List MOp→List Ent→List Fr→List (Nat×V)→Heap→Eff→Prop
 lokD:Cfg→List (List Nat)→List (Nat×V)→Heap→Option Nat→List Nat→List Nat→List Nat→List MOp→List Ent→List Fr→List (Nat×V)→Heap→Eff→Prop
 insG:Cfg→List (List Nat)→List (Nat×V)→Heap→MIns→Option Nat→List Nat→List MOp→List Ent→List Fr→List (Nat×V)→Heap→Prop
 opsDG:Cfg→List (List Nat)→List (Nat×V)→Heap→MIns→Option Nat→Nat→Bool→List MOp→List Ent→List Fr→List (Nat×V)→Heap→V→Prop
 go_regI:∀{c:Cfg} {e:List (Nat×V)} {h:Heap} {s:List Fr} {its:List It},go c (.regI its) s ⟨e,h⟩=kN c (.it its::s) ⟨e,h⟩
 kN_it_nil:∀{c:Cfg} {e:List (Nat×V)} {h:Heap} {s:List Fr},kN c (.it []::s) ⟨e,h⟩=kN c s ⟨e,h⟩
 kN_it_op:∀{c:Cfg} {e:List (Nat×V)} {h:Heap} {s:List Fr} {m:MOp} {its:List It},kN c (.it (.op m::its)::s) ⟨e,h⟩=ops c [m] (.it its::s) ⟨e,h⟩
 kN_it_nt:∀{c:Cfg} {e:List (Nat×V)} {h:Heap} {s:List Fr} {n:Note} {its:List It},kN c (.it (.nt n::its)::s) ⟨e,h⟩=stepNote c.H0 n ⟨e,h⟩ (kN c (.it its::s))
 kN_it_grp:∀{c:Cfg} {e:List (Nat×V)} {h:Heap} {s:List Fr} {ms:List MOp} {its:List It},kN c (.it (.grp ms::its)::s) ⟨e,h⟩=grpC c ms its s ⟨e,h⟩
 kX_it:∀{c:Cfg} {e:List (Nat×V)} {h:Heap} {s:List Fr} {its:List It} {n:Nat},kX c (.it its::s) n ⟨e,h⟩=kX c s n ⟨e,h⟩
 go_seq:∀{c:Cfg} {e:List (Nat×V)} {h:Heap} {s:List Fr} {a b:MC},go c (.seq a b) s ⟨e,h⟩=go c a (.sq b::s) ⟨e,h⟩
 go_block:∀{c:Cfg} {e:List (Nat×V)} {h:Heap} {s:List Fr} {id:Nat} {b:MC},go c (.block id b) s ⟨e,h⟩=go c b (.bl id::s) ⟨e,h⟩
 go_skip:∀{c:Cfg} {e:List (Nat×V)} {h:Heap} {s:List Fr},go c .skip s ⟨e,h⟩=kN c s ⟨e,h⟩
 go_ret:∀{c:Cfg} {e:List (Nat×V)} {h:Heap} {s:List Fr},go c .ret s ⟨e,h⟩=c.R ⟨e,h⟩
 go_exit:∀{c:Cfg} {e:List (Nat×V)} {h:Heap} {s:List Fr} {id:Nat},go c (.exit id) s ⟨e,h⟩=kX c s id ⟨e,h⟩
 go_reg:∀{c:Cfg} {e:List (Nat×V)} {h:Heap} {s:List Fr} {ms:List MOp},go c (.reg ms) s ⟨e,h⟩=ops c ms s ⟨e,h⟩
 go_cond:∀{c:Cfg} {e:List (Nat×V)} {h:Heap} {s:List Fr} {x:Opd} {a b:MC},go c (.cond x a b) s ⟨e,h⟩=goC c x a b s e h (x.ev e)
 go_note:∀{c:Cfg} {e:List (Nat×V)} {h:Heap} {s:List Fr} {n:Note} {b:MC},go c (.note n b) s ⟨e,h⟩=stepNote c.H0 n ⟨e,h⟩ (go c b s)
 go_hnote:∀{c:Cfg} {e:List (Nat×V)} {h:Heap} {s:List Fr} {T:St→(St→Prop)→Prop} {b:MC},go c (.hnote T b) s ⟨e,h⟩=T ⟨e,h⟩ (go c b s)
 kN_nil:∀{c:Cfg} {e:List (Nat×V)} {h:Heap},kN c [] ⟨e,h⟩=c.K ⟨e,h⟩
 kN_sq:∀{c:Cfg} {e:List (Nat×V)} {h:Heap} {s:List Fr} {b:MC},kN c (.sq b::s) ⟨e,h⟩=go c b s ⟨e,h⟩
 kN_bl:∀{c:Cfg} {e:List (Nat×V)} {h:Heap} {s:List Fr} {id:Nat},kN c (.bl id::s) ⟨e,h⟩=kN c s ⟨e,h⟩
 kX_nil:∀{c:Cfg} {e:List (Nat×V)} {h:Heap} {n:Nat},kX c [] n ⟨e,h⟩=c.X n ⟨e,h⟩
 kX_sq:∀{c:Cfg} {e:List (Nat×V)} {h:Heap} {s:List Fr} {b:MC} {n:Nat},kX c (.sq b::s) n ⟨e,h⟩=kX c s n ⟨e,h⟩
 kX_bl':∀{c:Cfg} {e:List (Nat×V)} {h:Heap} {s:List Fr} {id n:Nat},kX c (.bl id::s) n ⟨e,h⟩=bif n==id then kN c s ⟨e,h⟩ else kX c s n ⟨e,h⟩
 ops_nil:∀{c:Cfg} {e:List (Nat×V)} {h:Heap} {s:List Fr},ops c [] s ⟨e,h⟩=kN c s ⟨e,h⟩
 ops_guard:∀{c:Cfg} {e:List (Nat×V)} {h:Heap} {s:List Fr} {r:List MOp} {d:Option Nat} {i:MIns} {t:Nat} {w:Bool},ops c (⟨i,d,some (t,w)⟩::r) s ⟨e,h⟩=opsG c i d t w r s e h (get t e)
 ops_ins:∀{c:Cfg} {e:List (Nat×V)} {h:Heap} {s:List Fr} {r:List MOp} {d:Option Nat} {i:MIns},ops c (⟨i,d,none⟩::r) s ⟨e,h⟩=bif cleanL c.H0 ⟨e,h⟩ (i.creates (d.getD 0)) then stepV c.P i (d.getD 0) (i.opds.map (·.ev e)) (obOf h) (aft c d r s e h) (lok c d r s e h) else False
 aft_eq:∀{c:Cfg} {e:List (Nat×V)} {h:Heap} {s:List Fr} {r:List MOp} {d:Option Nat} {v:V} {dr:List Nat} {nw:List (Nat×Obj')},aft c d r s e h ⟨v,dr,nw⟩=ops c r s ⟨setE d v e,puts nw (dels dr h)⟩
 aft_some:∀{c:Cfg} {e:List (Nat×V)} {h:Heap} {s:List Fr} {r:List MOp} {n:Nat} {v:V},compK (aft c (some n) r s e h) v=ops c r s ⟨put n v e,h⟩
 aft_none:∀{c:Cfg} {e:List (Nat×V)} {h:Heap} {s:List Fr} {r:List MOp} {v:V},compK (aft c none r s e h) v=ops c r s ⟨e,h⟩
 aft_up:∀{c:Cfg} {e:List (Nat×V)} {h:Heap} {s:List Fr} {r:List MOp} {n:Nat} {id:Nat} {o:Obj'},compU (aft c (some n) r s e h) id o=ops c r s ⟨put n .any e,put id o h⟩
 aft_upn:∀{c:Cfg} {e:List (Nat×V)} {h:Heap} {s:List Fr} {r:List MOp} {id:Nat} {o:Obj'},compU (aft c none r s e h) id o=ops c r s ⟨e,put id o h⟩
 lok_eq:∀{c:Cfg} {d:Option Nat} {r:List MOp} {s:List Fr} {e:List (Nat×V)} {h:Heap} {f:Eff},lok c d r s e h f=aft c d r s e h f
 lok_comp:∀{c:Cfg} {e:List (Nat×V)} {h:Heap} {s:List Fr} {r:List MOp} {d:Option Nat} {v:V},compK (lok c d r s e h) v=compK (aft c d r s e h) v
 lok_compU:∀{c:Cfg} {e:List (Nat×V)} {h:Heap} {s:List Fr} {r:List MOp} {d:Option Nat} {id:Nat} {o:Obj'},compU (lok c d r s e h) id o=compU (aft c d r s e h) id o
 opsG_tup:∀{c:Cfg} {e:List (Nat×V)} {h:Heap} {s:List Fr} {r:List MOp} {d:Option Nat} {i:MIns} {t:Nat} {w:Bool},opsG c i d t w r s e h (.tup [])=ops c r s ⟨delE d e,h⟩
 opsG_lit_tt:∀{c:Cfg} {e:List (Nat×V)} {h:Heap} {s:List Fr} {r:List MOp} {d:Option Nat} {i:MIns} {t:Nat},opsG c i d t true r s e h (.bool true)=ops c (⟨i,d,none⟩::r) s ⟨put t (.bool true) e,h⟩
 opsG_lit_ff:∀{c:Cfg} {e:List (Nat×V)} {h:Heap} {s:List Fr} {r:List MOp} {d:Option Nat} {i:MIns} {t:Nat},opsG c i d t false r s e h (.bool false)=ops c (⟨i,d,none⟩::r) s ⟨put t (.bool false) e,h⟩
 opsG_lit_tf:∀{c:Cfg} {e:List (Nat×V)} {h:Heap} {s:List Fr} {r:List MOp} {d:Option Nat} {i:MIns} {t:Nat},opsG c i d t false r s e h (.bool true)=ops c r s ⟨delE d (put t (.bool true) e),h⟩
 opsG_lit_ft:∀{c:Cfg} {e:List (Nat×V)} {h:Heap} {s:List Fr} {r:List MOp} {d:Option Nat} {i:MIns} {t:Nat},opsG c i d t true r s e h (.bool false)=ops c r s ⟨delE d (put t (.bool false) e),h⟩
 opsG_dec_t:∀{c:Cfg} {e:List (Nat×V)} {h:Heap} {s:List Fr} {r:List MOp} {d:Option Nat} {i:MIns} {t:Nat} {p:Prop} [Decidable p],opsG c i d t true r s e h (.bool (decide p)) =
  ((p→ops c (⟨i,d,none⟩::r) s ⟨put t (.bool true) e,h⟩)∧(¬p→ops c r s ⟨delE d (put t (.bool false) e),h⟩))
 opsG_dec_f:∀{c:Cfg} {e:List (Nat×V)} {h:Heap} {s:List Fr} {r:List MOp} {d:Option Nat} {i:MIns} {t:Nat} {p:Prop} [Decidable p],opsG c i d t false r s e h (.bool (decide p)) =
  ((¬p→ops c (⟨i,d,none⟩::r) s ⟨put t (.bool false) e,h⟩)∧(p→ops c r s ⟨delE d (put t (.bool true) e),h⟩))
 opsG_any:∀{c:Cfg} {e:List (Nat×V)} {h:Heap} {s:List Fr} {r:List MOp} {d:Option Nat} {i:MIns} {t:Nat} {w:Bool} (b:Bool),opsG c i d t w r s e h (.bool b) =
  ((b=w→ops c (⟨i,d,none⟩::r) s ⟨put t (.bool w) e,h⟩)∧(b=(!w)→ops c r s ⟨delE d (put t (.bool (!w)) e),h⟩))
 goC_t:∀{c:Cfg} {e:List (Nat×V)} {h:Heap} {s:List Fr} {n:Nat} {a b:MC},goC c (.t n) a b s e h (.bool true)=go c a s ⟨put n (.bool true) e,h⟩
 goC_f:∀{c:Cfg} {e:List (Nat×V)} {h:Heap} {s:List Fr} {n:Nat} {a b:MC},goC c (.t n) a b s e h (.bool false)=go c b s ⟨put n (.bool false) e,h⟩
 goC_dec:∀{c:Cfg} {e:List (Nat×V)} {h:Heap} {s:List Fr} {n:Nat} {a b:MC} {p:Prop} [Decidable p],goC c (.t n) a b s e h (.bool (decide p)) =
  ((p→go c a s ⟨put n (.bool true) e,h⟩)∧(¬p→go c b s ⟨put n (.bool false) e,h⟩))
 goC_any:∀{c:Cfg} {e:List (Nat×V)} {h:Heap} {s:List Fr} {n:Nat} {a b:MC} (t:Bool),goC c (.t n) a b s e h (.bool t) =
  ((t=true→go c a s ⟨put n (.bool true) e,h⟩)∧(t=false→go c b s ⟨put n (.bool false) e,h⟩))
 go_regD:∀{c:Cfg} {e:List (Nat×V)} {h:Heap} {s:List Fr} {anc:List (List Nat)} {aft0:List (List Nat)} {ms:List MOp},go c (.regD ms aft0 anc) s ⟨e,h⟩=opsD c anc e h ms [] s ⟨e,h⟩
 opsD_nil:∀{c:Cfg} {e:List (Nat×V)} {h:Heap} {s:List Fr} {anc:List (List Nat)} {e0:List (Nat×V)} {h0:Heap} {log:List Ent},opsD c anc e0 h0 [] log s ⟨e,h⟩=(ChkD c.H0 ⟨e0,h0⟩ 0 anc log.reverse∧kN c s ⟨e,h⟩)
 opsD_ins:∀{c:Cfg} {e:List (Nat×V)} {h:Heap} {s:List Fr} {r:List MOp} {d:Option Nat} {i:MIns} {anc:List (List Nat)} {e0:List (Nat×V)} {h0:Heap} {log:List Ent},opsD c anc e0 h0 (⟨i,d,none⟩::r) log s ⟨e,h⟩=insG c anc e0 h0 i d [] r log s e h
 opsD_guard:∀{c:Cfg} {e:List (Nat×V)} {h:Heap} {s:List Fr} {r:List MOp} {d:Option Nat} {i:MIns} {anc:List (List Nat)} {e0:List (Nat×V)} {h0:Heap} {log:List Ent} {n:Nat} {w:Bool},opsD c anc e0 h0 (⟨i,d,some (n,w)⟩::r) log s ⟨e,h⟩=opsDG c anc e0 h0 i d n w r log s e h (get n e)
 insG_eq:∀{c:Cfg} {e:List (Nat×V)} {h:Heap} {s:List Fr} {r:List MOp} {d:Option Nat} {i:MIns} {anc:List (List Nat)} {e0:List (Nat×V)} {h0:Heap} {log:List Ent} {gs:List Nat},insG c anc e0 h0 i d gs r log s e h=bif cleanL c.H0 ⟨e,h⟩ (i.creates (d.getD 0)) then
  stepD c.P i (d.getD 0) (i.opds.map (·.ev e)) (obOf h) (aftD c anc e0 h0 d (gs++slotsOf i.opds) (i.touch (i.opds.map (·.ev e))) (i.creates (d.getD 0)) r log s e h)
   (lokD c anc e0 h0 d (gs++slotsOf i.opds) (i.touch (i.opds.map (·.ev e))) (i.creates (d.getD 0)) r log s e h)
 else False
 aftD_eq:∀{c:Cfg} {e:List (Nat×V)} {h:Heap} {s:List Fr} {r:List MOp} {d:Option Nat} {anc:List (List Nat)} {e0:List (Nat×V)} {h0:Heap} {log:List Ent} {u:List Nat} {t:List Nat} {m:List Nat} {v:V} {dr:List Nat} {nw:List (Nat×Obj')},aftD c anc e0 h0 d u t m r log s e h ⟨v,dr,nw⟩=opsD c anc e0 h0 r (⟨d,some ⟨v,dr,nw⟩,u,t,m⟩::log) s ⟨setE d v e,puts nw (dels dr h)⟩
 aftD_comp:∀{c:Cfg} {e:List (Nat×V)} {h:Heap} {s:List Fr} {r:List MOp} {d:Option Nat} {anc:List (List Nat)} {e0:List (Nat×V)} {h0:Heap} {log:List Ent} {u:List Nat} {t:List Nat} {m:List Nat} {v:V},compK (aftD c anc e0 h0 d u t m r log s e h) v=opsD c anc e0 h0 r (⟨d,some ⟨v,[],[]⟩,u,t,m⟩::log) s ⟨setE d v e,h⟩
 aftD_up:∀{c:Cfg} {e:List (Nat×V)} {h:Heap} {s:List Fr} {r:List MOp} {d:Option Nat} {anc:List (List Nat)} {e0:List (Nat×V)} {h0:Heap} {log:List Ent} {u:List Nat} {t:List Nat} {m:List Nat} {id:Nat} {o:Obj'},compU (aftD c anc e0 h0 d u t m r log s e h) id o=opsD c anc e0 h0 r (⟨d,some ⟨.any,[],[(id,o)]⟩,u,t,m⟩::log) s ⟨setE d .any e,put id o h⟩
 lokD_eq:∀{c:Cfg} {e:List (Nat×V)} {h:Heap} {s:List Fr} {r:List MOp} {d:Option Nat} {anc:List (List Nat)} {e0:List (Nat×V)} {h0:Heap} {log:List Ent} {u:List Nat} {t:List Nat} {m:List Nat} {f:Eff},lokD c anc e0 h0 d u t m r log s e h f=aftD c anc e0 h0 d u t m r log s e h f
 lokD_comp:∀{c:Cfg} {e:List (Nat×V)} {h:Heap} {s:List Fr} {r:List MOp} {d:Option Nat} {anc:List (List Nat)} {e0:List (Nat×V)} {h0:Heap} {log:List Ent} {u:List Nat} {t:List Nat} {m:List Nat} {v:V},compK (lokD c anc e0 h0 d u t m r log s e h) v=compK (aftD c anc e0 h0 d u t m r log s e h) v
 lokD_compU:∀{c:Cfg} {e:List (Nat×V)} {h:Heap} {s:List Fr} {r:List MOp} {d:Option Nat} {anc:List (List Nat)} {e0:List (Nat×V)} {h0:Heap} {log:List Ent} {u:List Nat} {t:List Nat} {m:List Nat} {id:Nat} {o:Obj'},compU (lokD c anc e0 h0 d u t m r log s e h) id o=compU (aftD c anc e0 h0 d u t m r log s e h) id o
 opsDG_tup:∀{c:Cfg} {e:List (Nat×V)} {h:Heap} {s:List Fr} {r:List MOp} {d:Option Nat} {i:MIns} {anc:List (List Nat)} {e0:List (Nat×V)} {h0:Heap} {log:List Ent} {n:Nat} {w:Bool},opsDG c anc e0 h0 i d n w r log s e h (.tup [])=opsD c anc e0 h0 r (⟨d,none,[n],[],[]⟩::log) s ⟨delE d e,h⟩
 opsDG_tt:∀{c:Cfg} {e:List (Nat×V)} {h:Heap} {s:List Fr} {r:List MOp} {d:Option Nat} {i:MIns} {anc:List (List Nat)} {e0:List (Nat×V)} {h0:Heap} {log:List Ent} {n:Nat},opsDG c anc e0 h0 i d n true r log s e h (.bool true)=insG c anc e0 h0 i d [n] r log s (put n (.bool true) e) h
 opsDG_ff:∀{c:Cfg} {e:List (Nat×V)} {h:Heap} {s:List Fr} {r:List MOp} {d:Option Nat} {i:MIns} {anc:List (List Nat)} {e0:List (Nat×V)} {h0:Heap} {log:List Ent} {n:Nat},opsDG c anc e0 h0 i d n false r log s e h (.bool false)=insG c anc e0 h0 i d [n] r log s (put n (.bool false) e) h
 opsDG_tf:∀{c:Cfg} {e:List (Nat×V)} {h:Heap} {s:List Fr} {r:List MOp} {d:Option Nat} {i:MIns} {anc:List (List Nat)} {e0:List (Nat×V)} {h0:Heap} {log:List Ent} {n:Nat},opsDG c anc e0 h0 i d n false r log s e h (.bool true)=opsD c anc e0 h0 r (⟨d,none,[n],[],[]⟩::log) s ⟨delE d (put n (.bool true) e),h⟩
 opsDG_ft:∀{c:Cfg} {e:List (Nat×V)} {h:Heap} {s:List Fr} {r:List MOp} {d:Option Nat} {i:MIns} {anc:List (List Nat)} {e0:List (Nat×V)} {h0:Heap} {log:List Ent} {n:Nat},opsDG c anc e0 h0 i d n true r log s e h (.bool false)=opsD c anc e0 h0 r (⟨d,none,[n],[],[]⟩::log) s ⟨delE d (put n (.bool false) e),h⟩
 opsDG_dec_t:∀{c:Cfg} {e:List (Nat×V)} {h:Heap} {s:List Fr} {r:List MOp} {d:Option Nat} {i:MIns} {anc:List (List Nat)} {e0:List (Nat×V)} {h0:Heap} {log:List Ent} {n:Nat} {p:Prop} [Decidable p],opsDG c anc e0 h0 i d n true r log s e h (.bool (decide p)) =
  ((p→insG c anc e0 h0 i d [n] r log s (put n (.bool true) e) h)∧(¬p→opsD c anc e0 h0 r (⟨d,none,[n],[],[]⟩::log) s ⟨delE d (put n (.bool false) e),h⟩))
 opsDG_dec_f:∀{c:Cfg} {e:List (Nat×V)} {h:Heap} {s:List Fr} {r:List MOp} {d:Option Nat} {i:MIns} {anc:List (List Nat)} {e0:List (Nat×V)} {h0:Heap} {log:List Ent} {n:Nat} {p:Prop} [Decidable p],opsDG c anc e0 h0 i d n false r log s e h (.bool (decide p)) =
  ((¬p→insG c anc e0 h0 i d [n] r log s (put n (.bool false) e) h)∧(p→opsD c anc e0 h0 r (⟨d,none,[n],[],[]⟩::log) s ⟨delE d (put n (.bool true) e),h⟩))
 opsDG_bool:∀{c:Cfg} {e:List (Nat×V)} {h:Heap} {s:List Fr} {r:List MOp} {d:Option Nat} {i:MIns} {anc:List (List Nat)} {e0:List (Nat×V)} {h0:Heap} {log:List Ent} {n:Nat} {w b:Bool},opsDG c anc e0 h0 i d n w r log s e h (.bool b) =
  gfork b w (insG c anc e0 h0 i d [n] r log s (put n (.bool w) e) h) (opsD c anc e0 h0 r (⟨d,none,[n],[],[]⟩::log) s ⟨delE d (put n (.bool (!w)) e),h⟩)
 go_loop:∀{c:Cfg} {e:List (Nat×V)} {h:Heap} {s:List Fr} {b:MC} {α:Type} (I:α→St) (p:α→Prop) (μ:α→Nat) (ns:List Note),(stepNs c.H0 ns ⟨e,h⟩ fun σ'=>∃x,p x∧SubSt (I x) σ') →
  (∀x,p x→factsSt (I x)→go ⟨c.P,c.H0,fun σ'=>Lk (stepNs c.H0 ns σ' fun σ'=>∃y,p y∧μ y<μ x∧SubSt (I y) σ'),kX c s,c.R⟩ b [] (I x))→go c (.loop b) s ⟨e,h⟩
 go_cut:∀{c:Cfg} {e:List (Nat×V)} {h:Heap} {s:List Fr} {a b:MC} {α:Type} (I:α→St) (p:α→Prop) (ns:List Note),go ⟨c.P,c.H0,fun σ'=>Lk (stepNs c.H0 ns σ' fun σ'=>∃y,p y∧SubSt (I y) σ'),kX c s,c.R⟩ a [] ⟨e,h⟩ →
  (∀y,p y→factsSt (I y)→go c b s (I y))→go c (.cut a b) s ⟨e,h⟩
 go_grp:∀{c:Cfg} {e:List (Nat×V)} {h:Heap} {s:List Fr} {ms:List MOp} {its:List It} {α:Type} (I:α→St) (p:α→Prop),ops ⟨c.P,c.H0,fun σ'=>Lk (∃y,p y∧SubSt (I y) σ'),fun _ _=>False,fun _=>False⟩ ms [] ⟨e,h⟩ →
  (∀y,p y→factsSt (I y)→kN c (.it its::s) (I y))→grpC c ms its s ⟨e,h⟩
 go_rngF:∀{c:Cfg} {e:List (Nat×V)} {h:Heap} {s:List Fr} {q:Opd} {ps:List Nat} {a b:MC} {gf:Nat} {caps:List V} {α:Type} (Hc:Heap) (xss:List (List V)) (pins:List Nat) (I:Nat→α→Heap) (p:Nat→α→Prop) (ns:List Note),
  q.ev e=.fn (.func gf) caps→AIter c.P gf caps Hc xss→SubSt ⟨[],Hc⟩ ⟨e,h⟩→envIn pins e=true→(∀xs∈xss,xs.length=ps.length∧V.withinL [] xs=true)→(∃x,p 0 x∧SubSt ⟨[],I 0 x⟩ ⟨e,h⟩∧∀q∈Hc,find q.1 (I 0 x)=none) →
  (∀k x xs,xss[k]?=some xs→p k x→factsH (I k x)→go ⟨c.P,pinH c.H0 pins,fun σ'=>Lk (stepNs (pinH c.H0 pins) ns σ' fun σ'=>∃y,p (k+1) y∧SubSt ⟨[],I (k+1) y⟩ σ'),fun i σ'=>kX c s i ⟨e,σ'.heap⟩,fun σ'=>c.R ⟨e,σ'.heap⟩⟩ (.seq a b) [] ⟨putPs ps xs e,I k x⟩) →
  a.straight=true→(∀x,p xss.length x→kN c s ⟨e,I xss.length x⟩)→go c (.rngF q ps a b) s ⟨e,h⟩
def mach:Mach where
 grpC:=grpC
 kN:=kN
 kX:=kX
 go:=go
 ops:=ops
 aft:=aft
 lok:=lok
 opsG:=opsG
 goC:=goC
 opsD:=opsD
 aftD:=aftD
 lokD:=lokD
 insG:=insG
 opsDG:=opsDG
 go_regI:=go_regI
 kN_it_nil:=kN_it_nil
 kN_it_op:=kN_it_op
 kN_it_nt:=kN_it_nt
 kN_it_grp:=kN_it_grp
 kX_it:=kX_it
 go_seq:=go_seq
 go_block:=go_block
 go_skip:=go_skip
 go_ret:=go_ret
 go_exit:=go_exit
 go_reg:=go_reg
 go_cond:=go_cond
 go_note:=go_note
 go_hnote:=go_hnote
 kN_nil:=kN_nil
 kN_sq:=kN_sq
 kN_bl:=kN_bl
 kX_nil:=kX_nil
 kX_sq:=kX_sq
 kX_bl':=kX_bl'
 ops_nil:=ops_nil
 ops_guard:=ops_guard
 ops_ins:=ops_ins
 aft_eq:=aft_eq
 aft_some:=aft_some
 aft_none:=aft_none
 aft_up:=aft_up
 aft_upn:=aft_upn
 lok_eq:=lok_eq
 lok_comp:=lok_comp
 lok_compU:=lok_compU
 opsG_tup:=opsG_tup
 opsG_lit_tt:=opsG_lit_tt
 opsG_lit_ff:=opsG_lit_ff
 opsG_lit_tf:=opsG_lit_tf
 opsG_lit_ft:=opsG_lit_ft
 opsG_dec_t:=opsG_dec_t
 opsG_dec_f:=opsG_dec_f
 opsG_any:=opsG_any
 goC_t:=goC_t
 goC_f:=goC_f
 goC_dec:=goC_dec
 goC_any:=goC_any
 go_regD:=go_regD
 opsD_nil:=opsD_nil
 opsD_ins:=opsD_ins
 opsD_guard:=opsD_guard
 insG_eq:=insG_eq
 aftD_eq:=aftD_eq
 aftD_comp:=aftD_comp
 aftD_up:=aftD_up
 lokD_eq:=lokD_eq
 lokD_comp:=lokD_comp
 lokD_compU:=lokD_compU
 opsDG_tup:=opsDG_tup
 opsDG_tt:=opsDG_tt
 opsDG_ff:=opsDG_ff
 opsDG_tf:=opsDG_tf
 opsDG_ft:=opsDG_ft
 opsDG_dec_t:=opsDG_dec_t
 opsDG_dec_f:=opsDG_dec_f
 opsDG_bool:=opsDG_bool
 go_loop:=go_loop
 go_cut:=go_cut
 go_grp:=go_grp
 go_rngF:=go_rngF
theorem acall_machN {P:Program} {f:Nat} {fn:Func} {code:Code} {mc:MC} {args:List V} {H:Heap} {Q:V→Heap→Prop} (ns:List Note) (rids:List Nat) (rs:List RS) (hf:P.funcs[f]?=some fn) (hb:fn.body=some code) (hc:callable P f=true)
  (hnh:mc.nh=true) (hok:mc.ok P fn.ntmps code=true) (hrs:resOK P rs fn.results.toList=true) (hn:Nat.ble args.length fn.ntmps=true) (hg:St.good ⟨enumE 0 args,H⟩=true)
  (h:∀M:Mach,factsSt ⟨enumE 0 args,H⟩→M.go ⟨P,H,atEndN H ns rids rs Q,fun _ _=>False,atEndN H ns rids rs Q⟩ mc [] ⟨enumE 0 args,H⟩):ACall P f args H Q :=
 acall_go ns rids rs hf hb hc hnh hok hrs hn hg fun hfa=>h mach hfa
theorem acall_mach {P:Program} {f:Nat} {fn:Func} {code:Code} {mc:MC} {args:List V} {H:Heap} {Q:V→Heap→Prop} (rids:List Nat) (rs:List RS) (hf:P.funcs[f]?=some fn) (hb:fn.body=some code) (hc:callable P f=true)
  (hnh:mc.nh=true) (hok:mc.ok P fn.ntmps code=true) (hrs:resOK P rs fn.results.toList=true) (hn:Nat.ble args.length fn.ntmps=true) (hg:St.good ⟨enumE 0 args,H⟩=true)
  (h:∀M:Mach,factsSt ⟨enumE 0 args,H⟩→M.go ⟨P,H,atEnd rids rs Q,fun _ _=>False,atEnd rids rs Q⟩ mc [] ⟨enumE 0 args,H⟩):ACall P f args H Q :=
 acall_go [] rids rs hf hb hc hnh hok hrs hn hg fun hfa=>h mach hfa
end Go.Ab
