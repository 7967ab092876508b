/- The abstract layer, part 18: the reckoning, as a machine of which only the rules are known. -/
import Derived.Test.YtbmjlaknnpmgpaaGreatDoorAbSndI
import Derived.Lib.Builder
import Derived.Lib.UnsafeStr
import Derived.Sort.Grow
import Derived.Deep.Draws
import Derived.Shelf.RegionOpenPlain
import Derived.KernelRfl
import Derived.ChangeArms
import Derived.ChangeShapes
import Derived.WideKeyArgs
import Derived.ChangeSame
import Derived.WideShapes
import Derived.Stop.LaidErr
import Derived.Sort.Row
import Derived.Laws.IdiomCopy
import Derived.Lib.SlicesCompact
import Derived.Deep.OwnRows
import Derived.Lib.Overlaps
import Derived.Shelf.SlicesE.DeleteFunc
import Derived.Lib.ItoaLen
import Derived.Lib.AtoiAllCases
import Derived.Lib.SmallJoins
import Derived.Shelf.Strings.Split
set_option linter.all false
set_option linter.unusedVariables false
namespace Go.Ab
open Go.RowKit
structure a0t where
 grpC:Cfg→List MOp→List It→List Fr→St→Prop
 kN:Cfg→List Fr→St→Prop
 kX:Cfg→List Fr→Nat→St→Prop
 go:Cfg→MC→List Fr→St→Prop
 ops:Cfg→List MOp→List Fr→St→Prop
 aft:Cfg→Option Nat→List MOp→List Fr→List (Nat×V)→Heap→Eff→Prop
 lok:Cfg→Option Nat→List MOp→List Fr→List (Nat×V)→Heap→Eff→Prop
 b3s:Cfg→a06→Option Nat→Nat→Bool→List MOp→List Fr→List (Nat×V)→Heap→V→Prop
 goC:Cfg→Opd→MC→MC→List Fr→List (Nat×V)→Heap→V→Prop
 opsD:Cfg→List (List Nat)→List (Nat×V)→Heap→List MOp→List Ent→List Fr→St→Prop
 aftD:Cfg→List (List Nat)→List (Nat×V)→Heap→Option Nat→List Nat→List Nat→List Nat→List MOp→List Ent→List Fr→List (Nat×V)→Heap→Eff→Prop
 lokD:Cfg→List (List Nat)→List (Nat×V)→Heap→Option Nat→List Nat→List Nat→List Nat→List MOp→List Ent→List Fr→List (Nat×V)→Heap→Eff→Prop
 insG:Cfg→List (List Nat)→List (Nat×V)→Heap→a06→Option Nat→List Nat→List MOp→List Ent→List Fr→List (Nat×V)→Heap→Prop
 opsDG:Cfg→List (List Nat)→List (Nat×V)→Heap→a06→Option Nat→Nat→Bool→List MOp→List Ent→List Fr→List (Nat×V)→Heap→V→Prop
 go_regI:∀{c:Cfg} {e:List (Nat×V)} {h:Heap} {s:List Fr} {its:List It},go c (.regI its) s ⟨e,h⟩=kN c (.it its::s) ⟨e,h⟩
 kN_it_nil:∀{c:Cfg} {e:List (Nat×V)} {h:Heap} {s:List Fr},kN c (.it []::s) ⟨e,h⟩=kN c s ⟨e,h⟩
 kN_it_op:∀{c:Cfg} {e:List (Nat×V)} {h:Heap} {s:List Fr} {m:MOp} {its:List It},kN c (.it (.op m::its)::s) ⟨e,h⟩=ops c [m] (.it its::s) ⟨e,h⟩
 kN_it_nt:∀{c:Cfg} {e:List (Nat×V)} {h:Heap} {s:List Fr} {n:a3l} {its:List It},kN c (.it (.nt n::its)::s) ⟨e,h⟩=a0l c.H0 n ⟨e,h⟩ (kN c (.it its::s))
 kN_it_grp:∀{c:Cfg} {e:List (Nat×V)} {h:Heap} {s:List Fr} {ms:List MOp} {its:List It},kN c (.it (.grp ms::its)::s) ⟨e,h⟩=grpC c ms its s ⟨e,h⟩
 kX_it:∀{c:Cfg} {e:List (Nat×V)} {h:Heap} {s:List Fr} {its:List It} {n:Nat},kX c (.it its::s) n ⟨e,h⟩=kX c s n ⟨e,h⟩
 go_seq:∀{c:Cfg} {e:List (Nat×V)} {h:Heap} {s:List Fr} {a b:MC},go c (.seq a b) s ⟨e,h⟩=go c a (.sq b::s) ⟨e,h⟩
 go_block:∀{c:Cfg} {e:List (Nat×V)} {h:Heap} {s:List Fr} {id:Nat} {b:MC},go c (.block id b) s ⟨e,h⟩=go c b (.bl id::s) ⟨e,h⟩
 go_skip:∀{c:Cfg} {e:List (Nat×V)} {h:Heap} {s:List Fr},go c .skip s ⟨e,h⟩=kN c s ⟨e,h⟩
 go_ret:∀{c:Cfg} {e:List (Nat×V)} {h:Heap} {s:List Fr},go c .ret s ⟨e,h⟩=c.R ⟨e,h⟩
 go_exit:∀{c:Cfg} {e:List (Nat×V)} {h:Heap} {s:List Fr} {id:Nat},go c (.exit id) s ⟨e,h⟩=kX c s id ⟨e,h⟩
 go_reg:∀{c:Cfg} {e:List (Nat×V)} {h:Heap} {s:List Fr} {ms:List MOp},go c (.reg ms) s ⟨e,h⟩=ops c ms s ⟨e,h⟩
 go_cond:∀{c:Cfg} {e:List (Nat×V)} {h:Heap} {s:List Fr} {x:Opd} {a b:MC},go c (.cond x a b) s ⟨e,h⟩=goC c x a b s e h (x.ev e)
 go_note:∀{c:Cfg} {e:List (Nat×V)} {h:Heap} {s:List Fr} {n:a3l} {b:MC},go c (.note n b) s ⟨e,h⟩=a0l c.H0 n ⟨e,h⟩ (go c b s)
 go_hnote:∀{c:Cfg} {e:List (Nat×V)} {h:Heap} {s:List Fr} {T:St→(St→Prop)→Prop} {b:MC},go c (.hnote T b) s ⟨e,h⟩=T ⟨e,h⟩ (go c b s)
 kN_nil:∀{c:Cfg} {e:List (Nat×V)} {h:Heap},kN c [] ⟨e,h⟩=c.K ⟨e,h⟩
 kN_sq:∀{c:Cfg} {e:List (Nat×V)} {h:Heap} {s:List Fr} {b:MC},kN c (.sq b::s) ⟨e,h⟩=go c b s ⟨e,h⟩
 kN_bl:∀{c:Cfg} {e:List (Nat×V)} {h:Heap} {s:List Fr} {id:Nat},kN c (.bl id::s) ⟨e,h⟩=kN c s ⟨e,h⟩
 kX_nil:∀{c:Cfg} {e:List (Nat×V)} {h:Heap} {n:Nat},kX c [] n ⟨e,h⟩=c.X n ⟨e,h⟩
 kX_sq:∀{c:Cfg} {e:List (Nat×V)} {h:Heap} {s:List Fr} {b:MC} {n:Nat},kX c (.sq b::s) n ⟨e,h⟩=kX c s n ⟨e,h⟩
 kX_bl':∀{c:Cfg} {e:List (Nat×V)} {h:Heap} {s:List Fr} {id n:Nat},kX c (.bl id::s) n ⟨e,h⟩=bif n==id then kN c s ⟨e,h⟩ else kX c s n ⟨e,h⟩
 ops_nil:∀{c:Cfg} {e:List (Nat×V)} {h:Heap} {s:List Fr},ops c [] s ⟨e,h⟩=kN c s ⟨e,h⟩
 ops_guard:∀{c:Cfg} {e:List (Nat×V)} {h:Heap} {s:List Fr} {r:List MOp} {d:Option Nat} {i:a06} {t:Nat} {w:Bool},ops c (⟨i,d,some (t,w)⟩::r) s ⟨e,h⟩=b3s c i d t w r s e h (get t e)
 ops_ins:∀{c:Cfg} {e:List (Nat×V)} {h:Heap} {s:List Fr} {r:List MOp} {d:Option Nat} {i:a06},ops c (⟨i,d,none⟩::r) s ⟨e,h⟩=bif a11 c.H0 ⟨e,h⟩ (i.creates (d.getD 0)) then w9 c.P i (d.getD 0) (i.opds.map (·.ev e)) (c3l h) (aft c d r s e h) (lok c d r s e h) else False
 aft_eq:∀{c:Cfg} {e:List (Nat×V)} {h:Heap} {s:List Fr} {r:List MOp} {d:Option Nat} {v:V} {dr:List Nat} {nw:List (Nat×a0c)},aft c d r s e h ⟨v,dr,nw⟩=ops c r s ⟨c2u d v e,puts nw (c83 dr h)⟩
 aft_some:∀{c:Cfg} {e:List (Nat×V)} {h:Heap} {s:List Fr} {r:List MOp} {n:Nat} {v:V},a0m (aft c (some n) r s e h) v=ops c r s ⟨put n v e,h⟩
 aft_none:∀{c:Cfg} {e:List (Nat×V)} {h:Heap} {s:List Fr} {r:List MOp} {v:V},a0m (aft c none r s e h) v=ops c r s ⟨e,h⟩
 aft_up:∀{c:Cfg} {e:List (Nat×V)} {h:Heap} {s:List Fr} {r:List MOp} {n:Nat} {id:Nat} {o:a0c},a6z (aft c (some n) r s e h) id o=ops c r s ⟨put n .any e,put id o h⟩
 aft_upn:∀{c:Cfg} {e:List (Nat×V)} {h:Heap} {s:List Fr} {r:List MOp} {id:Nat} {o:a0c},a6z (aft c none r s e h) id o=ops c r s ⟨e,put id o h⟩
 lok_eq:∀{c:Cfg} {d:Option Nat} {r:List MOp} {s:List Fr} {e:List (Nat×V)} {h:Heap} {f:Eff},lok c d r s e h f=aft c d r s e h f
 lok_comp:∀{c:Cfg} {e:List (Nat×V)} {h:Heap} {s:List Fr} {r:List MOp} {d:Option Nat} {v:V},a0m (lok c d r s e h) v=a0m (aft c d r s e h) v
 lok_compU:∀{c:Cfg} {e:List (Nat×V)} {h:Heap} {s:List Fr} {r:List MOp} {d:Option Nat} {id:Nat} {o:a0c},a6z (lok c d r s e h) id o=a6z (aft c d r s e h) id o
 opsG_tup:∀{c:Cfg} {e:List (Nat×V)} {h:Heap} {s:List Fr} {r:List MOp} {d:Option Nat} {i:a06} {t:Nat} {w:Bool},b3s c i d t w r s e h (.tup [])=ops c r s ⟨a5f d e,h⟩
 opsG_lit_tt:∀{c:Cfg} {e:List (Nat×V)} {h:Heap} {s:List Fr} {r:List MOp} {d:Option Nat} {i:a06} {t:Nat},b3s c i d t true r s e h (.bool true)=ops c (⟨i,d,none⟩::r) s ⟨put t (.bool true) e,h⟩
 opsG_lit_ff:∀{c:Cfg} {e:List (Nat×V)} {h:Heap} {s:List Fr} {r:List MOp} {d:Option Nat} {i:a06} {t:Nat},b3s c i d t false r s e h (.bool false)=ops c (⟨i,d,none⟩::r) s ⟨put t (.bool false) e,h⟩
 opsG_lit_tf:∀{c:Cfg} {e:List (Nat×V)} {h:Heap} {s:List Fr} {r:List MOp} {d:Option Nat} {i:a06} {t:Nat},b3s c i d t false r s e h (.bool true)=ops c r s ⟨a5f d (put t (.bool true) e),h⟩
 opsG_lit_ft:∀{c:Cfg} {e:List (Nat×V)} {h:Heap} {s:List Fr} {r:List MOp} {d:Option Nat} {i:a06} {t:Nat},b3s c i d t true r s e h (.bool false)=ops c r s ⟨a5f d (put t (.bool false) e),h⟩
 a9n:∀{c:Cfg} {e:List (Nat×V)} {h:Heap} {s:List Fr} {r:List MOp} {d:Option Nat} {i:a06} {t:Nat} {p:Prop} [Decidable p],b3s c i d t true r s e h (.bool (decide p)) =
  ((p→ops c (⟨i,d,none⟩::r) s ⟨put t (.bool true) e,h⟩)∧(¬p→ops c r s ⟨a5f d (put t (.bool false) e),h⟩))
 a9o:∀{c:Cfg} {e:List (Nat×V)} {h:Heap} {s:List Fr} {r:List MOp} {d:Option Nat} {i:a06} {t:Nat} {p:Prop} [Decidable p],b3s c i d t false r s e h (.bool (decide p)) =
  ((¬p→ops c (⟨i,d,none⟩::r) s ⟨put t (.bool false) e,h⟩)∧(p→ops c r s ⟨a5f d (put t (.bool true) e),h⟩))
 opsG_any:∀{c:Cfg} {e:List (Nat×V)} {h:Heap} {s:List Fr} {r:List MOp} {d:Option Nat} {i:a06} {t:Nat} {w:Bool} (b:Bool),b3s c i d t w r s e h (.bool b) =
  ((b=w→ops c (⟨i,d,none⟩::r) s ⟨put t (.bool w) e,h⟩)∧(b=(!w)→ops c r s ⟨a5f d (put t (.bool (!w)) e),h⟩))
 goC_t:∀{c:Cfg} {e:List (Nat×V)} {h:Heap} {s:List Fr} {n:Nat} {a b:MC},goC c (.t n) a b s e h (.bool true)=go c a s ⟨put n (.bool true) e,h⟩
 goC_f:∀{c:Cfg} {e:List (Nat×V)} {h:Heap} {s:List Fr} {n:Nat} {a b:MC},goC c (.t n) a b s e h (.bool false)=go c b s ⟨put n (.bool false) e,h⟩
 goC_ct:∀{c:Cfg} {e:List (Nat×V)} {h:Heap} {s:List Fr} {v:V} {a b:MC},goC c (.c v) a b s e h (.bool true)=go c a s ⟨e,h⟩
 goC_cf:∀{c:Cfg} {e:List (Nat×V)} {h:Heap} {s:List Fr} {v:V} {a b:MC},goC c (.c v) a b s e h (.bool false)=go c b s ⟨e,h⟩
 b9t:∀{c:Cfg} {e:List (Nat×V)} {h:Heap} {s:List Fr} {n:Nat} {a b:MC} {p:Prop} [Decidable p],goC c (.t n) a b s e h (.bool (decide p)) =
  ((p→go c a s ⟨put n (.bool true) e,h⟩)∧(¬p→go c b s ⟨put n (.bool false) e,h⟩))
 goC_any:∀{c:Cfg} {e:List (Nat×V)} {h:Heap} {s:List Fr} {n:Nat} {a b:MC} (t:Bool),goC c (.t n) a b s e h (.bool t) =
  ((t=true→go c a s ⟨put n (.bool true) e,h⟩)∧(t=false→go c b s ⟨put n (.bool false) e,h⟩))
 go_regD:∀{c:Cfg} {e:List (Nat×V)} {h:Heap} {s:List Fr} {anc:List (List Nat)} {aft0:List (List Nat)} {ms:List MOp},go c (.regD ms aft0 anc) s ⟨e,h⟩=opsD c anc e h ms [] s ⟨e,h⟩
 opsD_nil:∀{c:Cfg} {e:List (Nat×V)} {h:Heap} {s:List Fr} {anc:List (List Nat)} {e0:List (Nat×V)} {h0:Heap} {log:List Ent},opsD c anc e0 h0 [] log s ⟨e,h⟩=(f7u c.H0 ⟨e0,h0⟩ 0 anc log.reverse∧kN c s ⟨e,h⟩)
 opsD_ins:∀{c:Cfg} {e:List (Nat×V)} {h:Heap} {s:List Fr} {r:List MOp} {d:Option Nat} {i:a06} {anc:List (List Nat)} {e0:List (Nat×V)} {h0:Heap} {log:List Ent},opsD c anc e0 h0 (⟨i,d,none⟩::r) log s ⟨e,h⟩=insG c anc e0 h0 i d [] r log s e h
 opsD_guard:∀{c:Cfg} {e:List (Nat×V)} {h:Heap} {s:List Fr} {r:List MOp} {d:Option Nat} {i:a06} {anc:List (List Nat)} {e0:List (Nat×V)} {h0:Heap} {log:List Ent} {n:Nat} {w:Bool},opsD c anc e0 h0 (⟨i,d,some (n,w)⟩::r) log s ⟨e,h⟩=opsDG c anc e0 h0 i d n w r log s e h (get n e)
 insG_eq:∀{c:Cfg} {e:List (Nat×V)} {h:Heap} {s:List Fr} {r:List MOp} {d:Option Nat} {i:a06} {anc:List (List Nat)} {e0:List (Nat×V)} {h0:Heap} {log:List Ent} {gs:List Nat},insG c anc e0 h0 i d gs r log s e h=bif a11 c.H0 ⟨e,h⟩ (i.creates (d.getD 0)) then
  a0y c.P i (d.getD 0) (i.opds.map (·.ev e)) (c3l h) (aftD c anc e0 h0 d (gs++slotsOf i.opds) (i.touch (i.opds.map (·.ev e))) (i.creates (d.getD 0)) r log s e h)
   (lokD c anc e0 h0 d (gs++slotsOf i.opds) (i.touch (i.opds.map (·.ev e))) (i.creates (d.getD 0)) r log s e h)
 else False
 aftD_eq:∀{c:Cfg} {e:List (Nat×V)} {h:Heap} {s:List Fr} {r:List MOp} {d:Option Nat} {anc:List (List Nat)} {e0:List (Nat×V)} {h0:Heap} {log:List Ent} {u:List Nat} {t:List Nat} {m:List Nat} {v:V} {dr:List Nat} {nw:List (Nat×a0c)},aftD c anc e0 h0 d u t m r log s e h ⟨v,dr,nw⟩=opsD c anc e0 h0 r (⟨d,some ⟨v,dr,nw⟩,u,t,m⟩::log) s ⟨c2u d v e,puts nw (c83 dr h)⟩
 aftD_comp:∀{c:Cfg} {e:List (Nat×V)} {h:Heap} {s:List Fr} {r:List MOp} {d:Option Nat} {anc:List (List Nat)} {e0:List (Nat×V)} {h0:Heap} {log:List Ent} {u:List Nat} {t:List Nat} {m:List Nat} {v:V},a0m (aftD c anc e0 h0 d u t m r log s e h) v=opsD c anc e0 h0 r (⟨d,some ⟨v,[],[]⟩,u,t,m⟩::log) s ⟨c2u d v e,h⟩
 aftD_up:∀{c:Cfg} {e:List (Nat×V)} {h:Heap} {s:List Fr} {r:List MOp} {d:Option Nat} {anc:List (List Nat)} {e0:List (Nat×V)} {h0:Heap} {log:List Ent} {u:List Nat} {t:List Nat} {m:List Nat} {id:Nat} {o:a0c},a6z (aftD c anc e0 h0 d u t m r log s e h) id o=opsD c anc e0 h0 r (⟨d,some ⟨.any,[],[(id,o)]⟩,u,t,m⟩::log) s ⟨c2u d .any e,put id o h⟩
 lokD_eq:∀{c:Cfg} {e:List (Nat×V)} {h:Heap} {s:List Fr} {r:List MOp} {d:Option Nat} {anc:List (List Nat)} {e0:List (Nat×V)} {h0:Heap} {log:List Ent} {u:List Nat} {t:List Nat} {m:List Nat} {f:Eff},lokD c anc e0 h0 d u t m r log s e h f=aftD c anc e0 h0 d u t m r log s e h f
 lokD_comp:∀{c:Cfg} {e:List (Nat×V)} {h:Heap} {s:List Fr} {r:List MOp} {d:Option Nat} {anc:List (List Nat)} {e0:List (Nat×V)} {h0:Heap} {log:List Ent} {u:List Nat} {t:List Nat} {m:List Nat} {v:V},a0m (lokD c anc e0 h0 d u t m r log s e h) v=a0m (aftD c anc e0 h0 d u t m r log s e h) v
 lokD_compU:∀{c:Cfg} {e:List (Nat×V)} {h:Heap} {s:List Fr} {r:List MOp} {d:Option Nat} {anc:List (List Nat)} {e0:List (Nat×V)} {h0:Heap} {log:List Ent} {u:List Nat} {t:List Nat} {m:List Nat} {id:Nat} {o:a0c},a6z (lokD c anc e0 h0 d u t m r log s e h) id o=a6z (aftD c anc e0 h0 d u t m r log s e h) id o
 opsDG_tup:∀{c:Cfg} {e:List (Nat×V)} {h:Heap} {s:List Fr} {r:List MOp} {d:Option Nat} {i:a06} {anc:List (List Nat)} {e0:List (Nat×V)} {h0:Heap} {log:List Ent} {n:Nat} {w:Bool},opsDG c anc e0 h0 i d n w r log s e h (.tup [])=opsD c anc e0 h0 r (⟨d,none,[n],[],[]⟩::log) s ⟨a5f d e,h⟩
 opsDG_tt:∀{c:Cfg} {e:List (Nat×V)} {h:Heap} {s:List Fr} {r:List MOp} {d:Option Nat} {i:a06} {anc:List (List Nat)} {e0:List (Nat×V)} {h0:Heap} {log:List Ent} {n:Nat},opsDG c anc e0 h0 i d n true r log s e h (.bool true)=insG c anc e0 h0 i d [n] r log s (put n (.bool true) e) h
 opsDG_ff:∀{c:Cfg} {e:List (Nat×V)} {h:Heap} {s:List Fr} {r:List MOp} {d:Option Nat} {i:a06} {anc:List (List Nat)} {e0:List (Nat×V)} {h0:Heap} {log:List Ent} {n:Nat},opsDG c anc e0 h0 i d n false r log s e h (.bool false)=insG c anc e0 h0 i d [n] r log s (put n (.bool false) e) h
 opsDG_tf:∀{c:Cfg} {e:List (Nat×V)} {h:Heap} {s:List Fr} {r:List MOp} {d:Option Nat} {i:a06} {anc:List (List Nat)} {e0:List (Nat×V)} {h0:Heap} {log:List Ent} {n:Nat},opsDG c anc e0 h0 i d n false r log s e h (.bool true)=opsD c anc e0 h0 r (⟨d,none,[n],[],[]⟩::log) s ⟨a5f d (put n (.bool true) e),h⟩
 opsDG_ft:∀{c:Cfg} {e:List (Nat×V)} {h:Heap} {s:List Fr} {r:List MOp} {d:Option Nat} {i:a06} {anc:List (List Nat)} {e0:List (Nat×V)} {h0:Heap} {log:List Ent} {n:Nat},opsDG c anc e0 h0 i d n true r log s e h (.bool false)=opsD c anc e0 h0 r (⟨d,none,[n],[],[]⟩::log) s ⟨a5f d (put n (.bool false) e),h⟩
 a7i:∀{c:Cfg} {e:List (Nat×V)} {h:Heap} {s:List Fr} {r:List MOp} {d:Option Nat} {i:a06} {anc:List (List Nat)} {e0:List (Nat×V)} {h0:Heap} {log:List Ent} {n:Nat} {p:Prop} [Decidable p],opsDG c anc e0 h0 i d n true r log s e h (.bool (decide p)) =
  ((p→insG c anc e0 h0 i d [n] r log s (put n (.bool true) e) h)∧(¬p→opsD c anc e0 h0 r (⟨d,none,[n],[],[]⟩::log) s ⟨a5f d (put n (.bool false) e),h⟩))
 a7j:∀{c:Cfg} {e:List (Nat×V)} {h:Heap} {s:List Fr} {r:List MOp} {d:Option Nat} {i:a06} {anc:List (List Nat)} {e0:List (Nat×V)} {h0:Heap} {log:List Ent} {n:Nat} {p:Prop} [Decidable p],opsDG c anc e0 h0 i d n false r log s e h (.bool (decide p)) =
  ((¬p→insG c anc e0 h0 i d [n] r log s (put n (.bool false) e) h)∧(p→opsD c anc e0 h0 r (⟨d,none,[n],[],[]⟩::log) s ⟨a5f d (put n (.bool true) e),h⟩))
 opsDG_bool:∀{c:Cfg} {e:List (Nat×V)} {h:Heap} {s:List Fr} {r:List MOp} {d:Option Nat} {i:a06} {anc:List (List Nat)} {e0:List (Nat×V)} {h0:Heap} {log:List Ent} {n:Nat} {w b:Bool},opsDG c anc e0 h0 i d n w r log s e h (.bool b) =
  a3f b w (insG c anc e0 h0 i d [n] r log s (put n (.bool w) e) h) (opsD c anc e0 h0 r (⟨d,none,[n],[],[]⟩::log) s ⟨a5f d (put n (.bool (!w)) e),h⟩)
 go_loop:∀{c:Cfg} {e:List (Nat×V)} {h:Heap} {s:List Fr} {b:MC} {α:Type} (I:α→St) (p:α→Prop) (μ:α→Nat) (ns:List a3l),(a0g c.H0 ns ⟨e,h⟩ fun σ'=>∃x,p x∧a0j (I x) σ') →
  (∀x,p x→factsSt (I x)→go ⟨c.P,c.H0,fun σ'=>Lk (a0g c.H0 ns σ' fun σ'=>∃y,p y∧μ y<μ x∧a0j (I y) σ'),kX c s,c.R⟩ b [] (I x))→go c (.loop b) s ⟨e,h⟩
 go_cut:∀{c:Cfg} {e:List (Nat×V)} {h:Heap} {s:List Fr} {a b:MC} {α:Type} (I:α→St) (p:α→Prop) (ns:List a3l),go ⟨c.P,c.H0,fun σ'=>Lk (a0g c.H0 ns σ' fun σ'=>∃y,p y∧a0j (I y) σ'),kX c s,c.R⟩ a [] ⟨e,h⟩ →
  (∀y,p y→factsSt (I y)→go c b s (I y))→go c (.cut a b) s ⟨e,h⟩
 go_grp:∀{c:Cfg} {e:List (Nat×V)} {h:Heap} {s:List Fr} {ms:List MOp} {its:List It} {α:Type} (I:α→St) (p:α→Prop),ops ⟨c.P,c.H0,fun σ'=>Lk (∃y,p y∧a0j (I y) σ'),fun _ _=>False,fun _=>False⟩ ms [] ⟨e,h⟩ →
  (∀y,p y→factsSt (I y)→kN c (.it its::s) (I y))→grpC c ms its s ⟨e,h⟩
 go_rngF:∀{c:Cfg} {e:List (Nat×V)} {h:Heap} {s:List Fr} {q:Opd} {ps:List Nat} {a b:MC} {gf:Nat} {caps:List V} {α:Type} (Hc:Heap) (xss:List (List V)) (pins:List Nat) (I:Nat→α→Heap) (p:Nat→α→Prop) (ns:List a3l),
  q.ev e=.fn (.func gf) caps→c0g c.P gf caps Hc xss→a0j ⟨[],Hc⟩ ⟨e,h⟩→b7v pins e=true→(∀xs∈xss,xs.length=ps.length∧V.withinL [] xs=true)→(∃x,p 0 x∧a0j ⟨[],I 0 x⟩ ⟨e,h⟩∧∀q∈Hc,find q.1 (I 0 x)=none) →
  (∀k x xs,xss[k]?=some xs→p k x→a90 (I k x)→go ⟨c.P,b5o c.H0 pins,fun σ'=>Lk (a0g (b5o c.H0 pins) ns σ' fun σ'=>∃y,p (k+1) y∧a0j ⟨[],I (k+1) y⟩ σ'),fun i σ'=>kX c s i ⟨e,σ'.heap⟩,fun σ'=>c.R ⟨e,σ'.heap⟩⟩ (.seq a b) [] ⟨b3t ps xs e,I k x⟩) →
  a.straight=true→(∀x,p xss.length x→kN c s ⟨e,I xss.length x⟩)→go c (.rngF q ps a b) s ⟨e,h⟩
def g7k:a0t where
 grpC:=grpC
 kN:=kN
 kX:=kX
 go:=go
 ops:=ops
 aft:=aft
 lok:=lok
 b3s:=b3s
 goC:=goC
 opsD:=opsD
 aftD:=aftD
 lokD:=lokD
 insG:=insG
 opsDG:=opsDG
 go_regI:=go_regI
 kN_it_nil:=kN_it_nil
 kN_it_op:=kN_it_op
 kN_it_nt:=kN_it_nt
 kN_it_grp:=kN_it_grp
 kX_it:=kX_it
 go_seq:=go_seq
 go_block:=go_block
 go_skip:=go_skip
 go_ret:=go_ret
 go_exit:=go_exit
 go_reg:=go_reg
 go_cond:=go_cond
 go_note:=go_note
 go_hnote:=go_hnote
 kN_nil:=kN_nil
 kN_sq:=kN_sq
 kN_bl:=kN_bl
 kX_nil:=kX_nil
 kX_sq:=kX_sq
 kX_bl':=kX_bl'
 ops_nil:=ops_nil
 ops_guard:=ops_guard
 ops_ins:=ops_ins
 aft_eq:=aft_eq
 aft_some:=aft_some
 aft_none:=aft_none
 aft_up:=aft_up
 aft_upn:=aft_upn
 lok_eq:=lok_eq
 lok_comp:=lok_comp
 lok_compU:=lok_compU
 opsG_tup:=opsG_tup
 opsG_lit_tt:=opsG_lit_tt
 opsG_lit_ff:=opsG_lit_ff
 opsG_lit_tf:=opsG_lit_tf
 opsG_lit_ft:=opsG_lit_ft
 a9n:=a9n
 a9o:=a9o
 opsG_any:=opsG_any
 goC_t:=goC_t
 goC_f:=goC_f
 goC_ct:=goC_ct
 goC_cf:=goC_cf
 b9t:=b9t
 goC_any:=goC_any
 go_regD:=go_regD
 opsD_nil:=opsD_nil
 opsD_ins:=opsD_ins
 opsD_guard:=opsD_guard
 insG_eq:=insG_eq
 aftD_eq:=aftD_eq
 aftD_comp:=aftD_comp
 aftD_up:=aftD_up
 lokD_eq:=lokD_eq
 lokD_comp:=lokD_comp
 lokD_compU:=lokD_compU
 opsDG_tup:=opsDG_tup
 opsDG_tt:=opsDG_tt
 opsDG_ff:=opsDG_ff
 opsDG_tf:=opsDG_tf
 opsDG_ft:=opsDG_ft
 a7i:=a7i
 a7j:=a7j
 opsDG_bool:=opsDG_bool
 go_loop:=go_loop
 go_cut:=go_cut
 go_grp:=go_grp
 go_rngF:=go_rngF
theorem c0e {P:Program} {f:Nat} {fn:Func} {code:Code} {mc:MC} {args:List V} {H:Heap} {Q:V→Heap→Prop} (ns:List a3l) (rids:List Nat) (rs:List RS) (hf:P.funcs[f]?=some fn) (hb:fn.body=some code) (hc:callable P f=true)
  (hnh:mc.nh=true) (hok:mc.ok P fn.ntmps code=true) (hrs:a5n P rs fn.results.toList=true) (hn:Nat.ble args.length fn.ntmps=true) (hg:St.good ⟨a4d 0 args,H⟩=true)
  (h:∀M:a0t,factsSt ⟨a4d 0 args,H⟩→M.go ⟨P,H,a1r H ns rids rs Q,fun _ _=>False,a1r H ns rids rs Q⟩ mc [] ⟨a4d 0 args,H⟩):a0o P f args H Q :=
 d3g ns rids rs hf hb hc hnh hok hrs hn hg fun hfa=>h g7k hfa
end Go.Ab
namespace Go.Ab
open Go.RowKit Go.Sort
variable {P:Program}
theorem c4f {b:Bool}:(V.bool b).cells=[.bool b]:=rfl
theorem c8i {k:IntKind} {n:Int}:(V.int k n).cells=[.int k n]:=rfl
theorem c8f {s:List UInt8}:(V.str s).cells=[.str s]:=rfl
theorem c47:V.nils.cells=[.nils]:=rfl
theorem c48:V.nilp.cells=[.nilp]:=rfl
theorem c4a:V.nilm.cells=[.nilm]:=rfl
theorem c4c:V.nilf.cells=[.nilf]:=rfl
theorem c4b:V.nili.cells=[.nili]:=rfl
theorem c8j {cs:List V}:(V.agg cs).cells=cs:=rfl
theorem d2u {xs:List V}:(V.sl xs).cells=[.sl xs]:=rfl
theorem c8g {a b:Nat}:(V.ptr a b).cells=[.ptr a b]:=rfl
theorem c4d {x:V} {b:Nat}:(V.eptr x b).cells=[.eptr x b]:=rfl
theorem c8h {a b c d:Nat}:(V.osl a b c d).cells=[.osl a b c d]:=rfl
theorem c44 {a b c d:Nat}:(V.optr a b c d).cells=[.optr a b c d]:=rfl
theorem c45 {a:Nat}:(V.omap a).cells=[.omap a]:=rfl
theorem c4e {a:Nat}:(V.bptr a).cells=[.bptr a]:=rfl
theorem d2v {f:Fn} {c:List V}:(V.fn f c).cells=[.fn f c]:=rfl
theorem c05 {c:UInt8}:(a13 c).cells=[a13 c]:=rfl
theorem c3w {p:V→Prop} {a:V}:(∀y∈[a],p y)↔p a:=by simp
theorem b9u {p:V→Prop}:(∀y∈([]:List V),p y)↔True:=by simp
theorem d2x {l:List UInt8}:(∀y∈l.map a13,y.cells.length=1)↔True:=by simp [a13,V.cells]
theorem d89 {k:IntKind} {l:List Int}:(∀y∈l.map (fun n=>V.int k n),y.cells.length=1)↔True:=by simp [V.cells]
theorem g0i {vals:Array Value} (h:vals.size=1):vals=#[vals.getD 0 undef]:=by
 refine Array.ext (by simpa using h) fun i h1 h2=>?_
 simp at h2;subst h2
 simp [zC,h]
theorem g4y {vals:Array Value} (h:vals.size=2):vals=#[vals.getD 0 undef,vals.getD 1 undef]:=by
 refine Array.ext (by simpa using h) fun i h1 h2=>?_
 simp at h2
 match i,h2 with
 | 0,_=>simp [zC,h]
 | 1,_=>simp [zC,h]
theorem a1j {f:Nat} {args:List V} {H:Heap} (e:Eff) (hc:callable P f=true)
  (h:∀g w (vals:Array Value),a2l P g w H→vals.size=args.length→(∀(i:Nat) (x:V),args[i]?=some x→VR g w (vals.getD i undef) x) →
   Calls P f vals w fun en w'=>∃v g',en=.returned v∧a07 g H w e g' w'∧a0v H g g' ⟨[],H⟩ e∧VR g' w' v e.val):a0o P f args H (fun r H'=>r=e.val∧H'=e.heap H):=by
 refine ⟨hc,fun g w vals hH hl hv=>(h g w vals hH hl hv).mono ?_⟩
 rintro en w' ⟨v,g',rfl,hs,hf,hvr⟩
 have h1:=a2l.step (σ:=⟨[],H⟩) hH hs hf
 have h0:Frm ⟨w,g,H,0,[],[],H,g,w⟩ g w H:=⟨rfl,rfl,rfl,vL _,fun _ _ _=>rfl,fun id o ho hn=>⟨.inr ⟨id,o,ho,hn,rfl⟩,fun _ h=>by cases h⟩,fun _ h=>h.elim id id,fun _ h=>⟨.inl h,fun _ h=>by cases h⟩,fun id _ _=>Gh.agree.refl g id⟩
 refine ⟨v,e.val,e.heap H,g',rfl,⟨rfl,rfl⟩,h1.2.1,hvr,Frm.step (c:=⟨w,g,H,0,[],[],H,g,w⟩) (σ:=⟨[],H⟩) (ds:=[]) ⟨rfl,fun _ _ h=>(by cases h),fun _ _=>rfl⟩ h0 hs hf,fun id hid=>hs.agree id fun o ho=>?_⟩
 have : ∀{l:List (Nat×a0c)} {G:Heap},(id,o)∈l→find id (puts l G)≠none:=by
  intro l
  induction l with
  | nil=>intro G h;cases h
  | cons p r ih =>
   intro G hm
   obtain ⟨n,q⟩:=p
   rw [puts]
   by_cases hr:∃o',(id,o')∈r
   ·obtain ⟨o',ho'⟩:=hr
    have aux:∀{l:List (Nat×a0c)} {G:Heap} {o':a0c},(id,o')∈l→find id (puts l G)≠none:=by
     intro l
     induction l with
     | nil=>intro G o' h;cases h
     | cons p r ih =>
      intro G o' hm
      obtain ⟨n,q⟩:=p
      rw [puts]
      by_cases hr:∃o',(id,o')∈r
      ·obtain ⟨o'',h''⟩:=hr;exact ih h''
      ·rw [a1h fun o h=>hr ⟨o,h⟩,a0s]
       rcases w4.1 hm with hm|hm
       ·cases hm;simp
       ·exact absurd ⟨_,hm⟩ hr
    exact aux ho'
   ·rw [a1h fun o h=>hr ⟨o,h⟩,a0s]
    rcases w4.1 hm with hm|hm
    ·cases hm;simp
    ·exact absurd ⟨_,hm⟩ hr
 exact this ho hid
theorem a07.grown {g:Gh} {H:Heap} {w w':World} (x:V) (dr:List Nat) (hlt:∀b,g.S b→b<w.heap.size) (h1:w'.os=w.os) (h2:w'.tape=w.tape) (h3:w'.output=w.output) (h4:w.heap.size≤w'.heap.size)
  (h5:∀b,b<w.heap.size→(∀id o,id∈dr→find id H=some o→¬g.nil id→g.ρ id≠b)→w'.heap[b]?=w.heap[b]?):a07 g H w ⟨x,dr,[]⟩ g w' :=
 ⟨h1,h2,h3,h4,fun b hb hn=>h5 b hb fun id o hd=>hn id o (by simpa [Eff.ids] using hd),fun _ h=>h,fun b hb=>.inl hb,fun b hb=>xH (hlt b hb) h4,
  fun id _=>Gh.agree.refl _ _,fun _ _ h=>by simp at h,fun _ _ h=>by simp at h,fun _ _ _ _ h=>by simp at h,fun _ _ h=>by simp at h⟩
theorem a0v.none {H0:Heap} {g:Gh} {σ:St} (x:V) (dr:List Nat):a0v H0 g g σ ⟨x,dr,[]⟩:=fun _ _ h=>by simp at h
theorem c5f {g:Gh} {w:World} (l:List UInt8) (h:l.length≤9223372036854775807):VR g w (.string ⟨l.toArray⟩) (.str l):=by
 have:=Rd.str (S:=g.S) (w:=w) ⟨l.toArray⟩ (by
  have:(ByteArray.mk l.toArray).size=l.length:=by simp [ByteArray.size]
  rw [this];unfold maxLen;omega)
 exact .rd (by simpa using this)
theorem b57 {f:Nat} {args:List V} {r:V} (hc:callable P f=true)
  (h:∀g w (vals:Array Value),a2l P g w []→vals.size=args.length→(∀(i:Nat) (x:V),args[i]?=some x→VR g w (vals.getD i undef) x) →
   Calls P f vals w fun en w'=>∃v,en=.returned v∧(∀g w',VR g w' v r)∧∃k os,w'=grow (w.drewN k) os):a0o P f args [] (fun r' H'=>r'=r∧H'=[]):=by
 refine a1j ⟨r,[],[]⟩ hc fun g w vals hH hl hv=>(h g w vals hH hl hv).mono ?_
 rintro en w' ⟨v,rfl,hvr,k,os,rfl⟩
 refine ⟨v,g,rfl,a07.grown r [] hH.lt rfl rfl rfl ?_ ?_,a0v.none _ _,hvr g _⟩
 ·simp [World.drewN]
 ·intro b hb _
  exact heap_grow_old (w.drewN k) os hb
end Go.Ab
namespace Go.Ab
open Go.RowKit
theorem getD_lt {α:Type} {l:List α} {i:Nat} {d:α} (h:i<l.length):l[i]?=some (l.getD i d):=by simp [h]
theorem c0s {α:Type} [Inhabited α] {k:Nat} {f:α→V} {l:List α} {kk:IntKind} {n:Int} {K L:V→Prop} :
  c95 k (.sl (l.map f)) (.int kk n) K L=((0≤n∧n<l.length)∧(f (l.getD n.toNat default)).cells.length=k∧L (.eptr (f (l.getD n.toNat default)) 0)):=by
 refine propext ⟨fun ⟨h0,y,h1,h2,h3⟩=>?_,fun ⟨⟨h0,h1⟩,h2,h3⟩=>⟨h0,_,?_,h2,h3⟩⟩
 ·rw [xS] at h1
  cases hl:l[n.toNat]? with
  | none=>rw [hl] at h1;cases h1
  | some a =>
   rw [hl] at h1;cases h1
   have hlt:=(zG.1 hl).1
   have e:l.getD n.toNat default=a:=by simp [List.getD,hl]
   rw [e];exact ⟨⟨h0,by omega⟩,h2,h3⟩
 ·rw [xS,getD_lt (by omega)];rfl
theorem c9y {id k k' lo m:Nat} {kk:IntKind} {n:Int} {K L:V→Prop}:c95 k (.osl id k' lo m) (.int kk n) K L=bif Nat.beq k k' then (0≤n∧n<m)∧K (.optr id k (lo+n.toNat) 0) else False:=rfl
theorem d4c {α:Type} [Inhabited α] {f:α→V} {l:List α} {i:Nat} {p:V→Prop}:(∃x,(l.map f)[i]?=some x∧p x)=(i<l.length∧p (f (l.getD i default))):=by
 refine propext ⟨fun ⟨x,h1,h2⟩=>?_,fun ⟨h1,h2⟩=>⟨_,?_,h2⟩⟩
 ·rw [xS] at h1
  cases hl:l[i]? with
  | none=>rw [hl] at h1;cases h1
  | some a =>
   rw [hl] at h1;cases h1
   have e:l.getD i default=a:=by simp [List.getD,hl]
   rw [e];exact ⟨(zG.1 hl).1,h2⟩
 ·rw [xS,getD_lt h1];rfl
theorem c8m {a b:UInt8} (h:a13 a=a13 b):a=b:=by
 simp only [a13,V.int.injEq,true_and] at h
 exact UInt8.toNat_inj.1 (by omega)
theorem bytes_inj {a b:List UInt8} (h:a.map a13=b.map a13):a=b:=List.map_inj_right (fun _ _ h=>c8m h)|>.1 h
theorem b66 {s:List UInt8} {p:List UInt8→Prop}:(∃t:List UInt8,s.map a13=t.map a13∧p t)=p s :=
 propext ⟨fun ⟨t,h1,h2⟩=>by rw [bytes_inj h1];exact h2,fun h=>⟨s,rfl,h⟩⟩
theorem b7t {s:List UInt8} {lo n:Nat} {p:List UInt8→Prop}:(∃t:List UInt8,((s.map a13).drop lo).take n=t.map a13∧t.length=n∧p t)=(((s.drop lo).take n).length=n∧p ((s.drop lo).take n)):=by
 rw [←List.map_drop,←List.map_take]
 exact propext ⟨fun ⟨t,h1,h2,h3⟩=>by rw [bytes_inj h1];exact ⟨h2,h3⟩,fun ⟨h1,h2⟩=>⟨_,rfl,h1,h2⟩⟩
section
variable {M:a0t} {c:Cfg} {d:Option Nat} {r:List MOp} {s:List Fr} {e e0:List (Nat×V)} {h h0:Heap} {anc:List (List Nat)} {u t m:List Nat} {log:List Ent}
theorem a0t.iad_map {α:Type} [Inhabited α] {k:Nat} {f:α→V} {l:List α} {kk:IntKind} {n:Int} {K:V→Prop} :
  c95 k (.sl (l.map f)) (.int kk n) K (a0m (M.lok c d r s e h))=((0≤n∧n<l.length)∧(f (l.getD n.toNat default)).cells.length=k∧a0m (M.aft c d r s e h) (.eptr (f (l.getD n.toNat default)) 0)):=by
 rw [c0s,M.lok_comp]
theorem a0t.iad_mapD {α:Type} [Inhabited α] {k:Nat} {f:α→V} {l:List α} {kk:IntKind} {n:Int} {K:V→Prop} :
  c95 k (.sl (l.map f)) (.int kk n) K (a0m (M.lokD c anc e0 h0 d u t m r log s e h))=((0≤n∧n<l.length)∧(f (l.getD n.toNat default)).cells.length=k∧a0m (M.aftD c anc e0 h0 d u t m r log s e h) (.eptr (f (l.getD n.toNat default)) 0)):=by
 rw [c0s,M.lokD_comp]
theorem a0t.ex_part {α:Type} [Inhabited α] {f:α→V} {l:List α} {i off:Nat} {n:Option Nat} :
  (∃x,(l.map f)[i]?=some x∧part n off x.cells (a0m (M.lok c d r s e h)))=(i<l.length∧part n off (f (l.getD i default)).cells (a0m (M.aft c d r s e h))):=by
 rw [d4c]
 have:a0m (M.lok c d r s e h)=a0m (M.aft c d r s e h):=funext fun v=>M.lok_comp
 rw [this]
theorem a0t.ex_partD {α:Type} [Inhabited α] {f:α→V} {l:List α} {i off:Nat} {n:Option Nat} :
  (∃x,(l.map f)[i]?=some x∧part n off x.cells (a0m (M.lokD c anc e0 h0 d u t m r log s e h)))=(i<l.length∧part n off (f (l.getD i default)).cells (a0m (M.aftD c anc e0 h0 d u t m r log s e h))):=by
 rw [d4c]
 have:a0m (M.lokD c anc e0 h0 d u t m r log s e h)=a0m (M.aftD c anc e0 h0 d u t m r log s e h):=funext fun v=>M.lokD_comp
 rw [this]
theorem a0t.b2s_sl {b:List UInt8}:(∃t:List UInt8,b.map a13=t.map a13∧a0m (M.lok c d r s e h) (.str t))=a0m (M.aft c d r s e h) (.str b):=by rw [b66,M.lok_comp]
theorem a0t.b2s_slD {b:List UInt8}:(∃t':List UInt8,b.map a13=t'.map a13∧a0m (M.lokD c anc e0 h0 d u t m r log s e h) (.str t'))=a0m (M.aftD c anc e0 h0 d u t m r log s e h) (.str b):=by rw [b66,M.lokD_comp]
theorem a0t.b2s_osl {b:List UInt8} {lo n:Nat}:(∃t:List UInt8,((b.map a13).drop lo).take n=t.map a13∧t.length=n∧a0m (M.lok c d r s e h) (.str t))=(((b.drop lo).take n).length=n∧a0m (M.aft c d r s e h) (.str ((b.drop lo).take n))):=by rw [b7t,M.lok_comp]
theorem a0t.b2s_oslD {b:List UInt8} {lo n:Nat}:(∃t':List UInt8,((b.map a13).drop lo).take n=t'.map a13∧t'.length=n∧a0m (M.lokD c anc e0 h0 d u t m r log s e h) (.str t'))=(((b.drop lo).take n).length=n∧a0m (M.aftD c anc e0 h0 d u t m r log s e h) (.str ((b.drop lo).take n))):=by rw [b7t,M.lokD_comp]
end
theorem g7y {a b:Nat}:Nat.blt a b=Nat.ble (a+1) b:=rfl
theorem c9p {α:Type} {f:α→V} {l:List α} {n:Nat}:(l.map f).take n=(l.take n).map f:=List.map_take.symm
theorem d2m {α:Type} {f:α→V} {l:List α} {n:Nat}:(l.map f).drop n=(l.drop n).map f:=List.map_drop.symm
theorem g05 {α:Type} {l:List α}:l.drop 0=l:=rfl
theorem g0f {P:Program} {n0:Nat} {vs:List V} {ob:Nat→Option a0c} {K L:Eff→Prop} {m:b8k} {xs:List Opd}:w9 P (.mp m xs) n0 vs ob K L=a1x m n0 vs ob K L:=propext vR
section
variable {P:Program} {n0:Nat} {vs:List V} {ob:Nat→Option a0c} {K L:Eff→Prop} {xs:List Opd}
theorem g0b {kd:KD}:a0y P (.mp (.mk kd) xs) n0 vs ob K L=a1x (.mk kd) n0 vs ob K L:=propext vR
theorem e9f {kd:KD} {ok:Bool} {z:V}:a0y P (.mp (.lku kd ok z) xs) n0 vs ob K L=a1x (.lku kd ok z) n0 vs ob K L:=propext vR
theorem g07 {kd:KD}:a0y P (.mp (.up kd) xs) n0 vs ob K L=a1x (.up kd) n0 vs ob K L:=propext vR
theorem e96 {kd:KD}:a0y P (.mp (.ups kd) xs) n0 vs ob K L=a1x (.ups kd) n0 vs ob K L:=propext vR
theorem e9h {ng:Bool}:a0y P (.mp (.ifz ng) xs) n0 vs ob K L=a1x (.ifz ng) n0 vs ob K L:=propext vR
theorem e9u {k b:Nat}:a0y P (.mp (.apc k b) xs) n0 vs ob K L=a1x (.apc k b) n0 vs ob K L:=propext vR
theorem e97 {i:Nat}:a0y P (.mp (.tab i) xs) n0 vs ob K L=a1x (.tab i) n0 vs ob K L:=propext vR
theorem f8o:a1x (.tab 1) n0 [] ob K L=K (evl (.agg [.int .i64 1,.int .i64 100,.int .i64 1000,.int .i64 10000])):=propext vR
theorem f8n:a1x (.tab 2) n0 [] ob K L=K (evl (.agg [.int .i64 40,.int .i64 16,.int .i64 4,.int .i64 1])):=propext vR
theorem e9p {kd:KD}:a0y P (.mp (.del kd) xs) n0 vs ob K L=a1x (.del kd) n0 vs ob K L:=propext vR
theorem d93:a0y P (.mp .len xs) n0 vs ob K L=a1x .len n0 vs ob K L:=propext vR
theorem e9a:a0y P (.mp .rng xs) n0 vs ob K L=a1x .rng n0 vs ob K L:=propext vR
theorem e9o:a0y P (.mp .ent xs) n0 vs ob K L=a1x .ent n0 vs ob K L:=propext vR
end
theorem d1q {n:Nat} {kd:KD} {es:List (V×V)}:(V.smap kd es).has n=false:=by simp only [V.has]
theorem c43 {kd:KD} {es:List (V×V)}:(V.smap kd es).cells=[.smap kd es]:=rfl
theorem c6m {k z:V} {ok:Bool}:a3x ok z none=bif ok then .tup [z,.bool false] else z:=rfl
theorem c6l {k z v:V} {ok:Bool}:a3x ok z (some v)=bif ok then .tup [v,.bool true] else v:=rfl
theorem d0z {k:V}:c1j k []=none:=rfl
theorem a0t.opsDG_any {M:a0t} {c:Cfg} {anc:List (List Nat)} {e0 e:List (Nat×V)} {h0 h:Heap} {i:a06} {d:Option Nat} {n:Nat} {w b:Bool} {r:List MOp} {log:List Ent} {s:List Fr}:M.opsDG c anc e0 h0 i d n w r log s e h (.bool b) =
  ((b=w→M.insG c anc e0 h0 i d [n] r log s (put n (.bool w) e) h)∧(b=(!w)→M.opsD c anc e0 h0 r (⟨d,none,[n],[],[]⟩::log) s ⟨a5f d (put n (.bool (!w)) e),h⟩)):=by
 rw [M.opsDG_bool];rfl
attribute [go_sem high] f8o f8n
attribute [go_sem] g0f e96 d5h g4t e9h e9u e97 g0b e9f g07 e9p d93 e9a e9o a1x a9r evl eup KD.is d1q c43 c6m c6l d0z V.shm V.shmL c5j c4q a0c.shm
attribute [go_sem] a0t.go_regI a0t.kN_it_nil a0t.kN_it_op a0t.kN_it_nt a0t.kX_it a0t.go_seq a0t.go_block a0t.go_skip a0t.go_ret a0t.go_exit a0t.go_reg a0t.go_regD
attribute [go_sem low] a0t.goC_any a0t.opsG_any a0t.opsDG_any
attribute [go_sem high] a0t.goC_t a0t.goC_f a0t.goC_ct a0t.goC_cf a0t.opsG_lit_tt a0t.opsG_lit_ff a0t.opsG_lit_tf a0t.opsG_lit_ft a0t.opsDG_tt a0t.opsDG_ff a0t.opsDG_tf a0t.opsDG_ft a0t.opsG_tup a0t.opsDG_tup
attribute [go_sem] a0t.kN_it_grp f08 e9e f9t f0k d9v e9v d97 e0x g7g a1u
attribute [go_sem] a0t.go_cond a0t.kN_nil a0t.kN_sq a0t.kN_bl a0t.kX_nil a0t.kX_sq a0t.kX_bl' a0t.ops_nil a0t.ops_guard a0t.ops_ins a0t.opsD_nil a0t.opsD_ins
attribute [go_sem] a0t.opsD_guard a0t.insG_eq c2q g09 d92 d2r e9q d2q c84 g0c g08 e9d
attribute [go_sem] e9r d96 e9s e9n e9b e9c e9k d95 d94
attribute [go_sem] e98 e9l e9j e9i e9m e9g e9t g0a a0t.aftD_eq a0t.aftD_comp
attribute [go_sem] a0t.aftD_up slotsOf a06.touch vid a0t.aft_eq a0t.aft_some
attribute [go_sem] a0t.aft_none a0t.aft_up a0t.aft_upn
attribute [go_sem] g0e d9q g0h g0d f07 f0h d9t f0i f0f f05 f06 f0c
attribute [go_sem] d9s f04 f0d f0b f09 f0e at_len g0g
attribute [go_sem] d39 f0g c8s d9r f0j d9u d38 c7q d27 d8t c7o
attribute [go_sem] d2e d0j d6f d2o d91 d6u d8k d8l d1r d1s d21 d8q d8i
attribute [go_sem] e87 d22 d8m d8j e86 d1t d1v d1w d1y d1x d8p d1z
attribute [go_sem] d23 c7e c42 c04 d73 c6n a5z a0z a0c.has a06.creates a06.opds a4i
attribute [go_sem] List.map List.append List.reverse List.reverseAux Opd.ev Option.getD Option.isSome Option.isNone c2u puts c83 a5f
attribute [go_sem] vQ vO Bool.and_true Bool.true_and Bool.and_false Bool.false_and Bool.or_false w7 w6 wY d3u b91
attribute [go_sem] sLd sSt e0s b93 e0w d60 e0q e0r e0u g7d g7f g7a
attribute [go_sem] d3s e0v g7e c9y g05 wW e0t d5y sLen sMm d62 g7b
attribute [go_sem] b92 c0t a5l e2j kEq a4d c4t part c4f c8i c8f
attribute [go_sem] c47 c48 c4a c4c c4b c8j d2u c8g c4d c8h c44 c45 c4e
attribute [go_sem] d2v c05 c3w b9u d2x d89 tyJ f0l a8f f5b f4m c2v
attribute [go_sem] sel V.within V.withinL a9i a0c.within vC vF xW a8r b61 a8s b62
attribute [go_sem] and_true true_and a0i wL wE wS g7z setCells wC wO List.take_succ_cons
attribute [go_sem] List.take_zero xF List.all_cons List.all_nil V.one decide_true decide_false wP vL V.nany V.nav a2z V.sealed
attribute [go_sem] V.isB V.sc a0t.go_note a0l c99 c97 c65 V.ren V.renL a0c.ren a5u V.sealOK b6n
attribute [go_sem] V.shut b5g a5t a0c.sealOK a0c.shut wA List.map_append w5 vH xK V.sealL V.sealOKs
attribute [go_sem] ints tape V.unnil V.unnilL
attribute [go_sem] a8z List.zip List.zipWith List.set_cons_succ List.set_cons_zero g7y g7c uvT tyF
attribute [go_sem] c9p d2m List.forall_mem_map implies_true Int.toNat_zero
attribute [go_sem ↓] a0t.iad_map a0t.iad_mapD a0t.ex_part a0t.ex_partD a0t.b2s_sl a0t.b2s_slD a0t.b2s_osl a0t.b2s_oslD
def swN (a b n:Nat):Nat:=bif Nat.beq n a then b else bif Nat.beq n b then a else n
theorem a0h (a b n:Nat):swN a b (swN a b n)=n:=by
 unfold swN
 by_cases h1:n=a
 ·subst h1
  by_cases h2:n=b
  ·subst h2;simp
  ·have:Nat.beq b n=false:=by
    cases h:Nat.beq b n
    ·rfl
    ·exact absurd (zR h).symm h2
   simp [this]
 ·have e1:Nat.beq n a=false:=by
   cases h:Nat.beq n a
   ·rfl
   ·exact absurd (zR h) h1
  by_cases h2:n=b
  ·subst h2;simp [e1]
  ·have e2:Nat.beq n b=false:=by
    cases h:Nat.beq n b
    ·rfl
    ·exact absurd (zR h) h2
   simp [e1,e2]
theorem c5d {a b m n:Nat} (h:swN a b m=swN a b n):m=n:=by
 have:=congrArg (swN a b) h
 rwa [a0h,a0h] at this
mutual
def V.sw (a b:Nat):V→V
 | .ptr id off=>.ptr (swN a b id) off
 | .osl id k lo n=>.osl (swN a b id) k lo n
 | .optr id k i off=>.optr (swN a b id) k i off
 | .omap id=>.omap (swN a b id)
 | .bptr id=>.bptr (swN a b id)
 | .nsl z k xs=>.nsl (swN a b z) k xs
 | .nsmap z k kd es=>.nsmap (swN a b z) k kd es
 | .at_ id x=>.at_ (swN a b id) x
 | .agg cs=>.agg (V.swL a b cs)
 | .tup cs=>.tup (V.swL a b cs)
 | .fn f cs=>.fn f (V.swL a b cs)
 | x=>x
def V.swL (a b:Nat):List V→List V
 | []=>[]
 | x::r=>x.sw a b::V.swL a b r
end
theorem a4b (a b:Nat):∀cs:List V,V.swL a b cs=cs.map (V.sw a b)
 | []=>rfl
 | x::r=>by simp [V.swL,a4b a b r]
mutual
theorem V.sw_sw (a b:Nat):∀x:V,(x.sw a b).sw a b=x
 | .ptr _ _=>by simp [V.sw,a0h]
 | .osl _ _ _ _=>by simp [V.sw,a0h]
 | .optr _ _ _ _=>by simp [V.sw,a0h]
 | .omap _=>by simp [V.sw,a0h]
 | .bptr _=>by simp [V.sw,a0h]
 | .nsl _ _ _=>by simp [V.sw,a0h]
 | .nsmap _ _ _ _=>by simp [V.sw,a0h]
 | .at_ _ _=>by simp [V.sw,a0h]
 | .agg cs=>by simp [V.sw,V.swL_swL a b cs]
 | .tup cs=>by simp [V.sw,V.swL_swL a b cs]
 | .fn _ cs=>by simp [V.sw,V.swL_swL a b cs]
 | .bool _|.int _ _|.str _|.nils|.nilp|.nilm|.nilf|.nili|.ifc _|.sl _|.smap _ _|.eptr _ _|.adr _ _|.any=>by simp [V.sw]
theorem V.swL_swL (a b:Nat):∀cs:List V,V.swL a b (V.swL a b cs)=cs
 | []=>rfl
 | x::r=>by simp [V.swL,V.sw_sw a b x,V.swL_swL a b r]
end
def a0c.sw (a b:Nat):a0c→a0c
 | .cells cs t=>.cells (V.swL a b cs) t
 | .nmap z k kd es=>.nmap (swN a b z) k kd es
 | o=>o
def swH (a b:Nat):Heap→Heap
 | []=>[]
 | (n,o)::r=>(swN a b n,o.sw a b)::swH a b r
theorem a0c.sw_sw (a b:Nat) (o:a0c):(o.sw a b).sw a b=o:=by
 cases o with
 | cells cs t=>simp [a0c.sw,V.swL_swL]
 | arr k xs t=>rfl
 | map kd es=>rfl
 | iter rem cur=>rfl
 | mark=>rfl
 | nmap z k kd es=>simp [a0c.sw,a0h]
theorem b5c (a b:Nat):∀H:Heap,swH a b (swH a b H)=H
 | []=>rfl
 | (n,o)::r=>by simp [swH,a0h,a0c.sw_sw,b5c a b r]
theorem b1n (a b n:Nat):∀H:Heap,find (swN a b n) (swH a b H)=(find n H).map (a0c.sw a b)
 | []=>rfl
 | (m,o)::r=>by
  simp only [swH,find]
  have ih:=b1n a b n r
  cases h:Nat.beq n m with
  | true =>
   have e:=zR h;subst e
   simp
  | false =>
   have:Nat.beq (swN a b n) (swN a b m)=false:=by
    cases h':Nat.beq (swN a b n) (swN a b m) with
    | false=>rfl
    | true =>
     have e:=c5d (zR h');subst e
     simp at h
   simp only [this,vO];exact ih
theorem a4o {a b n:Nat} {H:Heap} {o:a0c} (h:find n (swH a b H)=some o):∃o',find (swN a b n) H=some o'∧o=o'.sw a b:=by
 have:=b1n a b (swN a b n) H
 rw [a0h,h] at this
 cases hf:find (swN a b n) H with
 | none=>rw [hf] at this;cases this
 | some o'=>rw [hf] at this;simp at this;exact ⟨o',rfl,this⟩
def Gh.sw (g:Gh) (a b:Nat):Gh:=⟨g.S,fun i=>g.ρ (swN a b i),fun i=>g.base (swN a b i),fun i=>g.cap (swN a b i),fun i=>g.nil (swN a b i)⟩
theorem Gh.sw_sw (g:Gh) (a b:Nat):(g.sw a b).sw a b=g:=by
 unfold Gh.sw
 simp only [a0h]
variable {P:Program} {g:Gh} {w:World} {a b:Nat}
theorem Rd.sw_same {S:Nat→Prop} {v:Value} {x:V} (h:Rd S w v x):x.sw a b=x:=by
 induction h with
 | agg vs cs hl hr ih =>
  simp only [V.sw,a4b,V.agg.injEq]
  refine xV fun i=>?_
  rw [xS]
  cases hc:cs[i]? with
  | none=>rfl
  | some c=>simp [ih i c hc]
 | _=>rfl
theorem VR.sw {v:Value} {x:V} (h:VR g w v x):VR (g.sw a b) w v (x.sw a b):=by
 induction h with
 | rd h=>rw [h.sw_same];exact .rd h
 | any v=>exact .any v
 | ptr id off =>
  have:=VR.ptr (g:=g.sw a b) (w:=w) (swN a b id) off
  simp only [Gh.sw,a0h] at this
  exact this
 | eptr bl o off cur e fz x hS hg hb hr=>exact .eptr bl o off cur e fz x hS hg hb hr
 | oslnil id k lo h=>exact .oslnil _ k lo (by simp only [Gh.sw,a0h];exact h)
 | osl id k lo len o c h ho hc hl hm =>
  have:=VR.osl (g:=g.sw a b) (w:=w) (swN a b id) k lo len o c (by simp only [Gh.sw,a0h];exact h) (by simp only [Gh.sw,a0h];exact ho) (by simp only [Gh.sw,a0h];exact hc) hl hm
  simp only [Gh.sw,a0h] at this
  exact this
 | optr id k i off =>
  have:=VR.optr (g:=g.sw a b) (w:=w) (swN a b id) k i off
  simp only [Gh.sw,a0h] at this
  exact this
 | omap id =>
  have:=VR.omap (g:=g.sw a b) (w:=w) (swN a b id)
  simp only [Gh.sw,a0h] at this
  exact this
 | bnil id=>exact .bnil _
 | bself id =>
  have:=VR.bself (g:=g.sw a b) (w:=w) (swN a b id)
  simp only [Gh.sw,a0h] at this
  exact this
 | at_ id q v h=>exact VR.at_ (g:=g.sw a b) (w:=w) (swN a b id) q v (by simp only [Gh.sw,a0h];exact h)
 | nsl z k xs v h =>
  have:=VR.nsl (g:=g.sw a b) (w:=w) (swN a b z) k xs v (by simp only [Gh.sw,a0h];exact h)
  exact this
 | nsmap bl z k kd ents clock es hr hS hg hn =>
  exact VR.nsmap (g:=g.sw a b) (w:=w) bl (swN a b z) k kd ents clock es hr hS hg (by simp only [Gh.sw,a0h];exact hn)
 | agg vs cs hl hr ih =>
  simp only [V.sw,a4b]
  refine .agg vs _ (by simpa using hl) fun i c hc=>?_
  rw [xS] at hc
  cases hx:cs[i]? with
  | none=>rw [hx] at hc;cases hc
  | some y=>rw [hx] at hc;cases hc;exact ih i y hx
 | tup vs cs hl hr ih =>
  simp only [V.sw,a4b]
  refine .tup vs _ (by simpa using hl) fun i c hc=>?_
  rw [xS] at hc
  cases hx:cs[i]? with
  | none=>rw [hx] at hc;cases hc
  | some y=>rw [hx] at hc;cases hc;exact ih i y hx
 | fn f vs cs hl hr ih =>
  simp only [V.sw,a4b]
  refine .fn f vs _ (by simpa using hl) fun i c hc=>?_
  rw [xS] at hc
  cases hx:cs[i]? with
  | none=>rw [hx] at hc;cases hc
  | some y=>rw [hx] at hc;cases hc;exact ih i y hx
 | bnd f vs cs hl hr ih =>
  simp only [V.sw,a4b]
  refine .bnd f vs _ (by simpa using hl) fun i c hc=>?_
  rw [xS] at hc
  cases hx:cs[i]? with
  | none=>rw [hx] at hc;cases hc
  | some y=>rw [hx] at hc;cases hc;exact ih i y hx
theorem OR.sw {id:Nat} {o:a0c} (h:OR g w id o):OR (g.sw a b) w (swN a b id) (o.sw a b):=by
 cases o with
 | cells cs t =>
  obtain ⟨hn,cur,e,fz,h1,h2,h3,h4⟩:=h
  refine ⟨by simp only [Gh.sw,a0h];exact hn,cur,e,fz,by simp only [Gh.sw,a0h];exact h1,by rw [a4b];simpa using h2,h3,fun i c hc=>?_⟩
  rw [a4b,xS] at hc
  cases hx:cs[i]? with
  | none=>rw [hx] at hc;cases hc
  | some y=>rw [hx] at hc;cases hc;exact (h4 i y hx).sw
 | arr k xs t =>
  simp only [OR,Gh.sw,a0c.sw,a0h];exact h
 | map kd es =>
  simp only [OR,Gh.sw,a0c.sw,a0h];exact h
 | iter rem cur =>
  simp only [OR,Gh.sw,a0c.sw,a0h];exact h
 | mark =>
  simp only [OR,Gh.sw,a0c.sw,a0h];exact h
 | nmap z k kd es =>
  simp only [OR,Gh.sw,a0c.sw,a0h];exact h
theorem a2l.sw {H:Heap} (h:a2l P g w H):a2l P (g.sw a b) w (swH a b H):=by
 refine ⟨fun id o ho=>?_,fun i j o o' hi hj hni hnj he=>?_,fun id o ho hn=>?_,h.lt,h.tabs⟩
 ·obtain ⟨o',h1,rfl⟩:=a4o ho
  have:=(h.obj _ _ h1).sw (a:=a) (b:=b)
  rwa [a0h] at this
 ·obtain ⟨o1,h1,_⟩:=a4o hi
  obtain ⟨o2,h2,_⟩:=a4o hj
  exact c5d (h.inj _ _ _ _ h1 h2 hni hnj he)
 ·obtain ⟨o1,h1,_⟩:=a4o ho
  exact h.sep _ _ h1 hn
theorem Gh.agree.sw {g g':Gh} {id:Nat} (h:g.agree g' (swN a b id)):(g.sw a b).agree (g'.sw a b) id:=h
theorem Frm.sw {w0:World} {g0:Gh} {H0 H:Heap} (h:Frm ⟨w0,g0,H0,0,[],[],H0,g0,w0⟩ g w H):Frm ⟨w0,g0.sw a b,swH a b H0,0,[],[],swH a b H0,g0.sw a b,w0⟩ (g.sw a b) w (swH a b H):=by
 have hM:∀bl,Ctx.M ⟨w0,g0,H0,0,[],[],H0,g0,w0⟩ bl→Ctx.M ⟨w0,g0.sw a b,swH a b H0,0,[],[],swH a b H0,g0.sw a b,w0⟩ bl:=by
  rintro bl ⟨id,o,h1,h2,h3⟩
  refine ⟨swN a b id,o.sw a b,?_,?_,?_⟩
  ·show find _ (swH a b H0)=_;rw [b1n,h1];rfl
  ·simp only [Gh.sw,a0h];exact h2
  ·simp only [Gh.sw,a0h];exact h3
 refine ⟨h.os,h.tape,h.output,h.size,fun bl hb hn=>h.old bl hb fun hm=>hn (hM bl hm),fun id o ho hn=>?_,h.sup,fun bl hb=>?_,fun id o ho=>?_⟩
 ·obtain ⟨o1,h1,_⟩:=a4o ho
  rcases (h.own _ _ h1 hn).1 with h2|h2
  ·exact ⟨.inl h2,fun _ h=>by cases h⟩
  ·exact ⟨.inr (hM _ h2),fun _ h=>by cases h⟩
 ·rcases (h.sub bl hb).1 with h1|h1|h1
  ·exact ⟨.inl h1,fun _ h=>by cases h⟩
  ·exact ⟨.inr (.inl h1),fun _ h=>by cases h⟩
  ·exact ⟨.inr (.inr (hM bl h1)),fun _ h=>by cases h⟩
 ·obtain ⟨o1,h1,_⟩:=a4o ho
  exact (h.par _ _ h1).sw
theorem d3f {f:Nat} {args:List V} {H:Heap} {Q:V→Heap→Prop} (a b:Nat) (h:a0o P f args H Q):a0o P f (V.swL a b args) (swH a b H) (fun r H'=>Q (r.sw a b) (swH a b H')):=by
 refine ⟨h.1,fun g w vals hH hl hv=>?_⟩
 have h1:=hH.sw (a:=a) (b:=b)
 rw [b5c] at h1
 refine (h.2 (g.sw a b) w vals h1 (by rw [hl,a4b];simp) fun i x hx=>?_).mono ?_
 ·have:=(hv i (x.sw a b) (by rw [a4b,xS,hx];rfl)).sw (a:=a) (b:=b)
  rwa [V.sw_sw] at this
 ·rintro en w' ⟨v,r,H',g',rfl,hq,hH',hv',hf,ha⟩
  refine ⟨v,r.sw a b,swH a b H',g'.sw a b,rfl,by simp only [V.sw_sw,b5c];exact hq,hH'.sw,hv'.sw,?_,fun id hid=>?_⟩
  ·have:=hf.sw (a:=a) (b:=b)
   rwa [Gh.sw_sw] at this
  ·have h2:find (swN a b id) H'=none:=by
    have:=b1n a b (swN a b id) H'
    rw [a0h,hid] at this
    cases hf:find (swN a b id) H' with
    | none=>rfl
    | some o=>rw [hf] at this;cases this
   have:=(ha _ h2).sw (a:=a) (b:=b) (id:=id)
   rwa [Gh.sw_sw] at this
theorem a0w {f:Nat} {args:List V} {H:Heap} {r0:V} {H1:Heap} (a b:Nat) (h:a0o P f args H (fun r H'=>r=r0∧H'=H1)):a0o P f (V.swL a b args) (swH a b H) (fun r H'=>r=r0.sw a b∧H'=swH a b H1):=by
 refine (d3f a b h).mono fun r H' ⟨h1,h2⟩=>?_
 exact ⟨by rw [←h1,V.sw_sw],by rw [←h2,b5c]⟩
end Go.Ab
namespace Go.Ab
open Go.RowKit
noncomputable section
abbrev Str:=List UInt8
def Ok {α:Type} (o:Option α) (Q:α→Prop):Prop:=∃y,o=some y∧Q y
theorem b06 {α:Type} {x:α} {Q:α→Prop}:Ok (some x) Q=Q x:=propext ⟨fun ⟨_,e,h⟩=>by cases e;exact h,fun h=>⟨x,rfl,h⟩⟩
theorem b3n {α:Type} {Q:α→Prop}:Ok none Q=False:=by simp [Ok]
theorem a7t {α β:Type} {o:Option α} {f:α→Option β} {Q:β→Prop}:Ok (o.bind f) Q=∃y,o=some y∧Ok (f y) Q:=propext
 ⟨fun ⟨z,e,h⟩=>by
  cases o with
  | none=>cases e
  | some y=>exact ⟨y,rfl,z,e,h⟩,fun ⟨y,e,z,e',h⟩=>⟨z,by rw [e];exact e',h⟩⟩
theorem d4j {α:Type} {b:Bool} {x y:Option α} {Q:α→Prop}:Ok (bif b then x else y) Q=((b=true→Ok x Q)∧(b=false→Ok y Q)):=by
 cases b<;>simp
def chk {α:Type} (b:Bool) (o:Option α):Option α:=bif b then o else none
theorem d4k {α:Type} {b:Bool} {o:Option α} {Q:α→Prop}:Ok (chk b o) Q=(b=true∧Ok o Q):=by
 cases b<;>simp [chk,b3n]
theorem o8 {α:Type} {b:Bool} {o:Option α} (h:b=true):chk b o=o:=by rw [h];rfl
def jn {α β:Type} (o:Option α) (f:α→Option β):Option β:=o.bind f
theorem d88 {α β:Type} {o:Option α} {f:α→Option β}:jn o f=o.bind f:=rfl
def grp {α β:Type} (x:α) (f:α→Option β):Option β:=f x
theorem e8a {α β:Type} {x:α} {f:α→Option β}:grp x f=f x:=rfl
def a0p (n:Int):Bool:=decide (-9223372036854775808≤n)&&decide (n≤9223372036854775807)
theorem a1q {n:Int}:a0p n=true↔-9223372036854775808≤n∧n≤9223372036854775807:=by simp [a0p]
theorem e3p {n:Int}:rng .i64 n=(a0p n=true):=propext (by simp [rng,a0p])
def inb (i:Int) (n:Nat):Bool:=decide (0≤i)&&decide (i<n)
theorem q9 {i:Int} {n:Nat}:inb i n=true↔0≤i∧i<n:=by simp [inb]
theorem a1s {i:Int} {n:Nat} (h:inb i n=true):i.toNat<n:=by have:=q9.1 h;omega
def inc (a b:Int) (n:Nat):Bool:=decide (0≤a)&&(decide (a≤b)&&decide (b≤n))
theorem a4c {a b:Int} {n:Nat}:inc a b n=true↔0≤a∧a≤b∧b≤n:=by simp [inc]
def room (n bytes:Nat):Bool:=decide (n*bytes≤140737488355328)
theorem a6o {n b:Nat}:room n b=true↔n*b≤140737488355328:=by simp [room]
def b0z (n m:Int) (b:Nat):Bool:=decide (0≤n)&&(decide (n≤m)&&decide (m*b≤140737488355328))
theorem a2f {n m:Int} {b:Nat}:b0z n m b=true↔0≤n∧n≤m∧m*b≤140737488355328:=by simp [b0z]
def at' {α:Type} [Inhabited α] (xs:List α) (i:Int):α:=xs.getD i.toNat default
inductive Fl (σ ρ:Type) where
 | nx (s:σ)
 | ex (r:ρ)
def Fl.elim {σ ρ γ:Type} (f:σ→γ) (g:ρ→γ):Fl σ ρ→γ
 | .nx s=>f s
 | .ex r=>g r
theorem a1t {σ ρ γ:Type} {f:σ→γ} {g:ρ→γ} {s:σ}:Fl.elim f g (.nx s)=f s:=rfl
theorem a1p {σ ρ γ:Type} {f:σ→γ} {g:ρ→γ} {r:ρ}:Fl.elim f g (.ex r)=g r:=rfl
def a10 {α σ ρ:Type} (body:Int→α→σ→Option (Fl σ ρ)):List α→Int→σ→Option (Fl σ ρ)
 | [],_,s=>some (.nx s)
 | x::r,i,s=>(body i x s).bind fun o=>o.elim (fun s'=>a10 body r (i+1) s') fun e=>some (.ex e)
def a0d {α σ:Type} (body:Int→α→σ→Option σ):List α→Int→σ→Option σ
 | [],_,s=>some s
 | x::r,i,s=>(body i x s).bind fun s'=>a0d body r (i+1) s'
def iter {σ ρ:Type} (step:σ→Option (Fl σ ρ)):Nat→σ→Option ρ
 | 0,_=>none
 | n+1,s=>(step s).bind fun o=>o.elim (iter step n) some
theorem b2p {σ ρ:Type} {step:σ→Option (Fl σ ρ)}:∀{n m:Nat} {s:σ} {r:ρ},n≤m→iter step n s=some r→iter step m s=some r
 | 0,_,_,_,_,h=>by cases h
 | n+1,0,_,_,hle,_=>by omega
 | n+1,m+1,s,r,hle,h=>by
  simp only [iter] at h ⊢
  cases hs:step s with
  | none=>rw [hs] at h;cases h
  | some o =>
   rw [hs] at h
   cases o with
   | nx s'=>exact b2p (n:=n) (m:=m) (by omega) h
   | ex r'=>exact h
open Classical in
def loop {σ ρ:Type} (step:σ→Option (Fl σ ρ)) (s:σ):Option ρ:=if h:∃n r,iter step n s=some r then iter step h.choose s else none
theorem a8l {σ ρ:Type} {step:σ→Option (Fl σ ρ)} {s:σ} {r:ρ}:loop step s=some r↔∃n,iter step n s=some r:=by
 unfold loop
 constructor
 ·intro h
  split at h
  ·exact ⟨_,h⟩
  ·cases h
 ·rintro ⟨n,h⟩
  have hx:∃n r,iter step n s=some r:=⟨n,r,h⟩
  rw [dif_pos hx]
  obtain ⟨r',h'⟩:=hx.choose_spec
  have a:=b2p (Nat.le_max_left hx.choose n) h'
  have b:=b2p (Nat.le_max_right hx.choose n) h
  rw [a] at b;rw [h',b]
theorem b2f {σ ρ:Type} {step:σ→Option (Fl σ ρ)} {s:σ}:loop step s=(step s).bind fun o=>o.elim (loop step) some:=by
 apply Option.ext
 intro r
 rw [a8l]
 constructor
 ·rintro ⟨n,h⟩
  cases n with
  | zero=>cases h
  | succ n =>
   simp only [iter] at h
   cases hs:step s with
   | none=>rw [hs] at h;cases h
   | some o =>
    rw [hs] at h
    cases o with
    | nx s'=>exact a8l.2 ⟨n,h⟩
    | ex r'=>exact h
 ·intro h
  cases hs:step s with
  | none=>rw [hs] at h;cases h
  | some o =>
   rw [hs] at h
   cases o with
   | nx s' =>
    obtain ⟨n,hn⟩:=a8l.1 h
    exact ⟨n+1,by simp only [iter,hs];exact hn⟩
   | ex r'=>exact ⟨1,by simp only [iter,hs];exact h⟩
open Classical in
def b6v {α γ:Type} (f:List α→Option γ) (es:List α):Option γ:=if h:∃r,∀l,l.Perm es→f l=some r then some h.choose else none
theorem b5p {α γ:Type} {f:List α→Option γ} {es:List α} {r:γ} (h:∀l,l.Perm es→f l=some r):b6v f es=some r:=by
 have hx:∃r,∀l,l.Perm es→f l=some r:=⟨r,h⟩
 unfold b6v
 rw [dif_pos hx]
 have:=hx.choose_spec es (List.Perm.refl _)
 rw [h es (List.Perm.refl _)] at this;exact this.symm
theorem c6d {α γ:Type} {f:List α→Option γ} {es:List α} {r:γ} (h:b6v f es=some r):∀l,l.Perm es→f l=some r:=by
 unfold b6v at h
 split at h
 ·rename_i hx;cases h;exact hx.choose_spec
 ·cases h
section
variable {M:a0t} {c:Cfg} {e:List (Nat×V)} {h:Heap} {s:List Fr}
theorem a0t.go_jn {α β:Type} {a b:MC} {A:Option α} {B:α→Option β} {Q:β→Prop} (I:α→St) (ns:List a3l) (hF:Ok (jn A B) Q)
  (h1:∀(Qn:α→Prop) (K:St→Prop),(∀σ',(a0g c.H0 ns σ' fun σ'=>∃y,Qn y∧a0j (I y) σ')→K σ')→Ok A Qn→M.go ⟨c.P,c.H0,K,M.kX c s,c.R⟩ a [] ⟨e,h⟩)
  (h2:∀y,Ok (B y) Q→factsSt (I y)→M.go c b s (I y)):M.go c (.cut a b) s ⟨e,h⟩:=by
 rw [d88,a7t] at hF
 obtain ⟨y0,e0,h0⟩:=hF
 exact M.go_cut I (fun y=>Ok (B y) Q) ns (h1 _ _ (fun σ' h=>Lk.mk h) ⟨y0,e0,h0⟩) h2
theorem a0t.go_gr {α:Type} {ms:List MOp} {its:List It} {A:Option α} {β:Type} {B:α→Option β} {Q:β→Prop} (I:α→St) (hF:Ok (jn A B) Q)
  (h1:∀(Qn:α→Prop) (K:St→Prop),(∀σ',(∃y,Qn y∧a0j (I y) σ')→K σ')→Ok A Qn→M.ops ⟨c.P,c.H0,K,fun _ _=>False,fun _=>False⟩ ms [] ⟨e,h⟩)
  (h2:∀y,Ok (B y) Q→factsSt (I y)→M.kN c (.it its::s) (I y)):M.grpC c ms its s ⟨e,h⟩:=by
 rw [d88,a7t] at hF
 obtain ⟨y0,e0,h0⟩:=hF
 exact M.go_grp I (fun y=>Ok (B y) Q) (h1 _ _ (fun σ' h=>Lk.mk h) ⟨y0,e0,h0⟩) h2
theorem a0t.go_gv {α:Type} {ms:List MOp} {its:List It} {x:α} {β:Type} {B:α→Option β} {Q:β→Prop} (I:α→St) (hF:Ok (grp x B) Q)
  (h1:∀(K:St→Prop),(∀σ',a0j (I x) σ'→K σ')→M.ops ⟨c.P,c.H0,K,fun _ _=>False,fun _=>False⟩ ms [] ⟨e,h⟩)
  (h2:Ok (B x) Q→M.kN c (.it its::s) (I x)):M.grpC c ms its s ⟨e,h⟩:=by
 rw [e8a] at hF
 exact M.go_grp (fun _:Unit=>I x) (fun _=>True) (h1 _ fun σ' h=>Lk.mk ⟨(),trivial,h⟩) fun _ _ hf=>h2 hF
theorem a0t.go_while {σ ρ:Type} {b:MC} {step:σ→Option (Fl σ ρ)} {s0:σ} {Q:ρ→Prop} (I:σ→St) (ns:List a3l) (hF:Ok (loop step s0) Q)
  (h0:a0g c.H0 ns ⟨e,h⟩ fun σ'=>a0j (I s0) σ')
  (round:∀(x:σ) (Qn:σ→Prop) (K:St→Prop),(∀σ',(a0g c.H0 ns σ' fun σ'=>∃y,Qn y∧a0j (I y) σ')→K σ')→Ok (step x) (Fl.elim Qn Q)→factsSt (I x)→M.go ⟨c.P,c.H0,K,M.kX c s,c.R⟩ b [] (I x)):M.go c (.loop b) s ⟨e,h⟩:=by
 obtain ⟨r,hr,hQ⟩:=hF
 obtain ⟨n,hn⟩:=a8l.1 hr
 refine M.go_loop (fun x:Nat×σ=>I x.2) (fun x=>Ok (iter step x.1 x.2) Q) (fun x=>x.1) ns (a1c (fun σ' h=>⟨(n,s0),⟨r,hn,hQ⟩,h⟩) h0) fun x hx hf=>?_
 obtain ⟨m,x⟩:=x
 obtain ⟨r',hr',hQ'⟩:=hx
 cases m with
 | zero=>cases hr'
 | succ m =>
  refine round x (fun y=>Ok (iter step m y) Q) _ (fun σ' h=>Lk.mk (a1c (fun σ'' ⟨y,h1,h2⟩=>⟨(m,y),h1,Nat.lt_succ_self m,h2⟩) h)) ?_ hf
  simp only [iter] at hr'
  cases hs:step x with
  | none=>rw [hs] at hr';cases hr'
  | some o =>
   rw [hs] at hr'
   refine ⟨o,rfl,?_⟩
   cases o with
   | nx y=>exact ⟨r',hr',hQ'⟩
   | ex r2=>cases hr';exact hQ'
theorem a94 {α:Type} [Inhabited α] {xs:List α} {k:Nat} (h:k<xs.length):xs.drop k=xs.getD k default::xs.drop (k+1):=by
 rw [List.drop_eq_getElem_cons h];simp [h]
theorem a0t.go_for {α σ ρ:Type} [Inhabited α] {b:MC} {body:Int→α→σ→Option (Fl σ ρ)} {xs:List α} {s0:σ} {Q:Fl σ ρ→Prop} (I:Nat→σ→St) (ns:List a3l) (hF:Ok (a10 body xs 0 s0) Q)
  (h0:a0g c.H0 ns ⟨e,h⟩ fun σ'=>a0j (I 0 s0) σ')
  (round:∀(k:Nat) (a:α) (x:σ) (Qn:σ→Prop) (K:St→Prop),(∀σ',(a0g c.H0 ns σ' fun σ'=>∃y,Qn y∧a0j (I (k+1) y) σ')→K σ')→k<xs.length→xs.getD k default=a→Ok (body k a x) (Fl.elim Qn fun r=>Q (.ex r))→factsSt (I k x) →
   M.go ⟨c.P,c.H0,K,M.kX c s,c.R⟩ b [] (I k x))
  (stop:∀(k:Nat) (x:σ) (K:St→Prop),k=xs.length→Q (.nx x)→factsSt (I k x)→M.go ⟨c.P,c.H0,K,M.kX c s,c.R⟩ b [] (I k x)):M.go c (.loop b) s ⟨e,h⟩:=by
 refine M.go_loop (fun x:Nat×σ=>I x.1 x.2) (fun x=>x.1≤xs.length∧Ok (a10 body (xs.drop x.1) x.1 x.2) Q) (fun x=>xs.length - x.1) ns (a1c (fun σ' h=>⟨(0,s0),⟨vJ _,hF⟩,h⟩) h0) fun x hx hf=>?_
 obtain ⟨k,x⟩:=x
 obtain ⟨hk,hx⟩:=hx
 simp only at hk hx hf
 rcases Nat.lt_or_ge k xs.length with hlt|hge
 ·refine round k _ x (fun y=>Ok (a10 body (xs.drop (k+1)) (k+1:Nat) y) Q) _ (fun σ' h=>Lk.mk (a1c (fun σ'' ⟨y,h1,h2⟩=>⟨(k+1,y),⟨hlt,h1⟩,by show xs.length - (k+1)<xs.length - k;omega,h2⟩) h)) hlt rfl ?_ hf
  rw [a94 hlt] at hx
  simp only [a10,a7t] at hx
  obtain ⟨o,ho,hx⟩:=hx
  refine ⟨o,ho,?_⟩
  cases o with
  | nx y=>exact hx
  | ex r=>simpa only [Fl.elim,b06] using hx
 ·have e1:k=xs.length:=by omega
  subst e1
  rw [List.drop_length] at hx
  simp only [a10,b06] at hx
  exact stop _ x _ rfl hx hf
theorem a0t.go_fold {α σ:Type} [Inhabited α] {b:MC} {body:Int→α→σ→Option σ} {xs:List α} {s0:σ} {Q:σ→Prop} (I:Nat→σ→St) (ns:List a3l) (hF:Ok (a0d body xs 0 s0) Q)
  (h0:a0g c.H0 ns ⟨e,h⟩ fun σ'=>a0j (I 0 s0) σ')
  (round:∀(k:Nat) (a:α) (x:σ) (Qn:σ→Prop) (K:St→Prop),(∀σ',(a0g c.H0 ns σ' fun σ'=>∃y,Qn y∧a0j (I (k+1) y) σ')→K σ')→k<xs.length→xs.getD k default=a→Ok (body k a x) Qn→factsSt (I k x) →
   M.go ⟨c.P,c.H0,K,M.kX c s,c.R⟩ b [] (I k x))
  (stop:∀(k:Nat) (x:σ) (K:St→Prop),k=xs.length→Q x→factsSt (I k x)→M.go ⟨c.P,c.H0,K,M.kX c s,c.R⟩ b [] (I k x)):M.go c (.loop b) s ⟨e,h⟩:=by
 refine M.go_loop (fun x:Nat×σ=>I x.1 x.2) (fun x=>x.1≤xs.length∧Ok (a0d body (xs.drop x.1) x.1 x.2) Q) (fun x=>xs.length - x.1) ns (a1c (fun σ' h=>⟨(0,s0),⟨vJ _,hF⟩,h⟩) h0) fun x hx hf=>?_
 obtain ⟨k,x⟩:=x
 obtain ⟨hk,hx⟩:=hx
 simp only at hk hx hf
 rcases Nat.lt_or_ge k xs.length with hlt|hge
 ·refine round k _ x (fun y=>Ok (a0d body (xs.drop (k+1)) (k+1:Nat) y) Q) _ (fun σ' h=>Lk.mk (a1c (fun σ'' ⟨y,h1,h2⟩=>⟨(k+1,y),⟨hlt,h1⟩,by show xs.length - (k+1)<xs.length - k;omega,h2⟩) h)) hlt rfl ?_ hf
  rw [a94 hlt] at hx
  simp only [a0d,a7t] at hx
  obtain ⟨o,ho,hx⟩:=hx
  exact ⟨o,ho,hx⟩
 ·have e1:k=xs.length:=by omega
  subst e1
  rw [List.drop_length] at hx
  simp only [a0d,b06] at hx
  exact stop _ x _ rfl hx hf
end
def ovE:List (Nat×V)→List (Nat×V)→List (Nat×V)
 | [],e=>e
 | (n,x)::r,e=>ovE r (put n x e)
def d2g (keep:List Nat):Heap→Heap
 | []=>[]
 | (n,x)::r=>bif mem n keep then (n,x)::d2g keep r else d2g keep r
inductive Up where
 | o (id:Nat) (o:a0c)
 | p (id off:Nat) (cs:List V)
def g4j (off:Nat) (cs:List V):a0c→a0c
 | .cells ds t=>.cells (setCells ds off cs) t
 | o=>o
def ovU:List Up→Heap→Heap
 | [],h=>h
 | .o id o::r,h=>ovU r (put id o h)
 | .p id off cs::r,h=>ovU r (match find id h with|some o=>put id (g4j off cs o) h|none=>h)
def ovS (e:List (Nat×V)) (h:Heap) (ke kh:List Nat) (ue:List (Nat×V)) (uh:List Up):St:=⟨ovE ue (c99 ke e),ovU uh (d2g kh h)⟩
theorem a1d {n:Nat} {x:V}:∀{e:List (Nat×V)},c29 e→find n e=some x→x.fact
 | (m,y)::r,h,hf=>by
  simp only [find] at hf
  cases hb:Nat.beq n m with
  | true=>rw [hb] at hf;cases hf;exact h.1
  | false=>rw [hb] at hf;exact a1d h.2 hf
section
variable {M:a0t} {c:Cfg} {e:List (Nat×V)} {h:Heap} {s:List Fr}
theorem a0t.jn1 {α β:Type} {a b:MC} {A:Option α} {B:α→Option β} {Q:β→Prop} (ke kh:List Nat) (ue:α→List (Nat×V)) (uh:α→List Up) (ns:List a3l) (hF:Ok (jn A B) Q)
  (h1:∀(Qn:α→Prop) (K:St→Prop),(∀σ',(a0g c.H0 ns σ' fun σ'=>∃y,Qn y∧a0j (ovS e h ke kh (ue y) (uh y)) σ')→K σ')→Ok A Qn→M.go ⟨c.P,c.H0,K,M.kX c s,c.R⟩ a [] ⟨e,h⟩)
  (h2:∀y,Ok (B y) Q→M.go c b s (ovS e h ke kh (ue y) (uh y))):M.go c (.cut a b) s ⟨e,h⟩ :=
 M.go_jn (fun y=>ovS e h ke kh (ue y) (uh y)) ns hF h1 fun y hy _=>h2 y hy
theorem a0t.jnE {α β ρ:Type} {a b:MC} {A:Option (Fl α ρ)} {B:α→Option β} {E:ρ→Option β} {Q:β→Prop} (ke kh:List Nat) (ue:α→List (Nat×V)) (uh:α→List Up) (ns:List a3l) (hF:Ok (jn A fun o=>o.elim B E) Q)
  (h1:∀(Qn:α→Prop) (K:St→Prop),(∀σ',(a0g c.H0 ns σ' fun σ'=>∃y,Qn y∧a0j (ovS e h ke kh (ue y) (uh y)) σ')→K σ')→Ok A (Fl.elim Qn fun r=>Ok (E r) Q)→M.go ⟨c.P,c.H0,K,M.kX c s,c.R⟩ a [] ⟨e,h⟩)
  (h2:∀y,Ok (B y) Q→M.go c b s (ovS e h ke kh (ue y) (uh y))):M.go c (.cut a b) s ⟨e,h⟩:=by
 rw [d88,a7t] at hF
 obtain ⟨y0,e0,h0⟩:=hF
 refine M.go_cut (fun y=>ovS e h ke kh (ue y) (uh y)) (fun y=>Ok (B y) Q) ns (h1 (fun y=>Ok (B y) Q) _ (fun σ' h=>Lk.mk h) ⟨y0,e0,?_⟩) fun y hy _=>h2 y hy
 cases y0 with
 | nx x=>exact h0
 | ex r=>exact h0
theorem a0t.gj1 {α β:Type} {ms:List MOp} {its:List It} {A:Option α} {B:α→Option β} {Q:β→Prop} (ke kh:List Nat) (ue:α→List (Nat×V)) (uh:α→List Up) (hF:Ok (jn A B) Q)
  (h1:∀(Qn:α→Prop) (K:St→Prop),(∀σ',(∃y,Qn y∧a0j (ovS e h ke kh (ue y) (uh y)) σ')→K σ')→Ok A Qn→M.ops ⟨c.P,c.H0,K,fun _ _=>False,fun _=>False⟩ ms [] ⟨e,h⟩)
  (h2:∀y,Ok (B y) Q→M.kN c (.it its::s) (ovS e h ke kh (ue y) (uh y))):M.grpC c ms its s ⟨e,h⟩ :=
 M.go_gr (fun y=>ovS e h ke kh (ue y) (uh y)) hF h1 fun y hy _=>h2 y hy
def b7y (ds:List Nat):List (Nat×V)→List (Nat×V)
 | []=>[]
 | (n,x)::r=>bif mem n ds then b7y ds r else (n,x)::b7y ds r
theorem a0t.gv1 {ms:List MOp} {its:List It} {x:Bool} {β:Type} {B:Bool→Option β} {Q:β→Prop} (d:Nat) (ds:List Nat) (hF:Ok (grp x B) Q)
  (h1:∀(K:St→Prop),(∀σ',a0j ⟨put d (.bool x) (b7y ds e),h⟩ σ'→K σ')→M.ops ⟨c.P,c.H0,K,fun _ _=>False,fun _=>False⟩ ms [] ⟨e,h⟩)
  (h2:∀b,Ok (B b) Q→M.kN c (.it its::s) ⟨put d (.bool b) (b7y ds e),h⟩):M.grpC c ms its s ⟨e,h⟩ :=
 M.go_gv (fun b=>⟨put d (.bool b) (b7y ds e),h⟩) hF h1 (h2 x)
theorem a0t.wh1 {σ ρ:Type} {b:MC} {step:σ→Option (Fl σ ρ)} {s0:σ} {Q:ρ→Prop} (ke kh:List Nat) (ue:σ→List (Nat×V)) (uh:σ→List Up) (ns:List a3l) (hF:Ok (loop step s0) Q)
  (h0:a0g c.H0 ns ⟨e,h⟩ fun σ'=>a0j (ovS e h ke kh (ue s0) (uh s0)) σ')
  (round:∀(x:σ) (Qn:σ→Prop) (K:St→Prop),(∀σ',(a0g c.H0 ns σ' fun σ'=>∃y,Qn y∧a0j (ovS e h ke kh (ue y) (uh y)) σ')→K σ')→Ok (step x) (Fl.elim Qn Q)→M.go ⟨c.P,c.H0,K,M.kX c s,c.R⟩ b [] (ovS e h ke kh (ue x) (uh x))) :
  M.go c (.loop b) s ⟨e,h⟩ :=
 M.go_while (fun x=>ovS e h ke kh (ue x) (uh x)) ns hF h0 fun x Qn K h1 h2 _=>round x Qn K h1 h2
theorem a0t.for1 {α σ ρ:Type} [Inhabited α] {b:MC} {body:Int→α→σ→Option (Fl σ ρ)} {xs:List α} {s0:σ} {Q:Fl σ ρ→Prop} (isl:Nat) (ke kh:List Nat) (ue:σ→List (Nat×V)) (uh:σ→List Up) (ns:List a3l) (hF:Ok (a10 body xs 0 s0) Q)
  (h0:a0g c.H0 ns ⟨e,h⟩ fun σ'=>a0j (ovS e h ke kh ((isl,.int .i64 ((0:Nat):Int))::ue s0) (uh s0)) σ')
  (round:∀(k:Nat) (a:α) (x:σ) (Qn:σ→Prop) (K:St→Prop),(∀σ',(a0g c.H0 ns σ' fun σ'=>∃y,Qn y∧a0j (ovS e h ke kh ((isl,.int .i64 ((k+1:Nat):Int))::ue y) (uh y)) σ')→K σ')→k<xs.length→xs.getD k default=a →
   Ok (body k a x) (Fl.elim Qn fun r=>Q (.ex r))→factsSt (ovS e h ke kh ((isl,.int .i64 k)::ue x) (uh x))→M.go ⟨c.P,c.H0,K,M.kX c s,c.R⟩ b [] (ovS e h ke kh ((isl,.int .i64 k)::ue x) (uh x)))
  (stop:∀(x:σ) (K:St→Prop),Q (.nx x)→M.go ⟨c.P,c.H0,K,M.kX c s,c.R⟩ b [] (ovS e h ke kh ((isl,.int .i64 (xs.length:Int))::ue x) (uh x))):M.go c (.loop b) s ⟨e,h⟩ :=
 M.go_for (fun k x=>ovS e h ke kh ((isl,.int .i64 (k:Int))::ue x) (uh x)) ns hF h0 round fun k x K hk hq _=>by subst hk;exact stop x K hq
theorem a0t.fold1 {α σ:Type} [Inhabited α] {b:MC} {body:Int→α→σ→Option σ} {xs:List α} {s0:σ} {Q:σ→Prop} (isl:Nat) (ke kh:List Nat) (ue:σ→List (Nat×V)) (uh:σ→List Up) (ns:List a3l) (hF:Ok (a0d body xs 0 s0) Q)
  (h0:a0g c.H0 ns ⟨e,h⟩ fun σ'=>a0j (ovS e h ke kh ((isl,.int .i64 ((0:Nat):Int))::ue s0) (uh s0)) σ')
  (round:∀(k:Nat) (a:α) (x:σ) (Qn:σ→Prop) (K:St→Prop),(∀σ',(a0g c.H0 ns σ' fun σ'=>∃y,Qn y∧a0j (ovS e h ke kh ((isl,.int .i64 ((k+1:Nat):Int))::ue y) (uh y)) σ')→K σ')→k<xs.length→xs.getD k default=a →
   Ok (body k a x) Qn→factsSt (ovS e h ke kh ((isl,.int .i64 k)::ue x) (uh x))→M.go ⟨c.P,c.H0,K,M.kX c s,c.R⟩ b [] (ovS e h ke kh ((isl,.int .i64 k)::ue x) (uh x)))
  (stop:∀(x:σ) (K:St→Prop),Q x→M.go ⟨c.P,c.H0,K,M.kX c s,c.R⟩ b [] (ovS e h ke kh ((isl,.int .i64 (xs.length:Int))::ue x) (uh x))):M.go c (.loop b) s ⟨e,h⟩ :=
 M.go_fold (fun k x=>ovS e h ke kh ((isl,.int .i64 (k:Int))::ue x) (uh x)) ns hF h0 round fun k x K hk hq _=>by subst hk;exact stop x K hq
end
theorem b4g {α:Type}:∀{l:List α} {i:Nat} {a:α},l[i]?=some a→(a::l.eraseIdx i).Perm l
 | x::r,0,a,h=>by simp at h;subst h;exact List.Perm.refl _
 | x::r,i+1,a,h=>by
  simp at h
  exact (List.Perm.swap x a _).trans ((b4g h).cons x)
 | [],_,_,h=>by simp at h
section
variable {M:a0t} {c:Cfg} {e:List (Nat×V)} {h:Heap} {s:List Fr}
theorem a0t.mfold1 {α σ γ:Type} {b:MC} {kv:α→V×V} {body:Int→α→σ→Option σ} {es:List α} {s0:σ} {R:σ→Option γ} {Q:γ→Prop} (it:Nat) (ke kh:List Nat) (ue:σ→List (Nat×V)) (uh:σ→List Up) (ns:List a3l)
  (hF:Ok (b6v (fun l=>(a0d body l 0 s0).bind R) es) Q)
  (h0:a0g c.H0 ns ⟨e,h⟩ fun σ'=>a0j (ovS e h ke kh (ue s0) (.o it (.iter (es.map kv) none)::uh s0)) σ')
  (round:∀(rem:List α) (cur:Option (V×V)) (x:σ) (k:Int) (Qn:Nat→σ→Prop) (K:St→Prop),(∀i cur' σ',(a0g c.H0 ns σ' fun σ'=>∃y,Qn i y∧a0j (ovS e h ke kh (ue y) (.o it (.iter ((rem.eraseIdx i).map kv) cur')::uh y)) σ')→K σ') →
   (rem=[]→Ok (R x) Q)→(∀i a,rem[i]?=some a→Ok (body k a x) (Qn i)) →
   M.go ⟨c.P,c.H0,K,M.kX c s,c.R⟩ b [] (ovS e h ke kh (ue x) (.o it (.iter (rem.map kv) cur)::uh x))):M.go c (.loop b) s ⟨e,h⟩:=by
 obtain ⟨r0,hr0,hq0⟩:=hF
 have hp0:=c6d hr0
 refine M.go_loop (fun x:List α×Option (V×V)×Int×σ=>ovS e h ke kh (ue x.2.2.2) (.o it (.iter (x.1.map kv) x.2.1)::uh x.2.2.2))
  (fun x=>∀l,l.Perm x.1→Ok ((a0d body l x.2.2.1 x.2.2.2).bind R) Q) (fun x=>x.1.length) ns
  (a1c (fun σ' h=>⟨(es,none,0,s0),fun l hl=>⟨r0,hp0 l hl,hq0⟩,h⟩) h0) fun x hx _=>?_
 obtain ⟨rem,cur,k,x⟩:=x
 simp only at hx
 refine round rem cur x k (fun i y=>i<rem.length∧∀l,l.Perm (rem.eraseIdx i)→Ok ((a0d body l (k+1) y).bind R) Q) _
  (fun i cur' σ' h=>Lk.mk (a1c (fun σ'' ⟨y,⟨hi,h1⟩,h2⟩=>⟨(rem.eraseIdx i,cur',k+1,y),h1,by simp only;rw [List.length_eraseIdx];split<;>omega,h2⟩) h)) (fun hr=>?_) fun i a ha=>?_
 ·have:=hx [] (by rw [hr])
  simpa only [a0d,xZ] using this
 ·have hi:i<rem.length:=(zG.1 ha).1
  have h1:∀l,l.Perm (rem.eraseIdx i)→Ok ((a0d body (a::l) k x).bind R) Q:=fun l hl=>hx _ ((hl.cons a).trans (b4g ha))
  have h2:=h1 _ (List.Perm.refl _)
  simp only [a0d] at h2
  cases hb:body k a x with
  | none=>rw [hb] at h2;simp [b3n] at h2
  | some y =>
   refine ⟨y,rfl,hi,fun l hl=>?_⟩
   have:=h1 l hl
   simpa only [a0d,hb,xZ] using this
end
section
variable {M:a0t} {c:Cfg} {e:List (Nat×V)} {h:Heap} {s:List Fr}
theorem a0t.rforC {α σ ρ:Type} {q:Opd} {ps:List Nat} {a b:MC} {gf:Nat} {caps:List V} {enc:α→List V} {body:Int→α→σ→Option (Fl σ ρ)} {xs:List α} {s0:σ} {Q:Fl σ ρ→Prop} (Hc:Heap) (pins:List Nat) (kh:List Nat) (uh:σ→List Up) (ns:List a3l)
  (hF:Ok (a10 body xs 0 s0) Q) (hq:q.ev e=.fn (.func gf) caps) (hit:c0g c.P gf caps Hc (xs.map enc)) (hsc:a0j ⟨[],Hc⟩ ⟨e,h⟩) (hpin:b7v pins e=true) (hxs:∀a,(enc a).length=ps.length∧V.withinL [] (enc a)=true)
  (h0:a0j ⟨[],(ovS e h [] kh [] (uh s0)).heap⟩ ⟨e,h⟩) (hdis:∀q∈Hc,find q.1 (ovS e h [] kh [] (uh s0)).heap=none)
  (round:∀(k:Nat) (v:α) (x:σ) (Qn:σ→Prop) (K:St→Prop),(∀σ',(a0g (b5o c.H0 pins) ns σ' fun σ'=>∃y,Qn y∧a0j ⟨[],(ovS e h [] kh [] (uh y)).heap⟩ σ')→K σ')→k<xs.length →
   Ok (body k v x) (Fl.elim Qn fun r=>Q (.ex r))→a90 (ovS e h [] kh [] (uh x)).heap →
   M.go ⟨c.P,b5o c.H0 pins,K,fun i σ'=>M.kX c s i ⟨e,σ'.heap⟩,fun σ'=>c.R ⟨e,σ'.heap⟩⟩ (.seq a b) [] ⟨b3t ps (enc v) e,(ovS e h [] kh [] (uh x)).heap⟩)
  (hst:a.straight=true) (stop:∀x,Q (.nx x)→M.kN c s ⟨e,(ovS e h [] kh [] (uh x)).heap⟩):M.go c (.rngF q ps a b) s ⟨e,h⟩:=by
 refine M.go_rngF Hc (xs.map enc) pins (fun _ x=>(ovS e h [] kh [] (uh x)).heap) (fun k x=>k≤xs.length∧Ok (a10 body (xs.drop k) k x) Q) ns hq hit hsc hpin (fun l hl=>?_) ⟨s0,⟨vJ _,hF⟩,h0,hdis⟩ (fun k x l hk hp hf=>?_) hst fun x hx=>?_
 ·obtain ⟨a,_,rfl⟩:=vG.1 hl
  exact hxs a
 ·rw [xS] at hk
  cases ha:xs[k]? with
  | none=>rw [ha] at hk;cases hk
  | some a =>
   rw [ha] at hk;cases hk
   have hlt:k<xs.length:=(zG.1 ha).1
   refine round k a x (fun y=>Ok (a10 body (xs.drop (k+1)) (k+1:Nat) y) Q) _ (fun σ' h=>Lk.mk (a1c (fun σ'' ⟨y,h1,h2⟩=>⟨y,⟨hlt,h1⟩,h2⟩) h)) hlt ?_ hf
   obtain ⟨_,hx⟩:=hp
   have e1:xs.drop k=a::xs.drop (k+1):=by
    rw [List.drop_eq_getElem_cons hlt]
    have:=(zG.1 ha).2
    rw [this]
   rw [e1] at hx
   simp only [a10,a7t] at hx
   obtain ⟨o,ho,hx⟩:=hx
   refine ⟨o,ho,?_⟩
   cases o with
   | nx y=>exact hx
   | ex r=>simpa only [Fl.elim,b06] using hx
 ·obtain ⟨_,hx⟩:=hx
  rw [wP,List.drop_length] at hx
  simp only [a10,b06] at hx
  exact stop x hx
theorem a0t.rfor {α σ ρ:Type} {q:Opd} {ps:List Nat} {a b:MC} {gf:Nat} {caps:List V} {enc:α→List V} {body:Int→α→σ→Option (Fl σ ρ)} {xs:List α} {s0:σ} {Q:Fl σ ρ→Prop} (pins:List Nat) (kh:List Nat) (uh:σ→List Up) (ns:List a3l)
  (hF:Ok (a10 body xs 0 s0) Q) (hq:q.ev e=.fn (.func gf) caps) (hit:c0g c.P gf caps [] (xs.map enc)) (hpin:b7v pins e=true) (hxs:∀a,(enc a).length=ps.length∧V.withinL [] (enc a)=true)
  (h0:a0j ⟨[],(ovS e h [] kh [] (uh s0)).heap⟩ ⟨e,h⟩)
  (round:∀(k:Nat) (v:α) (x:σ) (Qn:σ→Prop) (K:St→Prop),(∀σ',(a0g (b5o c.H0 pins) ns σ' fun σ'=>∃y,Qn y∧a0j ⟨[],(ovS e h [] kh [] (uh y)).heap⟩ σ')→K σ')→k<xs.length →
   Ok (body k v x) (Fl.elim Qn fun r=>Q (.ex r))→a90 (ovS e h [] kh [] (uh x)).heap →
   M.go ⟨c.P,b5o c.H0 pins,K,fun i σ'=>M.kX c s i ⟨e,σ'.heap⟩,fun σ'=>c.R ⟨e,σ'.heap⟩⟩ (.seq a b) [] ⟨b3t ps (enc v) e,(ovS e h [] kh [] (uh x)).heap⟩)
  (hst:a.straight=true) (stop:∀x,Q (.nx x)→M.kN c s ⟨e,(ovS e h [] kh [] (uh x)).heap⟩):M.go c (.rngF q ps a b) s ⟨e,h⟩ :=
 M.rforC [] pins kh uh ns hF hq hit ⟨rfl,trivial,trivial⟩ hpin hxs h0 (fun _ h=>by cases h) round hst stop
end
theorem d6w {α:Type} {f:α→V×V} {l:List α} {p:Prop} {q:Nat→V×V→Prop}:((l.map f=[]→p)∧∀(i:Nat) (e:V×V),(l.map f)[i]?=some e→q i e)=((l=[]→p)∧∀(i:Nat) (a:α),l[i]?=some a→q i (f a)):=by
 refine propext ⟨fun ⟨h1,h2⟩=>⟨fun h=>h1 (by simp [h]),fun i a ha=>h2 i (f a) (by rw [xS,ha];rfl)⟩,fun ⟨h1,h2⟩=>⟨fun h=>h1 (by simpa using h),fun i e he=>?_⟩⟩
 rw [xS] at he
 cases ha:l[i]? with
 | none=>rw [ha] at he;cases he
 | some a=>rw [ha] at he;cases he;exact h2 i a ha
theorem c6h {α:Type} {rem:List α} {A A':Prop} {B B':Nat→α→Prop} (hs:rem=[]→A') (hn:∀i a,rem[i]?=some a→B' i a) (h1:A'→A) (h2:∀i a,B' i a→B i a):(rem=[]→A)∧∀(i:Nat) (a:α),rem[i]?=some a→B i a :=
 ⟨fun h=>h1 (hs h),fun i a h=>h2 i a (hn i a h)⟩
theorem c7v {α:Type} {f:α→V×V} {l:List α} {i:Nat}:(l.map f).eraseIdx i=(l.eraseIdx i).map f:=by
 induction l generalizing i with
 | nil=>rfl
 | cons x r ih=>cases i with
  | zero=>rfl
  | succ i=>simp [ih]
theorem a3h {n:Int} (h:(V.int .i64 n).fact):-9223372036854775808≤n∧n≤9223372036854775807:=h
theorem fork {a b a' b' p q:Prop} (h:(p→a')∧(q→b')) (h1:p→a'→a) (h2:q→b'→b):(p→a)∧(q→b):=⟨fun x=>h1 x (h.1 x),fun x=>h2 x (h.2 x)⟩
theorem a6y {a b a' b' p q:Prop} (h:(q→b')∧(p→a')) (h1:p→a'→a) (h2:q→b'→b):(p→a)∧(q→b):=⟨fun x=>h1 x (h.2 x),fun x=>h2 x (h.1 x)⟩
def ltb (n m:Nat):Bool:=decide (n<m)
theorem e7s {i:Int} {n:Nat} (h:inb i n=true):ltb i.toNat n=true:=wV (a1s h)
theorem c54 {i:Int} {n:Nat}:(i.toNat<n)=(ltb i.toNat n=true):=propext ⟨fun h=>wV h,fun h=>of_decide_eq_true h⟩
theorem d30 {a b p q:Prop} (h1:p→a) (h2:q→b):(p→a)∧(q→b):=⟨h1,h2⟩
theorem appG {r:Bool} {P:V→Prop} {l:List V} {a a':Prop} (h:r=true∧a') (h1:r=true→a'→a) (hl:∀y,y∈l→P y:=by first|(simp [V.cells];done)|(intro y hy;rcases w4.1 hy with rfl|hy<;>first|rfl|(obtain ⟨z,_,rfl⟩:=vG.1 hy;rfl))):(r=true∧∀y,y∈l→P y)∧a:=⟨⟨h.1,hl⟩,h1 h.1 h.2⟩
theorem b8r {r:Bool} {P:V→Prop} {l:List V} {a a':Prop} (h:r=true∧a') (h1:r=true→a'→a) (hl:∀y,y∈l→P y:=by first|(simp [V.cells];done)|(intro y hy;rcases w4.1 hy with rfl|hy<;>first|rfl|(obtain ⟨z,_,rfl⟩:=vG.1 hy;rfl))):(∀y,y∈l→P y)∧a:=⟨hl,h1 h.1 h.2⟩
theorem a6x {n m:Int} {b:Nat} {a a':Prop} (h:b0z n m b=true∧a') (h1:b0z n m b=true→a'→a):(0≤n∧n≤m∧m*(b:Int)≤140737488355328)∧a:=⟨a2f.1 h.1,h1 h.1 h.2⟩
theorem b8n {a a' p:Prop} (h:p∧a') (h1:p→a'→a):p∧a:=⟨h.1,h1 h.1 h.2⟩
theorem e02 {α β γ:Type} {f:α→γ} {g:β→γ} {a:α}:Sum.elim f g (.inl a)=f a:=rfl
theorem e00 {α β γ:Type} {f:α→γ} {g:β→γ} {b:β}:Sum.elim f g (.inr b)=g b:=rfl
theorem b1l {α:Type} [Inhabited α] {f:α→V} {l:List α} {i:Nat} (h:i<l.length):(l.map f)[i]?=some (f (l.getD i default)):=by simp [h]
theorem g50 {α:Type} [Inhabited α] {f:α→V} {l:List α} {i:Nat} {cs:List V} (h:i<l.length) (e:f (l.getD i default)=.agg cs):(l.map f)[i]?=some (V.agg cs):=(b1l h).trans (congrArg some e)
theorem g4z {α:Type} {f:α→V} {l:List α} {i:Nat} {cs:List V} (h:i<l.length):((l.map f).set i (V.agg cs))[i]?=some (V.agg cs):=by rw [List.getElem?_set_self (by rw [wP];exact h)]
theorem f8p {a b:Nat} {xs:List V}:(V.sl xs).sw a b=.sl xs:=by simp [V.sw]
theorem e2v {a b:Nat} {k:IntKind} {n:Int}:(V.int k n).sw a b=.int k n:=by simp [V.sw]
theorem d5c {a b:Nat} {x:Bool}:(V.bool x).sw a b=.bool x:=by simp [V.sw]
theorem e2t {a b:Nat} {x:List UInt8}:(V.str x).sw a b=.str x:=by simp [V.sw]
theorem d5a {a b:Nat} {kd:KD} {es:List (V×V)}:(V.smap kd es).sw a b=.smap kd es:=by simp [V.sw]
theorem d5b {a b:Nat} {c:UInt8}:(a13 c).sw a b=a13 c:=by simp [a13,V.sw]
theorem e2w {a b k:Nat} {xs:List V} {t:Option TypeId}:(a0c.arr k xs t).sw a b=.arr k xs t:=rfl
theorem e2u {a b:Nat} {kd:KD} {es:List (V×V)}:(a0c.map kd es).sw a b=.map kd es:=rfl
theorem f02 {a:UInt8} {t:List UInt8}:([V.int .u8 (a.toNat:Int)]=t.map a13)=(t=[a]):=propext
 ⟨fun h=>(bytes_inj (a:=[a]) h).symm,fun h=>by subst h;rfl⟩
theorem d9e {a b:UInt8} {t:List UInt8}:([V.int .u8 92,V.int .u8 120,V.int .u8 (a.toNat:Int),V.int .u8 (b.toNat:Int)]=t.map a13)=(t=[92,120,a,b]):=propext
 ⟨fun h=>(bytes_inj (a:=[92,120,a,b]) (b:=t) h).symm,fun h=>by subst h;rfl⟩
theorem f01 {a b:UInt8} {t:List UInt8}:([V.int .u8 (a.toNat:Int),V.int .u8 (b.toNat:Int)]=t.map a13)=(t=[a,b]):=propext
 ⟨fun h=>(bytes_inj (a:=[a,b]) h).symm,fun h=>by subst h;rfl⟩
section
variable {M:a0t} {c:Cfg} {d:Option Nat} {r:List MOp} {s:List Fr} {e e0:List (Nat×V)} {h h0:Heap} {anc:List (List Nat)} {u t m:List Nat} {log:List Ent} {x:List UInt8} {n:Nat}
theorem a0t.b2s_e:(∃t:List UInt8,t=x∧t.length=n∧a0m (M.lok c d r s e h) (.str t))=(x.length=n∧a0m (M.aft c d r s e h) (.str x)):=by
 simp [M.lok_comp]
theorem a0t.b2s_eD:(∃t':List UInt8,t'=x∧t'.length=n∧a0m (M.lokD c anc e0 h0 d u t m r log s e h) (.str t'))=(x.length=n∧a0m (M.aftD c anc e0 h0 d u t m r log s e h) (.str x)):=by
 simp [M.lokD_comp]
end
def slV {α:Type} (f:α→V) (xs:List α):V:=.sl (xs.map f)
def kvV {α β:Type} (f:α→V) (g:β→V) (p:α×β):V×V:=(f p.1,g p.2)
def mpV {α β:Type} (kd:KD) (f:α→V) (g:β→V) (m:List (α×β)):V:=.smap kd (m.map (kvV f g))
theorem c9l (n:Int):((u8 n).toNat:Int)=n % 256:=by
 unfold u8
 have h:(n % 256).toNat<256:=by omega
 rw [UInt8.toNat_ofNat_of_lt' h];omega
theorem wrap_u8 (n:Int):IntKind.wrap .u8 n=((u8 n).toNat:Int):=by
 rw [c9l];simp [IntKind.wrap,IntKind.signed,IntKind.bits]
def d4d (a b:Int):Bool:=decide (0≤a)&&decide (0<b)
theorem b69 {a b:Int}:d4d a b=true↔0≤a∧0<b:=by simp [d4d]
def nzb (b:Int):Bool:=!decide (b=0)
theorem d6v {b:Int}:(b≠0)=(nzb b=true):=propext (by simp [nzb])
theorem d0s {b:Int}:(¬b=0)=(nzb b=true):=propext (by simp [nzb])
def e2z (b:Int) (n:Nat):Bool:=decide (0≤b)&&decide (b≤n)
def d3w (k:IntKind) (n:Int):Bool:=decide (k.min≤n)&&decide (n≤k.max)
def a5o {α β:Type} [DecidableEq α] (k:α):List (α×β)→Option β
 | []=>none
 | (a,b)::r=>if k=a then some b else a5o k r
def a7q {α β:Type} [DecidableEq α] (k:α) (v:β):List (α×β)→List (α×β)
 | []=>[(k,v)]
 | (a,b)::r=>if k=a then (a,v)::r else (a,b)::a7q k v r
def b8g {α β:Type} [DecidableEq α] (k:α):List (α×β)→List (α×β)
 | []=>[]
 | (a,b)::r=>if k=a then r else (a,b)::b8g k r
section
variable {α β:Type} [DecidableEq α] {f:α→V} {g:β→V}
theorem b2d (hk:∀a b,keq (f a) (f b)=decide (a=b)) (k:α):∀l:List (α×β),c1j (f k) (l.map (kvV f g))=(a5o k l).map g
 | []=>rfl
 | (a,b)::r=>by
  by_cases e:k=a
  ·simp [c1j,a5o,kvV,hk,e]
  ·simp [c1j,a5o,kvV,hk,e,b2d hk k r]
theorem b2c (hk:∀a b,keq (f a) (f b)=decide (a=b)) (k:α) (v:β):∀l:List (α×β),(a7q k v l).map (kvV f g)=b6g (f k) (g v) (l.map (kvV f g))
 | []=>rfl
 | (a,b)::r=>by
  by_cases e:k=a
  ·simp [b6g,a7q,kvV,hk,e]
  ·simp [b6g,a7q,kvV,hk,e,b2c hk k v r]
theorem b2e (hk:∀a b,keq (f a) (f b)=decide (a=b)) (k:α):∀l:List (α×β),(b8g k l).map (kvV f g)=c3o (f k) (l.map (kvV f g))
 | []=>rfl
 | (a,b)::r=>by
  by_cases e:k=a
  ·simp [c3o,b8g,kvV,hk,e]
  ·simp [c3o,b8g,kvV,hk,e,b2e hk k r]
theorem e3z {k:Int} {l:List (Int×β)}:c1j (.int .i64 k) (l.map (kvV (V.int .i64) g))=(a5o k l).map g:=b2d (fun _ _=>rfl) k l
theorem e3y {k:Str} {l:List (Str×β)}:c1j (.str k) (l.map (kvV V.str g))=(a5o k l).map g:=b2d (fun _ _=>rfl) k l
theorem e3x {k:Int} {v:β} {l:List (Int×β)}:(a7q k v l).map (kvV (V.int .i64) g)=b6g (.int .i64 k) (g v) (l.map (kvV (V.int .i64) g)):=b2c (fun _ _=>rfl) k v l
theorem e3w {k:Str} {v:β} {l:List (Str×β)}:(a7q k v l).map (kvV V.str g)=b6g (.str k) (g v) (l.map (kvV V.str g)):=b2c (fun _ _=>rfl) k v l
theorem e4c {k:Int} {l:List (Int×β)}:(b8g k l).map (kvV (V.int .i64) g)=c3o (.int .i64 k) (l.map (kvV (V.int .i64) g)):=b2e (fun _ _=>rfl) k l
theorem e4a {k:Str} {l:List (Str×β)}:(b8g k l).map (kvV V.str g)=c3o (.str k) (l.map (kvV V.str g)):=b2e (fun _ _=>rfl) k l
end
theorem g7o {d:Bool} {o:Option Bool}:a3x false (.bool d) (o.map V.bool)=.bool (o.getD d):=by cases o<;>rfl
theorem g7n {d:Int} {o:Option Int}:a3x false (.int .i64 d) (o.map (V.int .i64))=.int .i64 (o.getD d):=by cases o<;>rfl
theorem g7l {d:Str} {o:Option Str}:a3x false (.str d) (o.map V.str)=.str (o.getD d):=by cases o<;>rfl
theorem g7m {α:Type} {f:α→V} {o:Option (List α)}:a3x false (.sl []) (o.map (slV f))=.sl ((o.getD []).map f):=by cases o<;>rfl
theorem e7w {d:Bool} {o:Option Bool}:a3x true (.bool d) (o.map V.bool)=.tup [.bool (o.getD d),.bool o.isSome]:=by cases o<;>rfl
theorem e7v {d:Int} {o:Option Int}:a3x true (.int .i64 d) (o.map (V.int .i64))=.tup [.int .i64 (o.getD d),.bool o.isSome]:=by cases o<;>rfl
theorem e7t {d:Str} {o:Option Str}:a3x true (.str d) (o.map V.str)=.tup [.str (o.getD d),.bool o.isSome]:=by cases o<;>rfl
theorem e7u {α:Type} {f:α→V} {o:Option (List α)}:a3x true (.sl []) (o.map (slV f))=.tup [.sl ((o.getD []).map f),.bool o.isSome]:=by cases o<;>rfl
theorem d8e {i:Int} {n:Nat}:(0≤i∧i<(n:Int))=(inb i n=true):=propext q9.symm
theorem d8b {a b:Int} {n:Nat}:(0≤a∧a≤b∧b≤(n:Int))=(inc a b n=true):=propext a4c.symm
theorem d03 {n b:Nat}:(n*b≤140737488355328)=(room n b=true):=propext a6o.symm
theorem c5u {n m:Int} {b:Nat}:(0≤n∧n≤m∧m*b≤140737488355328)=(b0z n m b=true):=propext a2f.symm
theorem d2n {a b:Int}:(0≤a∧0<b)=(d4d a b=true):=propext b69.symm
theorem f9w {n:Nat} {b:Bool}:List.replicate n (V.bool b)=(List.replicate n b).map V.bool:=List.map_replicate.symm
theorem f9u {n:Nat} {b:Int}:List.replicate n (V.int .u64 b)=(List.replicate n b).map (V.int .u64):=List.map_replicate.symm
theorem e3s {n:Nat}:List.replicate n (V.sl [])=(List.replicate n ([]:List Int)).map (slV (V.int .i64)):=by rw [List.map_replicate];rfl
theorem b46 {a:Int}:(0≤a∧a≤64)=(e2z a 64=true):=propext (by simp [e2z])
theorem f9v {n:Nat} {b:Int}:List.replicate n (V.int .i64 b)=(List.replicate n b).map (V.int .i64):=List.map_replicate.symm
open Classical in
def amb {α:Type} (c:Bool) (a b:Option α):Option α:=if c=true→a=b then b else none
theorem f0p {α:Type} {c:Bool} {a b:Option α} (h:c=true→a=b):amb c a b=b:=by unfold amb;exact if_pos h
theorem d3d {α:Type} {c:Bool} {a b:Option α} {Q:α→Prop} {p A B:Prop} (h:Ok (amb c a b) Q) (hp:p→c=true) (h1:c=true→Ok a Q→A) (h2:Ok b Q→B):(p→A)∧B:=by
 unfold amb at h
 split at h
 ·rename_i hc
  exact ⟨fun x=>h1 (hp x) (by rw [hc (hp x)];exact h),h2 h⟩
 ·rw [b3n] at h;exact h.elim
theorem b7x {α:Type} {f:α→List V} {sz:Nat} (hf:∀e,(f e).length=sz):∀(xs:List α) (k:Nat),(xs.flatMap f).drop (k*sz)=(xs.drop k).flatMap f
 | [],k=>by simp
 | x::r,0=>by simp
 | x::r,k+1=>by
  rw [xU,Nat.succ_mul,Nat.add_comm,←List.drop_drop]
  rw [show (f x++r.flatMap f).drop sz=r.flatMap f by rw [List.drop_append_of_le_length (by rw [hf];exact vL _),←hf x,List.drop_length,wL]]
  rw [b7x hf r k,xF]
theorem d58 {α:Type} [Inhabited α] {f:α→List V} {sz:Nat} {xs:List α} {k:Nat} {a:α} (hf:∀e,(f e).length=sz) (ha:xs.getD k default=a) (hk:k<xs.length):((xs.flatMap f).drop (k*sz)).take sz=f a:=by
 have e:xs.drop k=a::xs.drop (k+1):=by rw [a94 hk,ha]
 rw [b7x hf,e,xU,List.take_append_of_le_length (by rw [hf];exact vL _),←hf a,wA]
theorem c7z {α:Type} [Inhabited α] {f:α→V} {xs:List α} {k:Nat} {a:α} (ha:xs.getD k default=a) (hk:k<xs.length):(xs.map f).drop (k*1)=f a::(xs.map f).drop (k+1):=by
 rw [Nat.mul_one,←List.map_drop,a94 hk,ha,w5,List.map_drop]
theorem b1w (k:IntKind) {n:Int}:rng k n=(d3w k n=true):=propext (by rw [←a1a];simp [d3w,inR])
theorem d07 {n:Int}:rng .i32 n=(d3w .i32 n=true):=b1w .i32
theorem d05 {n:Int}:rng .u32 n=(d3w .u32 n=true):=b1w .u32
theorem d04 {n:Int}:rng .u64 n=(d3w .u64 n=true):=b1w .u64
theorem d08 {n:Int}:rng .i16 n=(d3w .i16 n=true):=b1w .i16
theorem d06 {n:Int}:rng .u16 n=(d3w .u16 n=true):=b1w .u16
attribute [irreducible] a0p inb inc room b0z d4d e2z d3w ltb
@[reducible,go_sem] def mo (i:a06) (d:Nat):MOp:=⟨i,some d,none⟩
theorem kI {k:Nat} (h:(k:Int)+1≤9223372036854775807):a0p ((k:Int)+1)=true:=a1q.2 ⟨by omega,by omega⟩
structure Cv (p q:Prop):Prop where
 e:p=q
theorem Cv.r {p:Prop}:Cv p p:=⟨rfl⟩
theorem tB {p q:Prop} (h:q) (e:Cv p q:=by (simp (maxSteps:=400000) only [go_sem,Nat.reduceBEq,Nat.reduceAdd,Nat.reduceLeDiff,Nat.reduceSub,Nat.reduceMul,Int.reduceToNat,Int.reduceLT,Int.reduceLE];exact Cv.r)):p:=e.e▸h
theorem tH {p q:Prop} (h:p) (e:Cv p q:=by (simp (maxSteps:=400000) only [go_sem,Nat.reduceBEq,Nat.reduceAdd,Nat.reduceLeDiff,Nat.reduceSub,Nat.reduceMul,Int.reduceToNat,Int.reduceLT,Int.reduceLE];exact Cv.r)):q:=e.e▸h
theorem tU0 {p:Prop} (h:p:=by (refine ⟨?_,?_,?_⟩<;>(try simp (maxSteps:=400000) only [go_sem,Nat.reduceBEq,Nat.reduceAdd,Nat.reduceLeDiff,Nat.reduceSub,Nat.reduceMul,Int.reduceToNat,Int.reduceLT,Int.reduceLE,St.good,c3m,distinct,a0j,e0o,c2p])<;>(repeat' (first|exact trivial|rfl|apply And.intro|(simp;done))))):p:=h
theorem tU {p:Prop} (h:p:=by (refine ⟨?_,?_,?_⟩<;>(try simp (maxSteps:=400000) only [go_sem,Nat.reduceBEq,Nat.reduceAdd,Nat.reduceLeDiff,Nat.reduceSub,Nat.reduceMul,Int.reduceToNat,Int.reduceLT,Int.reduceLE,St.good,c3m,distinct,a0j,e0o,c2p, *])<;>(repeat' (first|exact trivial|rfl|apply And.intro|(simp [*];done)|(exfalso;simp only [xX,Bool.not_eq_false',xO,zK] at *;contradiction))))):p:=h
theorem tK {p q a b c d e:Prop} (h1:a) (h2:b) (h3:c) (h4:d) (h5:e) (h:q) (e:a→b→c→d→e→Cv p q:=by (intro h1 h2 h3 h4 h5;simp (maxSteps:=400000) only [go_sem,Nat.reduceBEq,Nat.reduceAdd,Nat.reduceLeDiff,Nat.reduceSub,Nat.reduceMul,Int.reduceToNat,Int.reduceLT,Int.reduceLE,h1,h2,h3,h4,h5];exact Cv.r)):p:=(e h1 h2 h3 h4 h5).e▸h
theorem tKA {p q a b c d e f g i j:Prop} (h1:a) (h2:b) (h3:c) (h4:d) (h5:e) (h6:f) (h7:g) (h8:i) (h9:j) (h:q) (e:a→b→c→d→e→f→g→i→j→Cv p q:=by (intro h1 h2 h3 h4 h5 h6 h7 h8 h9;simp (maxSteps:=400000) only [go_sem,Nat.reduceBEq,Nat.reduceAdd,Nat.reduceLeDiff,Nat.reduceSub,Nat.reduceMul,Int.reduceToNat,Int.reduceLT,Int.reduceLE,h1,h2,h3,h4,h5,h6,h7,h8,decide_true,vQ,h9];exact Cv.r)):p:=(e h1 h2 h3 h4 h5 h6 h7 h8 h9).e▸h
theorem kB {k n:Nat} (h:k<n):inb (k:Int) n=true:=q9.2 ⟨Int.natCast_nonneg k,Int.ofNat_lt.2 h⟩
theorem b2u {α:Type} [Inhabited α] {f:α→V} {l:List α} {i k:Nat} {a:α} (h:k<l.length):((l.map f).set i (f a))[k]?=some (f ((l.set i a).getD k default)):=by
 rw [←List.map_set,xS,zE,zJ (by simpa using h)]
 rfl
theorem a7o {k n:Nat} (h:inb (k:Int) n=true):k<n:=Int.ofNat_lt.1 (q9.1 h).2
theorem kD {k n:Nat} (h:k<n):decide ((k:Int)<(n:Int))=true:=wV (Int.ofNat_lt.2 h)
theorem tZ {p:Prop} (x:p:=by (first|exact hQ _ h|exact trivial|exact False.elim h|(have hq:=hQ _ h;replace hq:=tH hq;exact hq)|(have hq:=hQ _ h;rw [zP (by simp only [wC,wP];omega)];exact hq))):p:=x
theorem b8p {i m:Int} {n:Nat} {a a':Prop} (h:inb i n=true∧a') (h1:inb i n=true→a'→a) (e:(n:Int)=m:=by rfl):(0≤i∧i<m)∧a:=⟨e▸q9.1 h.1,h1 h.1 h.2⟩
theorem b8o {a b m:Int} {n:Nat} {p p':Prop} (h:inc a b n=true∧p') (h1:inc a b n=true→p'→p) (e:(n:Int)=m:=by rfl):(0≤a∧a≤b∧b≤m)∧p:=⟨e▸a4c.1 h.1,h1 h.1 h.2⟩
theorem c7d {c:UInt8}:a0p (c.toNat:Int)=true:=by rw [a1q];have:=c.toNat_lt;omega
theorem d20 {n:Nat} {c:UInt8}:(a13 c).has n=false:=by simp [a13,V.has]
def fnV:Option Nat→V
 | none=>.nilf
 | some f=>.fn (.func f) []
theorem d2b:fnV none=.nilf:=rfl
theorem d29 {f:Nat}:fnV (some f)=.fn (.func f) []:=rfl
theorem d4b {o:Option Nat}:(fnV o).sc=true:=by cases o<;>rfl
theorem c7j {o:Option Nat}:(fnV o).one=true:=by cases o<;>rfl
theorem c7l {n:Nat} {o:Option Nat}:(fnV o).has n=false:=by cases o<;>simp [fnV,V.has,V.hasL]
theorem b7k {o:Option Nat}:(fnV o).cells=[fnV o]:=by cases o<;>rfl
theorem c1y {o:Option Nat}:(fnV o).nany=true:=by cases o<;>rfl
theorem c7k {o:Option Nat}:(fnV o).nav=true:=by cases o<;>rfl
theorem d4a {a b:Nat} {o:Option Nat}:(fnV o).sw a b=fnV o:=by cases o<;>simp [fnV,V.sw,V.swL]
theorem b7j {o:Option Nat}:(fnV o).unnil=fnV o:=by cases o<;>simp [fnV,V.unnil]
theorem c1x {o:Option Nat}:(fnV o).oids=[]:=by cases o<;>rfl
theorem c7i {ng:Bool} {o:Option Nat} {K:Eff→Prop}:g4t ng (fnV o) K=K (evl (.bool (bif ng then o.isSome else !o.isSome))):=by cases o<;>cases ng<;>rfl
theorem d8o {n f:Nat}:(V.fn (.func f) []).has n=false:=by simp [V.has,V.hasL]
theorem d9h {d:Nat} {o:Option Nat} {K:Eff→Prop}:d62 d (fnV o) K=K ⟨.ptr d 0,[],[(d,.cells [fnV o])]⟩:=by cases o<;>rfl
attribute [go_sem] d2b d29 d4b c7j c7l b7k c1y c7k d4a b7j c1x c7i d8o d9h
theorem d8n {n:Nat} {b:Bool}:(V.ifc b).has n=false:=by simp [V.has]
theorem d8r {n b o:Nat}:(V.adr b o).has n=false:=by simp [V.has]
theorem e88 {n i b:Nat}:(V.at_ i b).has n=Nat.beq n i:=by simp [V.has]
attribute [go_sem] d8n d8r e88
attribute [go_sem] d6v d0s
attribute [irreducible] nzb
attribute [go_sem] c7d d20 List.getElem?_cons_zero zN
inductive IsMap {α:Type} (f:α→V):List V→List α→Prop
 | nil:IsMap f [] []
 | cons {a:α} {L:List V} {l:List α} (h:IsMap f L l):IsMap f (f a::L) (a::l)
theorem IsMap.app {α:Type} {f:α→V} {l:List α} {L:List V} {l':List α} (h:IsMap f L l'):IsMap f (l.map f++L) (l++l'):=by
 induction l with
 | nil=>exact h
 | cons a l ih=>exact .cons ih
theorem IsMap.eq {α:Type} {f:α→V} {L:List V} {l:List α} (h:IsMap f L l):L=l.map f:=by
 induction h with
 | nil=>rfl
 | cons h ih=>rw [ih];rfl
theorem tE4 {α:Type} [Inhabited α] {L:List V} {l:List α} (f:α→V) {i:Nat} {p:V→Prop} (b:p (f (l.getD i default))) (e:IsMap f L l:=by repeat (first|exact IsMap.nil|apply IsMap.cons)) (h:i<l.length:=by first|assumption|exact a1s (by assumption)):∃x,L[i]?=some x∧p x:=e.eq▸⟨_,b1l h,b⟩
theorem tE6 {α:Type} [Inhabited α] {L:List V} (f:α→V) (l:List α) {i:Nat} {p:V→Prop} (b:p (f (l.getD i default))) (e:L=l.map f:=by (simp only [w5,vH,slV]<;>rfl)) (h:i<l.length:=by first|assumption|exact a1s (by assumption)):∃x,L[i]?=some x∧p x:=by
 subst e;exact ⟨_,b1l h,b⟩
theorem b0q {l:List UInt8} {i:Nat} {c:UInt8} {p:List UInt8→Prop}:(∃t:List UInt8,(l.map a13).set i (V.int .u8 (c.toNat:Int))=t.map a13∧p t)=p (l.set i c):=by
 have e:(l.map a13).set i (V.int .u8 (c.toNat:Int))=(l.set i c).map a13:=by rw [List.map_set];rfl
 rw [e,b66]
theorem a0t.b2s_set {M:a0t} {c:Cfg} {d:Option Nat} {r:List MOp} {s:List Fr} {e:List (Nat×V)} {h:Heap} {l:List UInt8} {i n:Nat} {b:UInt8}:(∃t:List UInt8,(l.map a13).set i (V.int .u8 (b.toNat:Int))=t.map a13∧t.length=n∧a0m (M.lok c d r s e h) (.str t))=((l.set i b).length=n∧a0m (M.aft c d r s e h) (.str (l.set i b))):=by rw [b0q,M.lok_comp]
theorem a0t.b2s_setD {M:a0t} {c:Cfg} {anc:List (List Nat)} {e0 e:List (Nat×V)} {h0 h:Heap} {d:Option Nat} {u t m:List Nat} {r:List MOp} {log:List Ent} {s:List Fr} {l:List UInt8} {i n:Nat} {b:UInt8}:(∃t':List UInt8,(l.map a13).set i (V.int .u8 (b.toNat:Int))=t'.map a13∧t'.length=n∧a0m (M.lokD c anc e0 h0 d u t m r log s e h) (.str t'))=((l.set i b).length=n∧a0m (M.aftD c anc e0 h0 d u t m r log s e h) (.str (l.set i b))):=by rw [b0q,M.lokD_comp]
theorem b8q {n m:Int} {a a':Prop} (h:d4d n m=true∧a') (h1:d4d n m=true→a'→a):0≤n∧a:=⟨(b69.1 h.1).1,h1 h.1 h.2⟩
theorem tA {p q:Prop} (b:q) (a:p:=by (first|exact d98 rfl|assumption|exact e7s (by assumption)|exact a7o (by assumption)|omega)):p∧q:=⟨a,b⟩
theorem tE {α:Type} [Inhabited α] {f:α→V} {l:List α} {i:Nat} {p:V→Prop} (b:p (f (l.getD i default))) (h:i<l.length:=by exact a1s (by assumption)):∃x,(l.map f)[i]?=some x∧p x:=⟨_,b1l h,b⟩
theorem tY {a b:Prop} (h:a) (e:Cv a b:=by (first|(simp (maxSteps:=400000) only [go_sem,Nat.reduceBEq,Nat.reduceAdd,Nat.reduceLeDiff,Nat.reduceSub,Nat.reduceMul,Int.reduceToNat,Int.reduceLT,Int.reduceLE];exact Cv.r)|exact Cv.r)):b:=e.e▸h
theorem a0t.sC (M:a0t) {P:Program} {n:Nat} {args cap:List V} {ids news:List Nat} {ob:Nat→Option a0c} {H H1:Heap} {r:V} {c:Cfg} {d:Option Nat} {o:List MOp} {s:List Fr} {e:List (Nat×V)} {h:Heap} (hc:a0o P n (args++cap) H (fun r' H'=>r'=r∧H'=H1)) (x:M.aft c d o s e h ⟨r,ids,H1⟩)
  (hs:b6j ids ob=some H:=by rfl) (hi:a9u H1 ids news=true:=by rfl):b0y P (.fn (.func n) cap) args ids news ob (M.lok c d o s e h):=c9z hc hs hi (by rw [M.lok_eq];exact x)
theorem a0t.sD (M:a0t) {P:Program} {n:Nat} {args cap:List V} {ids news:List Nat} {ob:Nat→Option a0c} {H H1:Heap} {r:V} {c:Cfg} {anc:List (List Nat)} {e0:List (Nat×V)} {h0:Heap} {d:Option Nat} {u t m:List Nat} {o:List MOp} {log:List Ent} {s:List Fr} {e:List (Nat×V)} {h:Heap} (hc:a0o P n (args++cap) H (fun r' H'=>r'=r∧H'=H1)) (x:M.aftD c anc e0 h0 d u t m o log s e h ⟨r,ids,H1⟩)
  (hs:b6j ids ob=some H:=by rfl) (hi:a9u H1 ids news=true:=by rfl):b1u P (.fn (.func n) cap) args ids news ob (M.lokD c anc e0 h0 d u t m o log s e h):=c5k hc hs hi (by rw [M.lokD_eq];exact x)
def Cn {α:Type} (P:Program) (n:Nat) (args:List V) (H:Heap) (F:Option α) (RV:α→V) (HV:α→Heap):Prop:=∀(Q:α→Prop) (Q':V→Heap→Prop),Ok F Q→(∀z,Q z→Q' (RV z) (HV z))→a0o P n args H Q'
theorem Cn.w {α:Type} {F:Option α} {P:Program} {n:Nat} {args:List V} {H:Heap} {RV:α→V} {HV:α→Heap} (h:Cn P n args H F RV HV) {y:α} (hy:F=some y):a0o P n args H (fun r H'=>r=RV y∧H'=HV y) :=
 h (·=y) _ ⟨_,hy,rfl⟩ fun z e=>e▸⟨rfl,rfl⟩
@[reducible,go_sem] def oV (a d:Nat):MOp:=⟨.mv (.t a),some d,none⟩
@[reducible,go_sem] def oL (a d:Nat):MOp:=⟨.ld none (.t a),some d,none⟩
@[reducible,go_sem] def oF (o a d:Nat):MOp:=⟨.fad o (.t a),some d,none⟩
@[reducible,go_sem] def cI (n:Int):Opd:=.c (.int .i64 n)
@[reducible,go_sem] def oC (n:Int) (d:Nat):MOp:=⟨.mv (.c (.int .i64 n)),some d,none⟩
@[reducible,go_sem] def gF (s d:Nat) (i:a06):MOp:=⟨i,some d,some (s,false)⟩
@[reducible,go_sem] def gT (s d:Nat) (i:a06):MOp:=⟨i,some d,some (s,true)⟩
@[reducible,go_sem] def lN (n a d:Nat):MOp:=⟨.ld (some n) (.t a),some d,none⟩
@[reducible,go_sem] def bx (a d:Nat):MOp:=⟨.box (.t a),some d,none⟩
@[reducible,go_sem] def mF (d:Nat):MOp:=⟨.mv (.c (.bool false)),some d,none⟩
@[reducible,go_sem] def mT (d:Nat):MOp:=⟨.mv (.c (.bool true)),some d,none⟩
@[reducible,go_sem] def lE (a d:Nat):MOp:=⟨.len false (.t a),some d,none⟩
@[reducible,go_sem] def iA (k a b d:Nat):MOp:=⟨.iad k (.t a) (.t b),some d,none⟩
@[reducible,go_sem] def aI (a:Nat) (n:Int) (d:Nat):MOp:=⟨.bin true .add (.t a) (.c (.int .i64 n)),some d,none⟩
@[reducible,go_sem] def sI (a:Nat) (n:Int) (d:Nat):MOp:=⟨.bin true .sub (.t a) (.c (.int .i64 n)),some d,none⟩
@[reducible,go_sem] def pO (a b d:Nat):MOp:=⟨.pick (.t a) (.c (.bool true)) (.t b),some d,none⟩
@[reducible,go_sem] def pA (a b d:Nat):MOp:=⟨.pick (.t a) (.t b) (.c (.bool false)),some d,none⟩
@[reducible,go_sem] def bT (o:BinOp) (a b d:Nat):MOp:=⟨.bin false o (.t a) (.t b),some d,none⟩
@[reducible,go_sem] def bC (o:BinOp) (a:Nat) (n:Int) (d:Nat):MOp:=⟨.bin false o (.t a) (.c (.int .i64 n)),some d,none⟩
@[reducible,go_sem] def xT (i a d:Nat):MOp:=⟨.ext i (.t a),some d,none⟩
@[reducible,go_sem] def nT (a d:Nat):MOp:=⟨.not (.t a),some d,none⟩
@[reducible,go_sem] def k1 (f a d:Nat):MOp:=⟨.call (.f f) [.t a] [] [],some d,none⟩
@[reducible,go_sem] def k2 (f a b d:Nat):MOp:=⟨.call (.f f) [.t a,.t b] [] [],some d,none⟩
@[reducible,go_sem] def k3 (f a b c d:Nat):MOp:=⟨.call (.f f) [.t a,.t b,.t c] [] [],some d,none⟩
@[reducible,go_sem] def ap (k n a b d:Nat):MOp:=⟨.app k n (.t a) (.t b),some d,none⟩
@[reducible,go_sem] def tL (s d a:Nat):MOp:=⟨.ld none (.t a),some d,some (s,true)⟩
@[reducible,go_sem] def ta_ (s d o a:Nat):MOp:=⟨.fad o (.t a),some d,some (s,true)⟩
@[reducible,go_sem] def tV (s d a:Nat):MOp:=⟨.mv (.t a),some d,some (s,true)⟩
@[reducible,go_sem] def fL (s d a:Nat):MOp:=⟨.ld none (.t a),some d,some (s,false)⟩
@[reducible,go_sem] def fa_ (s d o a:Nat):MOp:=⟨.fad o (.t a),some d,some (s,false)⟩
@[reducible,go_sem] def fV (s d a:Nat):MOp:=⟨.mv (.t a),some d,some (s,false)⟩
@[reducible,go_sem] def sR (l:List MOp) (b:MC):MC:=.seq (.reg l) b
theorem a3a {P:Program} {f:Nat} {fn:Func} {args:List V} {H:Heap} {Q:V→Heap→Prop} (mc:MC) (ns:List a3l) (rids:List Nat) (rs:List RS) (hf:P.funcs[f]?=some fn)
  (h:∀M:a0t,M.go ⟨P,H,a1r H ns rids rs Q,fun _ _=>False,a1r H ns rids rs Q⟩ mc [] ⟨a4d 0 args,H⟩) (hb:fn.body=some (fn.body.getD .skip):=by rfl) (hc:callable P f=true:=by kernel_rfl)
  (hok:mc.ok P fn.ntmps (fn.body.getD .skip)=true:=by kernel_rfl) (hnh:mc.nh=true:=by kernel_rfl) (hrs:a5n P rs fn.results.toList=true:=by kernel_rfl) (hn:Nat.ble args.length fn.ntmps=true:=by rfl) (hg:St.good ⟨a4d 0 args,H⟩=true:=by rfl):a0o P f args H Q :=
 c0e ns rids rs hf hb hc hnh hok hrs hn hg fun M _=>h M
theorem c5b {α:Type} {f:α→V} {a:V} {L:List α}:List.take (1+L.length) (a::L.map f)=a::L.map f:=zP (by rw [wC,wP];omega)
theorem e9w {α:Type} {l:List α} {i:Nat}:(l.length - i≤(List.take (l.length - i) (List.drop i l)).length)=True:=eq_true (by rw [wB,List.length_drop];omega)
theorem c3k {n:Nat}:(1+n≤n+1)=True:=eq_true (by omega)
attribute [go_sem] c5b e9w c3k Nat.sub_zero
end
end Go.Ab
namespace Go.Ab
section
variable {α β σ ρ:Type} {Q:β→Prop} {P:α→Prop}
theorem Ok.bind {o:Option α} {f:α→Option β} (h:Ok o P) (k:∀y,P y→Ok (f y) Q):Ok (o.bind f) Q:=by
 obtain ⟨y,rfl,hy⟩:=h;exact k y hy
theorem Ok.jn {o:Option α} {f:α→Option β} (h:Ok o P) (k:∀y,P y→Ok (f y) Q):Ok (jn o f) Q:=Ok.bind h k
theorem Ok.grp {x:α} {f:α→Option β} (h:Ok (f x) Q):Ok (grp x f) Q:=h
theorem Ok.chk {b:Bool} {o:Option β} (hb:b=true) (h:Ok o Q):Ok (chk b o) Q:=by rw [d4k];exact ⟨hb,h⟩
theorem Ok.ret {x:β} (h:Q x):Ok (some x) Q:=⟨x,rfl,h⟩
theorem Ok.mono {o:Option β} {Q':β→Prop} (h:Ok o Q') (k:∀y,Q' y→Q y):Ok o Q:=by
 obtain ⟨y,e,hy⟩:=h;exact ⟨y,e,k y hy⟩
theorem Ok.ite {b:Bool} {x y:Option β} (h1:b=true→Ok x Q) (h2:b=false→Ok y Q):Ok (bif b then x else y) Q:=by
 rw [d4j];exact ⟨h1,h2⟩
theorem Ok.eq {o:Option β} {x:β} (h:Ok o (·=x)):o=some x:=by obtain ⟨y,e,rfl⟩:=h;exact e
theorem Ok.of {o:Option β} {x:β} (h:o=some x) (hq:Q x):Ok o Q:=⟨x,h,hq⟩
theorem Ok.val {o:Option β} {x:β} (h:Ok o Q) (e:o=some x):Q x:=by obtain ⟨y,e',h⟩:=h;rw [e] at e';cases e';exact h
theorem Ok.foldI {body:Int→α→σ→Option σ} {Q:σ→Prop} {all:List α} (I:List α→σ→Prop):∀(xs pre:List α) (k:Int) (s:σ),all=pre++xs→k=pre.length→I pre s →
  (∀(pre:List α) (x:α) (r:List α) (s:σ),all=pre++x::r→I pre s→Ok (body pre.length x s) (I (pre++[x])))→(∀s,I all s→Q s)→Ok (a0d body xs k s) Q
 | [],pre,k,s,hw,hk,h,step,fin=>by
  simp only [a0d];exact ⟨s,rfl,fin s (by rw [hw];simpa using h)⟩
 | x::r,pre,k,s,hw,hk,h,step,fin=>by
  simp only [a0d]
  refine Ok.bind (by rw [hk];exact step pre x r s hw h) fun y hy=>?_
  exact Ok.foldI I r (pre++[x]) (k+1) y (by simp [hw]) (by simp [hk]) hy step fin
theorem Ok.fold {body:Int→α→σ→Option σ} {Q:σ→Prop} (I:σ→Prop):∀(xs:List α) (k:Int) (s:σ),I s →
  (∀k x s,x∈xs→I s→Ok (body k x s) I)→(∀s,I s→Q s)→Ok (a0d body xs k s) Q
 | [],k,s,h,step,fin=>⟨s,rfl,fin s h⟩
 | x::r,k,s,h,step,fin=>by
  simp only [a0d]
  exact Ok.bind (step k x s (by simp) h) fun y hy=>Ok.fold I r (k+1) y hy (fun k x s hx=>step k x s (by simp [hx])) fin
theorem Ok.forI {body:Int→α→σ→Option (Fl σ ρ)} {Q:Fl σ ρ→Prop} {all:List α} (I:List α→σ→Prop):∀(xs pre:List α) (k:Int) (s:σ),all=pre++xs→k=pre.length→I pre s →
  (∀(pre:List α) (x:α) (r:List α) (s:σ),all=pre++x::r→I pre s→Ok (body pre.length x s) (Fl.elim (I (pre++[x])) fun r=>Q (.ex r)))→(∀s,I all s→Q (.nx s))→Ok (a10 body xs k s) Q
 | [],pre,k,s,hw,hk,h,step,fin=>by
  simp only [a10];exact ⟨_,rfl,fin s (by rw [hw];simpa using h)⟩
 | x::r,pre,k,s,hw,hk,h,step,fin=>by
  simp only [a10]
  refine Ok.bind (by rw [hk];exact step pre x r s hw h) fun y hy=>?_
  cases y with
  | nx s'=>exact Ok.forI I r (pre++[x]) (k+1) s' (by simp [hw]) (by simp [hk]) hy step fin
  | ex e=>exact ⟨_,rfl,hy⟩
theorem Ok.for {body:Int→α→σ→Option (Fl σ ρ)} {Q:Fl σ ρ→Prop} (I:σ→Prop):∀(xs:List α) (k:Int) (s:σ),I s →
  (∀k x s,x∈xs→I s→Ok (body k x s) (Fl.elim I fun r=>Q (.ex r)))→(∀s,I s→Q (.nx s))→Ok (a10 body xs k s) Q
 | [],k,s,h,step,fin=>⟨.nx s,rfl,fin s h⟩
 | x::r,k,s,h,step,fin=>by
  simp only [a10]
  refine Ok.bind (step k x s (by simp) h) fun y hy=>?_
  cases y with
  | nx s'=>exact Ok.for I r (k+1) s' hy (fun k x s hx=>step k x s (by simp [hx])) fin
  | ex e=>exact ⟨_,rfl,hy⟩
theorem Ok.loop {step:σ→Option (Fl σ ρ)} {Q:ρ→Prop} (I:σ→Prop) (μ:σ→Nat) (hs:∀s,I s→Ok (step s) (Fl.elim (fun s'=>I s'∧μ s'<μ s) Q)) (s:σ) (h:I s):Ok (loop step s) Q:=by
 rw [b2f]
 refine Ok.bind (hs s h) fun y hy=>?_
 cases y with
 | nx s'=>exact Ok.loop I μ hs s' hy.1
 | ex r=>exact ⟨r,rfl,hy⟩
 termination_by μ s
 decreasing_by exact hy.2
end
def a3g {α ρ:Type} (f:α→Option ρ):List α→Option ρ
 | []=>none
 | x::r=>match f x with
  | some y=>some y
  | none=>a3g f r
def flO {ρ:Type}:Option ρ→Fl Unit ρ
 | some y=>.ex y
 | none=>.nx ()
theorem a0k {α ρ:Type} {body:Int→α→Unit→Option (Fl Unit ρ)} (f:α→Option ρ):∀(xs:List α) (k:Int),(∀k x,x∈xs→body k x ()=some (flO (f x)))→a10 body xs k ()=some (flO (a3g f xs))
 | [],k,h=>rfl
 | x::r,k,h=>by
  simp only [a10,h k x (by simp),xZ,a3g]
  cases f x with
  | some y=>rfl
  | none=>exact a0k f r (k+1) fun k x hx=>h k x (by simp [hx])
theorem a2t {ρ γ:Type} {a:Unit→γ} {b:ρ→γ} (o:Option ρ):Fl.elim a b (flO o)=(match o with|some y=>b y|none=>a ()):=by cases o<;>rfl
end Go.Ab
namespace Go.Ab
open Go.RowKit
inductive Sh where
 | bool
 | int (k:IntKind)
 | str
 | sl (agg:Bool) (cs:List Sh)
 | rk (R:V→Prop)
mutual
def Sh.has:Sh→V→Prop
 | .bool,x=>∃b,x=.bool b
 | .int k,x=>∃n,x=.int k n∧rng k n
 | .str,x=>∃s,x=.str s
 | .sl agg cs,x=>∃ys,x=.sl ys∧∀y∈ys,bif agg then ∃zs,y=.agg zs∧Sh.hasL cs zs else Sh.hasL cs [y]
 | .rk R,x=>R x
def Sh.hasL:List Sh→List V→Prop
 | [],[]=>True
 | s::r,x::q=>s.has x∧Sh.hasL r q
 | _,_=>False
end
mutual
def shT (P:Program) (ρ:TypeId→Option (V→Prop)):Nat→TypeId→Option (Bool×List Sh)
 | 0,_=>none
 | n+1,t=>match P.underlying t with
  | some .bool=>some (false,[.bool])
  | some (.int k)=>some (false,[.int k])
  | some .string=>some (false,[.str])
  | some (.slice e)=>match ρ t with
   | some R=>some (false,[.rk R])
   | none=>match shT P ρ n e with
    | some (b,cs)=>bif Nat.beq (P.cellsOf e) cs.length&&Nat.blt 0 cs.length&&(b||Nat.beq cs.length 1) then some (false,[.sl b cs]) else none
    | none=>none
  | some (.struct fs)=>match e0p P ρ n 0 fs.toList with
   | some cs=>bif Nat.beq (P.cellsOf t) cs.length then some (true,cs) else none
   | none=>none
  | _=>none
def e0p (P:Program) (ρ:TypeId→Option (V→Prop)):Nat→Nat→List Field→Option (List Sh)
 | 0,_,_=>none
 | _+1,_,[]=>some []
 | n+1,off,f::r=>match shT P ρ n f.type with
  | some (_,cs)=>bif Nat.beq f.offset off&&Nat.beq (P.cellsOf f.type) cs.length then (match e0p P ρ n (off+cs.length) r with|some q=>some (cs++q)|none=>none) else none
  | none=>none
end
theorem b2r:∀{a b:List Sh} {x y:List V},Sh.hasL a x→Sh.hasL b y→Sh.hasL (a++b) (x++y)
 | [],b,[],y,_,h=>h
 | s::r,b,z::q,y,h,h'=>⟨h.1,b2r h.2 h'⟩
 | [],_,_::_,_,h,_=>h.elim
 | _::_,_,[],_,h,_=>h.elim
theorem a3z:∀{a:List Sh} {x:List V},Sh.hasL a x→x.length=a.length
 | [],[],_=>rfl
 | s::r,z::q,h=>by simp [a3z h.2]
 | [],_::_,h=>h.elim
 | _::_,[],h=>h.elim
section
variable {H:Type} {enc:TypeId×Value→H} {P:Program} {w:World} {base:Nat} {sp:Nat→Bool} {held:Bool}
abbrev Old (w:World):Nat→Prop:=fun b=>b<w.heap.size
structure Reads (w:World) (off:Nat) (cs:List Value) (shs:List Sh) (xs:List V):Prop where
 has:Sh.hasL shs xs
 rd:∀(i:Nat) (x:V),xs[i]?=some x→Rd (Old w) w (cs.getD (off+i) undef) x
 sc:∀x∈xs,x.one=true∧x.sc=true
theorem e2h {k:IntKind} {n:Int} (h:(Lit.int k n).wf=true):rng k n:=by
 rw [←a1a]
 simpa [Lit.wf,inR] using h
theorem c0m {a:Addr} {len cap k:Nat} {b:Bool} {shs:List Sh} (hk:0<k) (hks:shs.length=k) (hb:b=true∨k=1) (hl:len≤cap) (hm:cap≤maxLen)
  (h:∀i,i<len→∃cs xs,w.cells? base (a.add (i*k)) k=some cs∧Reads w 0 cs shs xs):∃ys,ys.length=len∧Sh.has (.sl b shs) (.sl ys)∧Rd (Old w) w (.slice (some a) len cap) (.sl ys):=by
 by_cases h0:len=0
 ·subst h0
  exact ⟨[],rfl,⟨[],rfl,fun y hy=>by cases hy⟩,.slz a cap⟩
 obtain ⟨cs0,xs0,hc0,_⟩:=h 0 (by omega)
 obtain ⟨_,_,hcell0⟩:=World.cells?_some hc0
 have hsz:=World.cells?_block hc0 hk
 rw [show (a.add (0*k)).block=a.block from by simp [Addr.add]] at hsz
 have hblk:∃cur e fz,w.heap[a.block]?=some (.cells cur e fz)∧a.spot=none:=by
  have:=hcell0 0 hk
  have hlen:=(World.cells?_some hc0).2.1
  have hs:cs0[0]?=some cs0[0]:=zJ (by omega)
  rw [hs] at this
  have e0:(a.add (0*k)).add 0=a:=by simp [Addr.add]
  rw [e0] at this
  unfold World.cell? at this
  split at this
  ·rename_i cur e fz hh
   refine ⟨cur,e,fz,hh,?_⟩
   split at this
   ·cases this
   ·rename_i hsp;simpa using hsp
  ·cases this
 obtain ⟨cur,e,fz,hh,hspot⟩:=hblk
 obtain ⟨bl,o,spot⟩:=a
 simp only at hh hspot hsz
 subst hspot
 have sp':∀i,∃y:V,i<len→∃cs xs,w.cells? base ((⟨bl,o,none⟩:Addr).add (i*k)) k=some cs∧Reads w 0 cs shs xs∧y.cells=xs∧(bif b then y=.agg xs else xs=[y]):=by
  intro i
  by_cases hi:i<len
  ·obtain ⟨cs,xs,h1,h2⟩:=h i hi
   have hl:=a3z h2.has
   cases b with
   | true=>exact ⟨.agg xs,fun _=>⟨cs,xs,h1,h2,rfl,rfl⟩⟩
   | false =>
    have hk1:k=1:=by
     rcases hb with hb|hb
     ·cases hb
     ·exact hb
    match xs,h2,hl with
    | [x],h2,_ =>
     have:=(h2.sc x (by simp)).1
     refine ⟨x,fun _=>⟨cs,[x],h1,h2,?_,rfl⟩⟩
     cases x<;>first|rfl|simp [V.one] at this
    | [],_,hl=>simp at hl;omega
    | _::_::_,_,hl=>simp at hl;omega
  ·exact ⟨.any,fun h=>absurd h hi⟩
 obtain ⟨pick,sp⟩:∃pick:Nat→V,∀i,i<len→∃cs xs,w.cells? base ((⟨bl,o,none⟩:Addr).add (i*k)) k=some cs∧Reads w 0 cs shs xs∧(pick i).cells=xs∧(bif b then pick i=.agg xs else xs=[pick i]) :=
  ⟨fun i=>(sp' i).choose,fun i=>(sp' i).choose_spec⟩
 have hcc:∀(i j:Nat) (x c:V),((List.range len).map pick)[i]?=some x→x.cells[j]?=some c→i<len∧j<k∧o+i*k+j<cur.size∧Rd (Old w) w (cur.getD (o+i*k+j) undef) c:=by
  intro i j x c hx hc
  rw [xS] at hx
  have hi:i<len:=by
   cases hr:(List.range len)[i]? with
   | none=>rw [hr] at hx;cases hx
   | some z=>have:=(zG.1 hr).1;simpa using this
  rw [List.getElem?_range hi] at hx
  simp at hx;subst hx
  obtain ⟨cs,xs,h1,h2,h3,_⟩:=sp i hi
  rw [h3] at hc
  have hj:j<k:=by rw [←hks,←a3z h2.has];exact (zG.1 hc).1
  obtain ⟨_,hlen,hcell⟩:=World.cells?_some h1
  have:=hcell j hj
  have e1:((⟨bl,o,none⟩:Addr).add (i*k)).add j=⟨bl,o+i*k+j,none⟩:=by rw [Addr.add_lit,Addr.add_lit]
  rw [e1] at this
  have hs:cs[j]?=some cs[j]:=zJ (by omega)
  rw [hs] at this
  simp only [World.cell?,hh,Option.isSome_none,xN,if_false] at this
  have hlt:=(zF.1 this).1
  refine ⟨hi,hj,hlt,?_⟩
  have hr:=h2.rd j c hc
  rw [vC] at hr
  have e2:cs.getD j undef=cs[j]:=by simp [List.getD,hs]
  have e3:cur.getD (o+i*k+j) undef=cs[j]:=by simp [zC,this]
  rw [e2] at hr
  rw [e3];exact hr
 have hmem:∀y∈(List.range len).map pick,∃i,i<len∧y=pick i:=by
  intro y hy
  obtain ⟨i,hi,rfl⟩:=vG.1 hy
  exact ⟨i,by simpa using hi,rfl⟩
 refine ⟨(List.range len).map pick,by simp,⟨_,rfl,fun y hy=>?_⟩,.sl bl o len cap k cur e fz _ hsz hh (by simp) (by omega) hl (.inr ?_) (fun y hy=>?_) fun i j x c hx hc=>(hcc i j x c hx hc).2.2.2⟩
 ·obtain ⟨i,hi,rfl⟩:=hmem y hy
  obtain ⟨cs,xs,h1,h2,h3,h4⟩:=sp i hi
  cases b with
  | true=>exact ⟨xs,h4,h2.has⟩
  | false=>simp only [vO] at h4 ⊢;rw [←h4];exact h2.has
 · -- the row is long enough
  obtain ⟨cs,xs,h1,h2,h3,_⟩:=sp (len - 1) (by omega)
  have hxl:=a3z h2.has
  have hlast:(pick (len - 1)).cells[k - 1]?=some ((pick (len - 1)).cells[k - 1]'(by rw [h3,hxl,hks];omega)):=zJ _
  have:=hcc (len - 1) (k - 1) (pick (len - 1)) _ (by rw [xS,List.getElem?_range (by omega)];rfl) hlast
  have e1:(len - 1)*k+k=len*k:=by
   rw [←Nat.succ_mul];congr 1;omega
  omega
 ·obtain ⟨i,hi,rfl⟩:=hmem y hy
  obtain ⟨cs,xs,h1,h2,h3,h4⟩:=sp i hi
  refine ⟨by rw [h3,a3z h2.has,hks],fun c hc=>(h2.sc c (by rw [←h3];exact hc)).1,?_⟩
  cases b with
  | true=>simp only [vQ] at h4;rw [h4];simp only [V.sealed,wF];exact fun c hc=>(h2.sc c hc).2
  | false =>
   simp only [vO] at h4
   have:=(h2.sc (pick i) (by rw [h4];simp))
   have hs:=this.2
   generalize pick i=z at hs this
   cases z<;>first|exact hs|simp [V.one] at this
def d3i (H:Type) (enc:TypeId×Value→H) (P:Program) (w:World) (base:Nat) (sp:Nat→Bool) (held:Bool) (ρ:TypeId→Option (V→Prop)) (F:Nat):Prop :=
 ∀t R,ρ t=some R→∀fuel,fuel≤F→∀(e:TypeId) (cs:List Value) (x:DataW H×List MemPlace),P.underlying t=some (.slice e)→DataW.trod enc P w base sp held fuel t cs=some x→∃y,Reads w 0 cs [.rk R] [y]∧cs.length=1
theorem b8v {ρ:TypeId→Option (V→Prop)} {F:Nat} (hρ:d3i H enc P w base sp held ρ F):∀(n:Nat),(∀(fuel:Nat),fuel≤F→∀(t:TypeId) (cs:List Value) (x:DataW H×List MemPlace) (b:Bool) (shs:List Sh),shT P ρ n t=some (b,shs)→DataW.trod enc P w base sp held fuel t cs=some x→∃xs,Reads w 0 cs shs xs∧cs.length=shs.length) ∧
  (∀(fuel:Nat),fuel≤F→∀(off:Nat) (fs:List Field) (cs:List Value) (shs:List Sh),e0p P ρ n off fs=some shs→(∀f∈fs,∃x,DataW.trod enc P w base sp held fuel f.type ((cs.drop f.offset).take (P.cellsOf f.type))=some x)→∃xs,Reads w off cs shs xs)
 | 0=>⟨fun _ _ _ _ _ _ _ h=>by simp [shT] at h,fun _ _ _ _ _ _ h=>by simp [e0p] at h⟩
 | n + 1 => by
  obtain ⟨ih1,ih2⟩:=b8v hρ n
  refine ⟨fun fuel hF t cs x b shs h ht=>?_,fun fuel hF off fs cs shs h ht=>?_⟩
  ·simp only [shT] at h
   split at h
   ·rename_i hu
    cases h
    obtain ⟨v,rfl,rfl⟩:=DataW.trod_bool hu ht
    exact ⟨[.bool v],⟨⟨⟨v,rfl⟩,trivial⟩,fun i x hx=>(by cases i<;>simp at hx;subst hx;exact .bool v),fun x hx=>by simp at hx;subst hx;exact ⟨rfl,rfl⟩⟩,rfl⟩
   ·rename_i k hu
    cases h
    obtain ⟨v,rfl,rfl,hw⟩:=DataW.trod_int hu ht
    have hr:=e2h hw
    exact ⟨[.int k v],⟨⟨⟨v,rfl,hr⟩,trivial⟩,fun i x hx=>(by cases i<;>simp at hx;subst hx;exact .int k v (a1a.2 hr)),fun x hx=>by simp at hx;subst hx;exact ⟨rfl,rfl⟩⟩,rfl⟩
   ·rename_i hu
    cases h
    obtain ⟨s,rfl,rfl,hs⟩:=DataW.trod_string hu ht
    exact ⟨[.str s.data.toList],⟨⟨⟨_,rfl⟩,trivial⟩,fun i x hx=>(by cases i<;>simp at hx;subst hx;exact .str s hs),fun x hx=>by simp at hx;subst hx;exact ⟨rfl,rfl⟩⟩,rfl⟩
   ·rename_i e hu
    split at h
    ·rename_i R hR
     cases h
     obtain ⟨y,h1,h2⟩:=hρ t R hR fuel hF e cs x hu ht
     exact ⟨[y],h1,h2⟩
    split at h
    ·rename_i b' cs' he
     cases hc:(Nat.beq (P.cellsOf e) cs'.length&&Nat.blt 0 cs'.length&&(b'||Nat.beq cs'.length 1)) with
     | false=>rw [hc] at h;cases h
     | true =>
      rw [hc] at h;cases h
      simp only [wG,wT] at hc
      have hce:=zR hc.1.1
      have hpos:0<cs'.length:=by have:=hc.1.2;simp [Nat.blt] at this;omega
      rcases DataW.trod_slice hu ht with ⟨rfl,_⟩|⟨a,len,cap,elems,rest,m,hfm,rfl,_,_,hl,hm,hel,hall,_⟩
      ·exact ⟨[.sl []],⟨⟨⟨[],rfl,fun y hy=>by cases hy⟩,trivial⟩,fun i x hx=>(by cases i<;>simp at hx;subst hx;exact .nilsl),fun x hx=>by simp at hx;subst hx;exact ⟨rfl,rfl⟩⟩,rfl⟩
      ·obtain ⟨ys,_,h1,h2⟩:=c0m (w:=w) (base:=base) (a:=a) (len:=len) (cap:=cap) (k:=P.cellsOf e) (b:=b') (shs:=cs') (by omega) hce.symm (by rcases hc.2 with h|h;exact .inl h;exact .inr (by rw [hce];exact zR h)) hl hm (fun i hi=>by
        have:=hall i hi
        have hs:elems[i]?=some elems[i]:=zJ (by omega)
        rw [hs] at this
        obtain ⟨cs,h3,h4⟩:=zL.1 this
        obtain ⟨xs,h5,_⟩:=ih1 _ (by omega) _ _ _ _ _ he h4
        exact ⟨cs,xs,h3,h5⟩)
       exact ⟨[.sl ys],⟨⟨h1,trivial⟩,fun i x hx=>(by cases i<;>simp at hx;subst hx;exact h2),fun x hx=>by simp at hx;subst hx;exact ⟨rfl,rfl⟩⟩,rfl⟩
    ·cases h
   ·rename_i fs hu
    split at h
    ·rename_i cs' hf
     cases hc:Nat.beq (P.cellsOf t) cs'.length with
     | false=>rw [hc] at h;cases h
     | true =>
      rw [hc] at h
      simp only [vQ,xQ,Prod.mk.injEq] at h
      obtain ⟨_,rfl⟩:=h
      obtain ⟨xs,m,hfu,_,hl,hxl,hall⟩:=DataW.trod_struct hu ht
      obtain ⟨ys,hy⟩:=ih2 m (by omega) 0 fs.toList cs cs' hf (fun f hfm=>by
       obtain ⟨i,hi⟩:=zT.1 hfm
       have hi':fs[i]?=some f:=by simpa using hi
       have:=hall i f hi'
       have hlt:i<xs.length:=by rw [hxl];exact (zF.1 hi').1
       rw [zJ hlt] at this
       exact ⟨_,this⟩)
      exact ⟨ys,hy,by rw [hl];exact zR hc⟩
    ·cases h
   ·cases h
  ·cases fs with
   | nil=>simp [e0p] at h;subst h;exact ⟨[],trivial,fun i x hx=>by simp at hx,fun x hx=>by cases hx⟩
   | cons f r =>
    simp only [e0p] at h
    split at h
    ·rename_i b' cs' he
     cases hc:(Nat.beq f.offset off&&Nat.beq (P.cellsOf f.type) cs'.length) with
     | false=>rw [hc] at h;cases h
     | true =>
      rw [hc] at h
      simp only [vQ] at h
      simp only [wG] at hc
      have ho:=zR hc.1
      have hce:=zR hc.2
      split at h
      ·rename_i q hq
       cases h
       obtain ⟨x,hx⟩:=ht f (by simp)
       obtain ⟨xs,h1,hxl⟩:=ih1 _ hF _ _ _ _ _ he hx
       obtain ⟨ys,h2⟩:=ih2 fuel hF _ r cs q hq fun f' hf'=>ht f' (by simp [hf'])
       have hlx:=a3z h1.has
       refine ⟨xs++ys,b2r h1.has h2.has,fun i z hz=>?_,fun z hz=>?_⟩
       ·by_cases hi:i<xs.length
        ·rw [zH hi] at hz
         have:=h1.rd i z hz
         rw [vC] at this
         have e1:((cs.drop f.offset).take (P.cellsOf f.type)).getD i undef=cs.getD (off+i) undef:=by
          have hi':i<P.cellsOf f.type:=by omega
          simp [List.getD,xL,hi',ho]
         rw [e1] at this;exact this
        ·rw [zD (by omega)] at hz
         have:=h2.rd (i - xs.length) z hz
         rw [←hlx] at this
         rw [show off+i=off+xs.length+(i - xs.length) by omega]
         exact this
       ·rcases wN.1 hz with hz|hz
        ·exact h1.sc z hz
        ·exact h2.sc z hz
      ·cases h
    ·cases h
def f0u (P:Program) (ρ:TypeId→Option (V→Prop)) (n:Nat) (t:TypeId) (R:V→Prop):Prop :=
 ∃e b cs,P.underlying t=some (.slice e)∧shT P ρ n e=some (b,cs)∧(Nat.beq (P.cellsOf e) cs.length&&Nat.blt 0 cs.length&&(b||Nat.beq cs.length 1))=true ∧
  ∀ys:List V,ys.length≤maxLen→(∀y∈ys,bif b then ∃zs,y=.agg zs∧Sh.hasL cs zs else Sh.hasL cs [y])→R (.sl ys)
theorem d3x {ρ:TypeId→Option (V→Prop)} {n:Nat} (hR:∀t R,ρ t=some R→f0u P ρ n t R):∀F,d3i H enc P w base sp held ρ F
 | 0=>fun t R hr fuel hF e cs x hu ht=>by
  have:fuel=0:=by omega
  subst this
  simp [DataW.trod] at ht
 | F+1=>fun t R hr fuel hF e cs x hu ht=>by
  have ih:=d3x hR F
  obtain ⟨e',b',cs',hu',he,hc,hall'⟩:=hR t R hr
  rw [hu] at hu'
  cases hu'
  simp only [wG,wT] at hc
  have hce:=zR hc.1.1
  have hpos:0<cs'.length:=by have:=hc.1.2;simp [Nat.blt] at this;omega
  rcases DataW.trod_slice hu ht with ⟨rfl,_⟩|⟨a,len,cap,elems,rest,m,hfm,rfl,_,_,hl,hm,hel,hall,_⟩
  ·exact ⟨.sl [],⟨⟨hall' [] (vJ _) (fun y hy=>by cases hy),trivial⟩,fun i x hx=>(by cases i<;>simp at hx;subst hx;exact .nilsl),fun x hx=>by simp at hx;subst hx;exact ⟨rfl,rfl⟩⟩,rfl⟩
  ·obtain ⟨ys,h0,⟨ys',e1,h1⟩,h2⟩:=c0m (w:=w) (base:=base) (a:=a) (len:=len) (cap:=cap) (k:=P.cellsOf e) (b:=b') (shs:=cs') (by omega) hce.symm (by rcases hc.2 with h|h;exact .inl h;exact .inr (by rw [hce];exact zR h)) hl hm (fun i hi=>by
    have:=hall i hi
    have hs:elems[i]?=some elems[i]:=zJ (by omega)
    rw [hs] at this
    obtain ⟨cs,h3,h4⟩:=zL.1 this
    obtain ⟨xs,h5,_⟩:=(b8v ih n).1 _ (by omega) _ _ _ _ _ he h4
    exact ⟨cs,xs,h3,h5⟩)
   cases e1
   exact ⟨.sl ys,⟨⟨hall' ys (by omega) h1,trivial⟩,fun i x hx=>(by cases i<;>simp at hx;subst hx;exact h2),fun x hx=>by simp at hx;subst hx;exact ⟨rfl,rfl⟩⟩,rfl⟩
end
end Go.Ab
namespace Go.Ab
open Go.RowKit Go.WideShapes
def d3b (s:Bool×List Sh) (x:V):Prop:=bif s.1 then ∃zs,x=.agg zs∧Sh.hasL s.2 zs else Sh.hasL s.2 [x]
def b3k:List (Bool×List Sh)→List V→Prop
 | [],[]=>True
 | s::r,x::q=>d3b s x∧b3k r q
 | _,_=>False
section
variable {H:Type} {enc:TypeId×Value→H} {P:Program} {W:World} {base:Nat}
def gh0 (W:World):Gh:=⟨Old W,id,id,id,fun _=>False⟩
theorem b1z {v:Value} {b:Bool} {shs:List Sh} {xs:List V} (hc:v.cells=#[v]) (h:Reads W 0 v.cells.toList shs xs) (hl:v.cells.toList.length=shs.length):∃y,VR (gh0 W) W v y∧d3b (false,shs) y:=by
 have h1:xs.length=1:=by rw [a3z h.has,←hl,hc];rfl
 match xs,h1,h with
 | [y],_,h =>
  refine ⟨y,.rd ?_,h.has⟩
  have:=h.rd 0 y rfl
  rw [hc] at this
  exact (by simpa using this:Rd (Old W) W v y)
theorem c8t {ρ:TypeId→Option (V→Prop)} (hρ:∀F,d3i H enc P W 0 (fun _=>true) true ρ F) {n:Nat} {t:TypeId} {b:Bool} {shs:List Sh} {v:Value} {d:DataW H} {ps:List MemPlace} (hs:shT P ρ n t=some (b,shs)) (hv:Value.okWide P W .any base t v) (ht:DataW.Trod enc P W 0 (fun _=>true) true t v d ps) :
  ∃y,VR (gh0 W) W v y∧d3b (b,shs) y:=by
 obtain ⟨fuel,ht⟩:=ht
 obtain ⟨xs,h1,h2⟩:=(b8v (enc:=enc) (P:=P) (w:=W) (base:=0) (sp:=fun _=>true) (held:=true) (hρ fuel) n).1 fuel (vL _) t _ _ _ _ hs ht
 cases n with
 | zero=>simp [shT] at hs
 | succ n =>
  simp only [shT] at hs
  split at hs
  ·rename_i hu
   cases hs
   obtain ⟨c,rfl⟩:=okWide_bool hu hv
   exact b1z (b:=false) rfl h1 h2
  ·rename_i k hu
   cases hs
   obtain ⟨c,rfl⟩:=okWide_int hu hv
   exact b1z (b:=false) rfl h1 h2
  ·rename_i hu
   cases hs
   obtain ⟨c,rfl⟩:=okWide_string hu hv
   exact b1z (b:=false) rfl h1 h2
  ·rename_i e hu
   split at hs
   ·cases hs
    obtain ⟨a,len,cap,rfl⟩:=okWide_slice hu hv
    exact b1z (b:=false) rfl h1 h2
   split at hs
   ·cases hc:(Nat.beq (P.cellsOf e) _&&Nat.blt 0 _&&(_||Nat.beq _ 1)) with
    | false=>rw [hc] at hs;cases hs
    | true =>
     rw [hc] at hs;cases hs
     obtain ⟨a,len,cap,rfl⟩:=okWide_slice hu hv
     exact b1z (b:=false) rfl h1 h2
   ·cases hs
  ·rename_i fs hu
   split at hs
   ·rename_i cs' hf
    cases hc:Nat.beq (P.cellsOf t) cs'.length with
    | false=>rw [hc] at hs;cases hs
    | true =>
     rw [hc] at hs
     simp only [vQ,xQ,Prod.mk.injEq] at hs
     obtain ⟨rfl,rfl⟩:=hs
     obtain ⟨cs,rfl,_⟩:=okWide_struct hu hv
     refine ⟨.agg xs,.rd (.agg cs xs ?_ fun i c hc=>?_),⟨xs,rfl,h1.has⟩⟩
     ·have:=a3z h1.has
      have h2':cs.size=cs'.length:=by simpa [Value.cells] using h2
      omega
     ·have:=h1.rd i c hc
      exact (by simpa [Value.cells,zC,List.getD] using this:Rd (Old W) W (cs.getD i undef) c)
   ·cases hs
  ·cases hs
theorem b54 {ρ:TypeId→Option (V→Prop)} (hρ:∀F,d3i H enc P W 0 (fun _=>true) true ρ F) {n:Nat}:∀{ts:List TypeId} {shs:List (Bool×List Sh)} {vs:List Value} {ds:List (DataW H)} {ps:List MemPlace},ts.map (shT P ρ n)=shs.map some→(∀(j:Nat) t v,ts[j]?=some t→vs[j]?=some v→Value.okWide P W .any base t v) →
  DataW.TrodAll enc P W 0 (fun _=>true) true ts vs ds ps→∃ys,ys.length=vs.length∧b3k shs ys∧∀(i:Nat) (y:V),ys[i]?=some y→VR (gh0 W) W (vs.getD i undef) y
 | [],shs,[],[],ps,hs,_,_=>by
  cases shs with
  | nil=>exact ⟨[],rfl,trivial,fun i y h=>by simp at h⟩
  | cons _ _=>simp at hs
 | t::ts,shs,v::vs,d::ds,ps,hs,hv,h=>by
  cases shs with
  | nil=>simp at hs
  | cons s shs =>
   simp only [w5,wR] at hs
   obtain ⟨p,q,h1,h2,_⟩:=h
   obtain ⟨b,sh⟩:=s
   obtain ⟨y,k1,k2⟩:=c8t hρ hs.1 (hv 0 t v rfl rfl) h1
   obtain ⟨ys,k3,k4,k5⟩:=b54 hρ hs.2 (fun j t v h1 h2=>hv (j+1) t v (by simpa using h1) (by simpa using h2)) h2
   refine ⟨y::ys,by simp [k3],⟨k2,k4⟩,fun i z hz=>?_⟩
   cases i with
   | zero=>simp at hz;subst hz;simpa using k1
   | succ i=>simp at hz;simpa using k5 i z hz
 | [],_,_::_,_,_,_,_,h=>h.elim
 | [],_,[],_::_,_,_,_,h=>h.elim
 | _::_,_,[],_,_,_,_,h=>h.elim
 | _::_,_,_::_,[],_,_,_,h=>h.elim
theorem b1p {w:World} {sp:Nat→Bool} {held:Bool}:∀{ts:List TypeId} {vs:List Value} {ds:List (DataW H)} {ps:List MemPlace},DataW.TrodAll enc P w base sp held ts vs ds ps→ds.length=ts.length∧vs.length=ts.length
 | [],[],[],_,_=>⟨rfl,rfl⟩
 | t::ts,v::vs,d::ds,ps,h=>by
  obtain ⟨p,q,_,h2,_⟩:=h
  have:=b1p h2
  simp [this.1,this.2]
 | [],_::_,_,_,h=>h.elim
 | [],[],_::_,_,h=>h.elim
 | _::_,[],_,_,h=>h.elim
 | _::_,_::_,[],_,h=>h.elim
theorem a7u {W':World} {sp:Nat→Bool} (hl:laidOutB P=true):∀{ts:List TypeId} {vs:List Value} {ds:List (DataW H)} {ps:List MemPlace},(∀t∈ts,P.readableRec t=true∧t<P.types.size)→(∀p∈ps,W.sameAt W' p∧sp p.block=true) →
  DataW.TrodAll enc P W base (fun _=>true) true ts vs ds ps→DataW.TrodAll enc P W' base sp true ts vs ds ps
 | [],[],[],_,_,_,h=>h
 | t::ts,v::vs,d::ds,ps,ht,hp,h=>by
  obtain ⟨p,q,h1,h2,rfl⟩:=h
  exact ⟨p,q,WideElems.Trod_stays hl (ht t (by simp)).1 (ht t (by simp)).2 h1 (fun x hx=>(hp x (by simp [hx])).1) (fun x hx=>(hp x (by simp [hx])).2),
   a7u hl (fun t' h'=>ht t' (by simp [h'])) (fun x hx=>hp x (by simp [hx])) h2,rfl⟩
 | [],_::_,_,_,_,_,h=>h.elim
 | [],[],_::_,_,_,_,h=>h.elim
 | _::_,[],_,_,_,_,h=>h.elim
 | _::_,_::_,[],_,_,_,h=>h.elim
theorem c6y {ρ:TypeId→Option (V→Prop)} {nr:Nat} (hR:∀t R,ρ t=some R→f0u P ρ nr t R) {f:Nat} {fn:Func} {s:ChangeSpec} {n:Nat} {shs:List (Bool×List Sh)} {tb:TypeId} (hl:laidOutB P=true) (hrd:∀t∈fn.params.toList,P.readableRec t=true∧t<P.types.size) (hsh:fn.params.toList.map (shT P ρ n)=shs.map some)
  (hrt:fn.resultTypes=#[tb]) (hb:P.underlying tb=some .bool) (hvars:s.vars=[]) (hfn:∀ds:List (DataW H),ds.length=fn.params.size→s.fn H ds={ results:=[.lit (.bool true)],args:=ds })
  (hcall:∀ys,b3k shs ys→a0o P f ys [] (fun r H=>r=.bool true∧H=[]))
  {args:Array Value} {ds gs:List (DataW H)} {before:List MemPlace} (hval:∀(j:Nat) t v,fn.params[j]?=some t→args[j]?=some v→Value.okWide P W .any base t v)
  (hW:DataW.Whole enc P fn.params.toList s.vars false W args.toList ds gs before) (htabs:f0s P W) :
  Calls P f args W fun e W'=>∃v,e=.returned v∧s.post enc P fn false true false false W args v W':=by
 have hW0:=hW
 obtain ⟨p,q,hA,hV,rfl,hfz,_⟩:=hW
 rw [hvars] at hV
 have hgs:gs=[]∧q=[]:=by
  cases gs with
  | nil=>exact ⟨rfl,hV⟩
  | cons _ _=>exact hV.elim
 obtain ⟨rfl,rfl⟩:=hgs
 obtain ⟨ys,k1,k2,k3⟩:=b54 (base:=base) (d3x hR) hsh (fun j t v h1 h2=>hval j t v (by simpa using h1) (by simpa using h2)) hA
 have hkeep:∀{w':World},a1o (Old W) W w'→f0s P w':=by
  intro w' hk
  have key:∀(n:String) (cs:Array Value),World.var? P W n=some cs→World.var? P w' n=some cs:=fun n cs h=>by
   unfold World.var? at h ⊢
   cases hgn:P.globalNamed n with
   | none=>rw [hgn] at h;cases h
   | some g =>
    rw [hgn] at h
    simp only [xZ] at h ⊢
    have hlt:g<W.heap.size:=by
     cases hh:W.heap[g]? with
     | none=>rw [hh] at h;cases h
     | some o=>exact (zF.1 hh).1
    rw [hk g hlt];exact h
  exact ⟨fun d hd hg=>key _ _ (htabs.1 d hd hg),fun n hn hg=>by
   obtain ⟨tp,p,h⟩:=htabs.2 n hn hg
   exact ⟨tp,p,key _ _ h⟩⟩
 have hH:a2l P (gh0 W) W []:=⟨fun id o h=>(by cases h),fun i j o o' h=>(by cases h),fun id o h=>(by cases h),fun b h=>h,fun w' hk=>hkeep hk⟩
 refine ((hcall ys k2).2 (gh0 W) W args hH (by rw [k1];simp) fun i x hx=>?_).mono ?_
 ·have:=k3 i x hx
  simpa [zC,List.getD] using this
 ·rintro e W' ⟨v,r,H',g',rfl,⟨rfl,rfl⟩,_,hv,hf,_⟩
  have hold:∀b,b<W.heap.size→W'.heap[b]?=W.heap[b]?:=fun b hb=>hf.old b hb fun ⟨id,o,h,_⟩=>by cases h
  have hvt:=hv.bool_inv
  subst hvt
  obtain ⟨hdl,hvl⟩:=b1p hA
  have hlt:∀x∈p++[],x.block<W.heap.size:=fun x hx=>hW0.lt x hx
  have hfnds:=hfn ds (by rw [hdl];simp)
  refine ⟨_,rfl,ds,[],p++[],[],p,[],hW0,?_,?_,?_,?_,fun h=>by cases h⟩
  ·rw [wS,hfnds,hrt]
   exact ⟨[],[],⟨1,by simp [DataW.trod,hb,Value.cells]⟩,rfl,rfl⟩
  ·rw [wS,hfnds]
   refine a7u hl hrd (fun x hx=>⟨?_,by simpa using hlt x (by simp [hx])⟩) hA
   have:=hold x.block (hlt x (by simp [hx]))
   cases x with
   | cell b off=>simp only [MemPlace.block] at this;simp [World.sameAt,World.cell?,this]
   | map b=>exact this
  ·rw [hvars,wS,hfnds];rfl
  ·refine ⟨hf.os,hf.output,fun i hi=>?_⟩
   rw [hold i hi]
   cases W.heap[i]? with
   | none=>rfl
   | some o=>cases o<;>first|rfl|exact ⟨rfl,rfl,rfl,fun _ _=>rfl⟩|exact .inr ⟨rfl,rfl⟩
theorem c1o {name:String} {d:DataW Unit}:∀{l:List (String×DataW Unit)} {ps:List MemPlace},DataW.LaidVars P W l ps→(name,d)∈l →
  ∃g t cs fuel p,P.globalNamed name=some g∧(P.globals[g]?).map (·.type)=some t∧W.var? P name=some cs∧DataW.trod (fun _=>()) P W 0 (fun _=>true) false fuel t cs.toList=some (d,p)
 | (n,d')::r,ps,h,hm=>by
  obtain ⟨g,t,cs,fuel,p,q,h1,h2,h3,h4,h5,_⟩:=h
  rcases w4.1 hm with e|hm
  ·cases e;exact ⟨g,t,cs,fuel,p,h1,h2,h3,h4⟩
  ·exact c1o h5 hm
theorem b44 {name:String} {k:IntKind} {zs:List Int} {l:List (String×DataW Unit)} {g:Nat} {t e:TypeId} {n:Nat} (hm:(name,Lib.tabData k zs)∈l)
  (hg:P.globalNamed name=some g) (hty:(P.globals[g]?).map (·.type)=some t) (ht:P.underlying t=some (.array n e)) (he:P.underlying e=some (.int k)) (hce:P.cellsOf e=1) (hct:P.cellsOf t=n) (h:laidMet P l W):Lib.TabIs P W name k zs:=by
 obtain ⟨ps,hl,_⟩:=h
 obtain ⟨g',t',cs,fuel,p,hg',ht',hvar,hd⟩:=c1o hl hm
 obtain rfl:=wJ (hg.symm.trans hg')
 obtain rfl:=wJ (hty.symm.trans ht')
 unfold Lib.TabIs
 rw [hvar,←Lib.cells_of_tab ht he hce hct hd]
theorem b67 {n nm:String} {text:List UInt8} {g:Nat} {ti tp te ts:TypeId} {ms:Array (String×TypeId)} {f:Field}
  (hg:P.globalNamed n=some g) (ht:(P.globals[g]?).map (·.type)=some ti) (hi:P.underlying ti=some (.interface ms)) (hrow:∀u,P.typeName? 3 u=some nm→u=tp)
  (hp:P.underlying tp=some (.pointer te)) (he:P.underlying te=some (.struct #[f])) (hft:f.type=ts) (hfo:f.offset=0) (hs:P.underlying ts=some .string) (hc:P.cellsOf te=1) (hcs:P.cellsOf ts=1) :
  ∀{l:List (String×DataW Unit)} (k:Nat),l[k]?=some (n,.iface nm (.ptr (.agg [.lit (.string text)])))→laidMet P l W→∃tp p,World.var? P W n=some #[.iface tp p]
 | [],_,e,_=>by cases e
 | x::r,0,e,h=>by
  obtain rfl:=wJ e
  obtain ⟨a,s,hv,_⟩:=laid_sentinel h hg ht hi hrow hp he hft hfo hs hc hcs
  exact ⟨tp,_,hv⟩
 | x::r,k+1,e,h=>b67 hg ht hi hrow hp he hft hfo hs hc hcs (l:=r) k (by simpa using e) h.tail
theorem d42 {α:Type} {f:α→V}:∀{ys:List V},(∀y∈ys,∃a,y=f a)→∃l:List α,ys=l.map f
 | [],_=>⟨[],rfl⟩
 | y::r,h=>by
  obtain ⟨a,rfl⟩:=h y (by simp)
  obtain ⟨l,rfl⟩:=d42 (ys:=r) fun z hz=>h z (by simp [hz])
  exact ⟨a::l,rfl⟩
theorem a3q {s:Bool×List Sh} {r:List (Bool×List Sh)} {ys:List V} (h:b3k (s::r) ys):∃x q,ys=x::q∧d3b s x∧b3k r q:=by
 cases ys with
 | nil=>exact h.elim
 | cons x q=>exact ⟨x,q,rfl,h.1,h.2⟩
theorem c4j {ys:List V} (h:b3k [] ys):ys=[]:=by
 cases ys with
 | nil=>rfl
 | cons x q=>exact h.elim
end
end Go.Ab
namespace Go.Ab
open Go.RowKit
section
variable {P:Program}
theorem b8i {f:Nat} {args:List V} {xs ys:List V} {r:V} (hc:callable P f=true) (he:∀x∈ys,x.cells.length=1∧(∀c∈x.cells,c.one=true)∧x.sealed=true) (hl:ys.length=xs.length)
  (h : ∀(g:Gh) w (vals:Array Value),a2l P g w [(1000,.arr 1 xs)]→vals.size=args.length→(∀(i:Nat) (x:V),args[i]?=some x→VR g w (vals.getD i undef) x) →
   Calls P f vals w fun en w'=>∃v,en=.returned v∧VR g w' v r∧w'.os=w.os∧w'.tape=w.tape∧w'.output=w.output∧w.heap.size≤w'.heap.size∧(∀b,b<w.heap.size→(b≠g.ρ 1000∨g.nil 1000)→w'.heap[b]?=w.heap[b]?) ∧
    (g.nil 1000→ys=[])∧(¬g.nil 1000→∀cur e fz,w.heap[g.ρ 1000]?=some (.cells cur e fz)→∃cur':Array Value,w'.heap[g.ρ 1000]?=some (.cells cur' e fz)∧cur'.size=cur.size ∧
     ∀(i:Nat) (x c:V),ys[i]?=some x→x.cells[0]?=some c→Rd g.S w' (cur'.getD (g.base 1000+i) undef) c)) :
  a0o P f args [(1000,.arr 1 xs)] (fun r' H'=>r'=r∧H'=[(1000,.arr 1 ys)]):=by
 refine a1j ⟨r,[],[(1000,.arr 1 ys)]⟩ hc fun g w vals hH hsz hv=>(h g w vals hH hsz hv).mono ?_
 rintro en w' ⟨v,rfl,hvr,h1,h2,h3,h4,h5,h6,h7⟩
 have hf:find 1000 [(1000,a0c.arr 1 xs)]=some (.arr 1 xs):=by simp [find]
 have hO:=hH.obj 1000 _ hf
 refine ⟨v,g,rfl,⟨h1,h2,h3,h4,fun b hb hb'=>h5 b hb ?_,fun _ h=>h,fun b hb=>.inl hb,fun b hb=>xH (hH.lt b hb) h4,fun id _=>Gh.agree.refl _ _,?_,?_,?_,?_⟩,?_,hvr⟩
 ·by_cases hn:g.nil 1000
  ·exact .inr hn
  ·exact .inl fun e=>hb' 1000 _ (by simp [Eff.ids]) hf hn e.symm
 ·intro id o ho
  simp at ho
  obtain ⟨rfl,rfl⟩:=ho
  rcases hO with ⟨hn,_⟩|⟨hn,ha⟩
  ·exact .inl ⟨hn,h6 hn⟩
  ·obtain ⟨cur,e,fz,k1,k2,k3,k4⟩:=ha.row
   obtain ⟨cur',q1,q2,q3⟩:=h7 hn cur e fz k1
   refine .inr ⟨hn,⟨ha.kpos,⟨cur',e,fz,q1,by rw [q2];exact k2,by rw [q2];exact k3,fun i j x c hi hj=>?_⟩,by rw [hl];exact ha.len,ha.big,he⟩⟩
   have hx:=he x (xB hi)
   have hj0:j=0:=by
    have:=(zG.1 hj).1
    omega
   subst hj0
   simpa using q3 i x c hi hj
 ·intro id o ho hn
  simp at ho
  obtain ⟨rfl,rfl⟩:=ho
  exact .inr ⟨_,_,by simp [Eff.ids],hf,hn,rfl⟩
 ·intro i j o o' hi hj
  simp at hi hj
  intro _ _ _
  rw [hi.1,hj.1]
 ·intro id o ho hn hS
  simp at ho
  obtain ⟨rfl,rfl⟩:=ho
  exact hH.sep _ _ hf hn hS
 ·intro id o ho
  exact .inl (Gh.agree.refl _ _)
theorem b7a {zs:List Int}:∀x∈zs.map (V.int .i64),x.cells.length=1∧(∀c∈x.cells,c.one=true)∧x.sealed=true:=by
 intro x hx
 obtain ⟨z,_,rfl⟩:=vG.1 hx
 exact ⟨rfl,fun c hc=>by simp [V.cells] at hc;subst hc;rfl,rfl⟩
theorem c0u {g:Gh} {w:World} {xs:List Int} (hO:OR g w 1000 (.arr 1 (xs.map (V.int .i64)))) (hn:¬g.nil 1000) :
  ∃(cur:Array Value) (e:TypeId) (fz:Nat×Nat),w.heap[g.ρ 1000]?=some (.cells cur e fz)∧g.base 1000+xs.length≤cur.size∧a3d fz cur.size∧(∀j,j<xs.length→cur[g.base 1000+j]?=some (.int .i64 (xs.getD j 0)))∧∀x∈xs,inR .i64 x:=by
 rcases hO with ⟨h,_⟩|⟨_,ha⟩
 ·exact absurd h hn
 obtain ⟨cur,e,fz,k1,k2,k3,k4⟩:=ha.row
 have hlen:g.base 1000+xs.length≤cur.size:=by
  have:=ha.len
  simp at this
  rw [k2];omega
 have hrd:∀j,(hj:j<xs.length)→cur.getD (g.base 1000+j) undef=.int .i64 xs[j]∧inR .i64 xs[j]:=fun j hj=>by
  have:=k4 j 0 (.int .i64 xs[j]) (.int .i64 xs[j]) (by simp [hj]) rfl
  have h2:Rd g.S w (cur.getD (g.base 1000+j) undef) (.int .i64 xs[j]):=by simpa using this
  exact (VR.rd (g:=g) h2).int_inv
 refine ⟨cur,e,fz,k1,hlen,k3.1,fun j hj=>?_,fun x hx=>?_⟩
 ·have:=(hrd j hj).1
  have hlt:g.base 1000+j<cur.size:=by omega
  rw [zC,zI hlt] at this
  rw [zI hlt]
  simp at this
  simp [this,hj]
 ·obtain ⟨j,hj,rfl⟩:=List.getElem_of_mem hx
  exact (hrd j hj).2
open Go.Shelf in
theorem c0d {f:Nat} (hc:callable P f=true)
  (h1:∀(blk off cap:Nat) (zs:List Int) (w:World),Go.Sort.Holds (Value.int .i64) w blk off zs.toArray→blk<w.heap.size→zs.length<4611686018427387904 →
   Calls P f #[.slice (some ⟨blk,off,none⟩) zs.length cap] w fun e w'=>e=.returned (.tuple #[])∧∃n os,w'=Go.Sort.grow (Go.Sort.putRow (Value.int .i64) (Go.Sort.ahead w n) blk off (zs.mergeSort fun x y=>decide (x≤y)).toArray) os)
  (h2:∀(p:Option Addr) (cap:Nat) (w:World),Calls P f #[.slice p 0 cap] w fun e w'=>e=.returned (.tuple #[])∧w'=w) (xs:List Int) (hb:xs.length<4611686018427387904) :
  a0o P f [.osl 1000 1 0 xs.length] [(1000,.arr 1 (xs.map (V.int .i64)))] (fun r H'=>r=.tup []∧H'=[(1000,.arr 1 ((xs.mergeSort fun x y=>decide (x≤y)).map (V.int .i64)))]):=by
 refine b8i hc b7a (by simp) fun g w vals hH hsz hv=>?_
 have hf:find 1000 [(1000,a0c.arr 1 (xs.map (V.int .i64)))]=some (.arr 1 (xs.map (V.int .i64))):=by simp [find]
 have hO:=hH.obj 1000 _ hf
 have hv0:=hv 0 _ rfl
 have hval:vals=#[vals.getD 0 undef]:=by
  have:vals.size=1:=hsz
  apply Array.ext
  ·simp [this]
  ·intro i h1 h2
   have:i=0:=by omega
   subst this
   simp only [List.getElem_toArray,List.getElem_cons_zero]
   rw [zC,zI h1,xY]
 rw [hval]
 by_cases h0:xs=[]
 ·subst h0
  have:∃p cap,vals.getD 0 undef=.slice p 0 cap:=by
   rcases hv0.osl_inv with ⟨_,e,_⟩|⟨_,o,c,e,_⟩
   ·exact ⟨none,0,e⟩
   ·exact ⟨_,c,e⟩
  obtain ⟨p,cap,e⟩:=this
  rw [e]
  refine (h2 p cap w).mono ?_
  rintro en w' ⟨rfl,rfl⟩
  refine ⟨_,rfl,.tup _ _ rfl fun i x hx=>by simp at hx,rfl,rfl,rfl,vL _,fun _ _ _=>rfl,fun _=>by simp,fun hn cur e fz hh=>⟨cur,hh,rfl,fun i x c hi=>by simp at hi⟩⟩
 ·have hlen:0<xs.length:=List.length_pos_iff.2 h0
  rcases hv0.osl_inv with ⟨_,_,e⟩|⟨hn,o,cc,ev,ho,_,hlc,_⟩
  ·omega
  have ho':o=g.base 1000:=by
   rcases ho with h|h
   ·omega
   ·simpa using h
  subst ho'
  rw [ev]
  obtain ⟨cur,e,fz,k1,k2,k3,k4,k5⟩:=c0u hO hn
  have hHo:Go.Sort.Holds (Value.int .i64) w (g.ρ 1000) (g.base 1000) xs.toArray:=fun j hj=>by
   have hj':j<xs.length:=by simpa using hj
   refine ⟨?_,?_⟩
   ·simp only [World.cell?,k1]
    rw [k4 j hj']
    simp [hj']
   ·simp only [World.frozen?,k1]
    exact k3.at (by omega)
  refine (h1 _ _ cc xs w hHo (hO.block hn) hb).mono ?_
  rintro en w' ⟨rfl,n,os,rfl⟩
  have hblk:=hO.block hn
  refine ⟨_,rfl,.tup _ _ rfl fun i x hx=>by simp at hx,rfl,rfl,rfl,by simp [Go.Sort.grow,Go.Sort.ahead],fun b hb hne=>?_,fun h=>absurd h hn,fun _ cur0 e0 fz0 hh=>?_⟩
  ·have hne':b≠g.ρ 1000:=hne.resolve_right hn
   rw [Go.Sort.heap_grow_old _ _ (by simpa [Go.Sort.ahead] using hb)]
   simp [Go.Sort.putRow,Go.Sort.mapBlock,zX,hne'.symm,Go.Sort.ahead]
  ·rw [k1] at hh;cases hh
   refine ⟨Go.Sort.putCells (Value.int .i64) (g.base 1000) (xs.mergeSort fun x y=>decide (x≤y)).toArray cur,?_,by simp [Go.Sort.putCells],fun i x c hi hcx=>?_⟩
   ·rw [Go.Sort.heap_grow_old _ _ (by simpa [Go.Sort.ahead] using hblk)]
    simp [Go.Sort.putRow,Go.Sort.mapBlock,zX,Go.Sort.ahead,k1,Go.Sort.onCells]
   ·have hi':i<(xs.mergeSort fun x y=>decide (x≤y)).length:=by
     have:=(zG.1 hi).1
     simpa using this
    have hx:x=.int .i64 ((xs.mergeSort fun x y=>decide (x≤y))[i]):=by
     have:=(zG.1 hi).2
     simpa using this.symm
    subst hx
    simp [V.cells] at hcx
    subst hcx
    have hi2:i<xs.length:=by simpa using hi'
    have hlt:g.base 1000+i<cur.size:=by omega
    have hm:(xs.mergeSort fun x y=>decide (x≤y))[i]∈xs:=(List.mem_mergeSort).1 (wD hi')
    have:(Go.Sort.putCells (Value.int .i64) (g.base 1000) (xs.mergeSort fun x y=>decide (x≤y)).toArray cur).getD (g.base 1000+i) undef=.int .i64 ((xs.mergeSort fun x y=>decide (x≤y))[i]):=by
     rw [zC]
     simp [Go.Sort.putCells,Array.getElem?_mapIdx,hlt,hi',hi2]
    rw [this]
    exact .int _ _ (k5 _ hm)
theorem a7b {b:Nat} {e:TypeId} {fz:Nat×Nat}:∀(vs:List Value) (o:Nat) (w:World) (cur:Array Value),w.heap[b]?=some (.cells cur e fz)→o+vs.length≤cur.size →
  (w.setCells b o vs).os=w.os∧(w.setCells b o vs).tape=w.tape∧(w.setCells b o vs).output=w.output∧(w.setCells b o vs).heap.size=w.heap.size∧(∀k,k≠b→(w.setCells b o vs).heap[k]?=w.heap[k]?) ∧
  ∃cur':Array Value,(w.setCells b o vs).heap[b]?=some (.cells cur' e fz)∧cur'.size=cur.size∧(∀j v,vs[j]?=some v→cur'[o+j]?=some v)∧∀j,j<o→cur'[j]?=cur[j]?
 | [],o,w,cur,h,_=>⟨rfl,rfl,rfl,rfl,fun _ _=>rfl,cur,h,rfl,fun j v hv=>by simp at hv,fun _ _=>rfl⟩
 | v::vs,o,w,cur,h,hl=>by
  have hl':o+(vs.length+1)≤cur.size:=by simpa using hl
  have h1:(w.setCell ⟨b,o,none⟩ v).heap[b]?=some (.cells (cur.setIfInBounds o v) e fz):=by
   rw [Go.Sort.setCell_eq]
   simp [Go.Sort.mapBlock,zX,h,Go.Sort.onCells]
  obtain ⟨k1,k2,k3,k4,k5,cur',k6,k7,k8,k9⟩:=a7b vs (o+1) (w.setCell ⟨b,o,none⟩ v) _ h1 (by simp;omega)
  refine ⟨k1,k2,k3,k4.trans (by rw [Go.Sort.setCell_eq];simp [Go.Sort.mapBlock]),fun k hk=>(k5 k hk).trans (by rw [Go.Sort.setCell_eq];simp [Go.Sort.mapBlock,zX,Ne.symm hk]),cur',k6,by simpa using k7,fun j u hu=>?_,fun j hj=>?_⟩
  ·cases j with
   | zero =>
    simp at hu;subst hu
    rw [vF,k9 o (by omega)]
    have:o<cur.size:=by omega
    simp [this]
   | succ j =>
    have:=k8 j u (by simpa using hu)
    rw [←this];congr 1;omega
  ·rw [k9 j (by omega),zA (by omega)]
theorem b41 {f:Nat} (hc:callable P f=true)
  (h1:∀(b off n c:Nat) (zs:List Int) (w:World),n≤zs.length→n≤9223372036854775807→n≤c→(∀j,j<zs.length→w.cell? ⟨b,off+j,none⟩=some (.int .i64 (zs.getD j 0)))→(∀j,j<n→w.frozen? ⟨b,off+j,none⟩=false) →
   Calls P f #[.slice (some ⟨b,off,none⟩) n c] w fun e w'=>e=.returned (.slice (some ⟨b,off,none⟩) (Go.Lib.compact (zs.take n)).length c)∧∃q,w'=(w.drewN q).setCells b off ((Go.Lib.compact (zs.take n)++List.replicate (n - (Go.Lib.compact (zs.take n)).length) 0).map (Value.int .i64)))
  (h2:∀(p:Option Addr) (cap:Nat) (w:World),Calls P f #[.slice p 0 cap] w fun e w'=>e=.returned (.slice p 0 cap)∧w'=w) (xs:List Int)
  (hle:(Go.Lib.compact xs).length≤xs.length) (hmem:∀x∈Go.Lib.compact xs,x∈xs) :
  a0o P f [.osl 1000 1 0 xs.length] [(1000,.arr 1 (xs.map (V.int .i64)))] (fun r H'=>r=.osl 1000 1 0 (Go.Lib.compact xs).length ∧
   H'=[(1000,.arr 1 ((Go.Lib.compact xs++List.replicate (xs.length - (Go.Lib.compact xs).length) 0).map (V.int .i64)))]):=by
 refine b8i hc b7a (by simp;omega) fun g w vals hH hsz hv=>?_
 have hf:find 1000 [(1000,a0c.arr 1 (xs.map (V.int .i64)))]=some (.arr 1 (xs.map (V.int .i64))):=by simp [find]
 have hO:=hH.obj 1000 _ hf
 have hv0:=hv 0 _ rfl
 have hval:vals=#[vals.getD 0 undef]:=by
  have:vals.size=1:=hsz
  apply Array.ext
  ·simp [this]
  ·intro i h1 h2
   have:i=0:=by omega
   subst this
   simp only [List.getElem_toArray,List.getElem_cons_zero]
   rw [zC,zI h1,xY]
 rw [hval]
 by_cases h0:xs=[]
 ·subst h0
  have hc0:Go.Lib.compact ([]:List Int)=[]:=zM.1 (by simpa using hle)
  have:∃p cap,vals.getD 0 undef=.slice p 0 cap:=by
   rcases hv0.osl_inv with ⟨_,e,_⟩|⟨_,o,c,e,_⟩
   ·exact ⟨none,0,e⟩
   ·exact ⟨_,c,e⟩
  obtain ⟨p,cap,e⟩:=this
  have hv0':=hv0
  rw [e] at hv0'
  rw [e]
  refine (h2 p cap w).mono ?_
  rintro en w' ⟨rfl,rfl⟩
  refine ⟨_,rfl,by rw [hc0];exact hv0',rfl,rfl,rfl,vL _,fun _ _ _=>rfl,fun _=>by simp [hc0],fun hn cur e fz hh=>⟨cur,hh,rfl,fun i x c hi=>by simp [hc0] at hi⟩⟩
 ·have hlen:0<xs.length:=List.length_pos_iff.2 h0
  rcases hv0.osl_inv with ⟨_,_,e⟩|⟨hn,o,cc,ev,ho,hcap,hlc,hmx⟩
  ·omega
  have ho':o=g.base 1000:=by
   rcases ho with h|h
   ·omega
   ·simpa using h
  subst ho'
  rw [ev]
  obtain ⟨cur,e,fz,k1,k2,k3,k4,k5⟩:=c0u hO hn
  refine (h1 _ _ xs.length cc xs w (vL _) (by unfold maxLen at hmx;omega) hlc (fun j hj=>?_) (fun j hj=>?_)).mono ?_
  ·simp only [World.cell?,k1]
   exact k4 j hj
  ·simp only [World.frozen?,k1]
   exact k3.at (by omega)
  rintro en w' ⟨rfl,q,rfl⟩
  rw [wA]
  obtain ⟨q1,q2,q3,q4,q5,cur',q6,q7,q8,_⟩:=a7b (b:=g.ρ 1000) ((Go.Lib.compact xs++List.replicate (xs.length - (Go.Lib.compact xs).length) 0).map (Value.int .i64)) (g.base 1000) (w.drewN q) cur (by exact k1) (by simp;omega)
  refine ⟨_,rfl,.osl 1000 1 0 _ _ cc hn (.inr (by simp)) hcap (by omega) hmx,q1,q2,q3,Nat.le_of_eq q4.symm,fun b hb hne=>q5 b (hne.resolve_right hn),fun h=>absurd h hn,fun _ cur0 e0 fz0 hh=>?_⟩
  rw [k1] at hh;cases hh
  refine ⟨cur',q6,q7,fun i x c hi hcx=>?_⟩
  rw [xS] at hi
  cases hz:(Go.Lib.compact xs++List.replicate (xs.length - (Go.Lib.compact xs).length) 0)[i]? with
  | none=>rw [hz] at hi;cases hi
  | some z =>
   rw [hz] at hi;cases hi
   simp [V.cells] at hcx
   subst hcx
   have:=q8 i (.int .i64 z) (by rw [xS,hz];rfl)
   rw [zC,this]
   refine .int _ _ ?_
   rcases wN.1 (xB hz) with h|h
   ·exact k5 z (hmem z h)
   ·rw [(List.mem_replicate.1 h).2];simp [inR,IntKind.min,IntKind.max,IntKind.signed,IntKind.bits]
theorem b4u (xs:List Int):(Go.Lib.compact xs).length≤xs.length:=by
 simp only [Go.Lib.compact,Go.Lib.compactUpTo,wP]
 exact vD (List.length_filter_le _ _) (by simp)
theorem b3f (xs:List Int):∀x∈Go.Lib.compact xs,x∈xs:=by
 intro x hx
 simp only [Go.Lib.compact,Go.Lib.compactUpTo,vG,wM,List.mem_range] at hx
 obtain ⟨i,⟨hi,_⟩,rfl⟩:=hx
 simp [hi]
def b1s (xs:List Int):Option (List Int):=if xs.length<4611686018427387904 then some (xs.mergeSort fun x y=>decide (x≤y)) else none
def a5g (xs:List Int):Option (Nat×List Int):=some ((Go.Lib.compact xs).length,Go.Lib.compact xs++List.replicate (xs.length - (Go.Lib.compact xs).length) 0)
theorem b8h {f:Nat} (hc:callable P f=true)
  (h1:∀(blk off cap:Nat) (zs:List Int) (w:World),Go.Sort.Holds (Value.int .i64) w blk off zs.toArray→blk<w.heap.size→zs.length<4611686018427387904 →
   Calls P f #[.slice (some ⟨blk,off,none⟩) zs.length cap] w fun e w'=>e=.returned (.tuple #[])∧∃n os,w'=Go.Sort.grow (Go.Sort.putRow (Value.int .i64) (Go.Sort.ahead w n) blk off (zs.mergeSort fun x y=>decide (x≤y)).toArray) os)
  (h2:∀(p:Option Addr) (cap:Nat) (w:World),Calls P f #[.slice p 0 cap] w fun e w'=>e=.returned (.tuple #[])∧w'=w) {xs ys:List Int} (hy:b1s xs=some ys) :
  a0o P f [.osl 1000 1 0 xs.length] [(1000,.arr 1 (xs.map (V.int .i64)))] (fun r H'=>r=.tup []∧H'=[(1000,.arr 1 (ys.map (V.int .i64)))]):=by
 unfold b1s at hy
 split at hy
 ·cases hy;exact c0d hc h1 h2 xs (by assumption)
 ·cases hy
theorem b3m {f:Nat} (hc:callable P f=true)
  (h1:∀(b off n c:Nat) (zs:List Int) (w:World),n≤zs.length→n≤9223372036854775807→n≤c→(∀j,j<zs.length→w.cell? ⟨b,off+j,none⟩=some (.int .i64 (zs.getD j 0)))→(∀j,j<n→w.frozen? ⟨b,off+j,none⟩=false) →
   Calls P f #[.slice (some ⟨b,off,none⟩) n c] w fun e w'=>e=.returned (.slice (some ⟨b,off,none⟩) (Go.Lib.compact (zs.take n)).length c)∧∃q,w'=(w.drewN q).setCells b off ((Go.Lib.compact (zs.take n)++List.replicate (n - (Go.Lib.compact (zs.take n)).length) 0).map (Value.int .i64)))
  (h2:∀(p:Option Addr) (cap:Nat) (w:World),Calls P f #[.slice p 0 cap] w fun e w'=>e=.returned (.slice p 0 cap)∧w'=w) {xs:List Int} {y:Nat×List Int} (hy:a5g xs=some y) :
  a0o P f [.osl 1000 1 0 xs.length] [(1000,.arr 1 (xs.map (V.int .i64)))] (fun r H'=>r=.osl 1000 1 0 y.1∧H'=[(1000,.arr 1 (y.2.map (V.int .i64)))]):=by
 cases hy
 exact b41 hc h1 h2 xs (b4u xs) (b3f xs)
theorem b1r {xs ys:List Int} (hy:b1s xs=some ys):ys.length=xs.length:=by
 unfold b1s at hy
 split at hy
 ·cases hy;simp
 ·cases hy
theorem b0s {xs:List Int} {y:Nat×List Int} (hy:a5g xs=some y):y.1≤y.2.length∧y.2.length=xs.length:=by
 cases hy
 have:=b4u xs
 simp
 omega
end
end Go.Ab
namespace Go.Ab
open Go.RowKit Go.Deep
theorem c0v {S:Nat→Prop} {w:World} {b:Nat} {t:TypeId} {n:Nat} {f:Nat→Value} {F:Nat→V} (h:w.rowIs b t n f) (hS:S b) (hn:n≤maxLen) (hF:∀i,i<n→Rd S w (f i) (F i)) (hc:∀i,i<n→(F i).cells=[F i]∧(F i).one=true∧(F i).sealed=true) :
  Rd S w (.slice (some ⟨b,0,none⟩) n n) (.sl ((List.range n).map F)):=by
 obtain ⟨c,hb,hsz,hcell⟩:=h
 refine .sl b 0 n n 1 c t (0,0) _ hS hb (by simp) hn (vL _) (.inr (by omega)) (fun x hx=>?_) fun i j x y hi hj=>?_
 ·obtain ⟨i,hi,rfl⟩:=vG.1 hx
  obtain ⟨h1,h2,h3⟩:=hc i (List.mem_range.1 hi)
  refine ⟨by rw [h1];rfl,fun y hy=>?_,h3⟩
  rw [h1] at hy
  simp only [xI] at hy
  subst hy;exact h2
 ·rw [xS] at hi
  cases hr:(List.range n)[i]? with
  | none=>rw [hr] at hi;cases hi
  | some q =>
   rw [hr] at hi
   simp only [wK,xQ] at hi
   obtain ⟨hlt,hq⟩:=zG.1 hr
   simp only [List.getElem_range,List.length_range] at hq hlt
   subst hq
   obtain ⟨h1,h2,h3⟩:=hc i hlt
   rw [←hi,h1] at hj
   cases j with
   | succ j=>simp at hj
   | zero =>
    simp at hj
    subst hj
    have e:c.getD (0+i*1+0) undef=f i:=by
     have:=hcell i hlt
     simp [zC,this]
    rw [e];exact hF i hlt
theorem d6d {S:Nat→Prop} {w:World} {b t tb n m:Nat} {bs:Nat→Nat} {Z:Nat→Nat→Bool} (h0:w.rowIs b t n fun j=>.slice (some ⟨bs j,0,none⟩) m m) (h1:∀j,j<n→w.rowIs (bs j) tb m fun i=>.bool (Z j i))
  (hS:S b) (hSs:∀j,j<n→S (bs j)) (hn:n≤maxLen) (hm:m≤maxLen):Rd S w (.slice (some ⟨b,0,none⟩) n n) (.sl ((List.range n).map fun j=>.sl ((List.range m).map fun i=>.bool (Z j i)))) :=
 c0v h0 hS hn (fun j hj=>c0v (h1 j hj) (hSs j hj) hm (fun i _=>.bool _) fun i _=>⟨rfl,rfl,rfl⟩) fun j _=>⟨rfl,rfl,rfl⟩
theorem a5j {P:Program} {f:Nat} {args:List V} {r:V} (hc:callable P f=true)
  (h:∀(g:Gh) w (vals:Array Value),a2l P g w []→vals.size=args.length→(∀(i:Nat) (x:V),args[i]?=some x→VR g w (vals.getD i undef) x) →
   Calls P f vals w fun en w'=>∃v,en=.returned v∧w.Since w.heap.size w'∧Rd (fun b=>g.S b∨(w.heap.size≤b∧b<w'.heap.size)) w' v r):a0o P f args [] (fun r' H'=>r'=r∧H'=[]):=by
 refine a1j ⟨r,[],[]⟩ hc fun g w vals hH hsz hv=>(h g w vals hH hsz hv).mono ?_
 rintro en w' ⟨v,rfl,hs,hr⟩
 refine ⟨v,{ g with S:=fun b=>g.S b∨(w.heap.size≤b∧b<w'.heap.size) },rfl,⟨hs.os,hs.tape,hs.output,hs.size,fun b hb _=>hs.block b hb,fun _ h=>.inl h,fun b hb=>hb.elim .inl fun e=>.inr (.inl e.1),fun b hb=>?_,fun id _=>⟨rfl,rfl,rfl,vR⟩,fun _ _ h=>by simp at h,fun _ _ h=>by simp at h,fun _ _ _ _ h=>by simp at h,fun _ _ h=>by simp at h⟩,fun _ _ h=>by simp at h,.rd hr⟩
 rcases hb with hb|hb
 ·exact xH (hH.lt b hb) hs.size
 ·exact hb.2
end Go.Ab
namespace Go.Ab
open Go.RowKit
section
variable {P:Program}
theorem VR.sl_slice {g:Gh} {w:World} {v:Value} {xs:List V} (h:VR g w v (.sl xs)):(∃a len cap,v=.slice a len cap)∧Rd g.S w v (.sl xs):=by
 cases h with
 | rd h =>
  refine ⟨?_,h⟩
  cases h with
  | nilsl=>exact ⟨_,_,_,rfl⟩
  | slz a cap=>exact ⟨_,_,_,rfl⟩
  | sl g o len cap k cur e fz xs hS hg hl hm hc hb hk hr=>exact ⟨_,_,_,rfl⟩
theorem b42 {f f1:Nat} {ty:TypeId} (hc:callable P f=true)
  (h:∀(a:Option Addr) (len cap:Nat) (w:World),Calls P f #[.slice a len cap] w fun e w'=>e=.returned (.func (.func f1) #[] #[.pointer (some ⟨w.heap.size,0,none⟩)])∧w'=w.alloc (.cells #[.slice a len cap] ty)) (xs:List V) :
  a0o P f [.sl xs] [] (fun r H'=>r=.fn (.func f1) [.eptr (.agg [.sl xs]) 0]∧H'=[]):=by
 refine a1j ⟨.fn (.func f1) [.eptr (.agg [.sl xs]) 0],[],[]⟩ hc fun g w vals hH hsz hv=>?_
 obtain ⟨⟨a,len,cap,e⟩,hrd⟩:=(hv 0 _ rfl).sl_slice
 have hval:vals=#[.slice a len cap]:=by
  have:vals.size=1:=hsz
  apply Array.ext
  ·simp [this]
  ·intro i h1 h2
   have:i=0:=by omega
   subst this
   simp only [List.getElem_toArray,List.getElem_cons_zero]
   rw [←e,zC,zI h1,xY]
 rw [hval]
 rw [e] at hrd
 refine (h a len cap w).mono ?_
 rintro en w' ⟨rfl,rfl⟩
 have hold:∀b,b<w.heap.size→(w.alloc (.cells #[.slice a len cap] ty)).heap[b]?=w.heap[b]?:=fun b hb=>Below.heap_alloc _ _ _ hb
 have hnew:=World.alloc_heap_new w (.cells #[.slice a len cap] ty)
 refine ⟨_,{ g with S:=fun b=>g.S b∨b=w.heap.size },rfl,⟨rfl,rfl,rfl,by simp,fun b hb _=>hold b hb,fun _ h=>.inl h,fun b hb=>hb.elim .inl fun e=>.inr (.inl (by omega)),fun b hb=>?_,fun id _=>Gh.agree.refl _ _,fun _ _ h=>by simp at h,fun _ _ h=>by simp at h,fun _ _ _ _ h=>by simp at h,fun _ _ h=>by simp at h⟩,fun _ _ h=>by simp at h,?_⟩
 ·rcases hb with h|h
  ·have:=hH.lt b h;simp;omega
  ·simp;omega
 ·refine .fn _ _ _ rfl fun i c hi=>?_
  cases i with
  | succ i=>simp at hi
  | zero =>
   simp at hi;subst hi
   have:=VR.eptr (g:={ g with S:=fun b=>g.S b∨b=w.heap.size }) (w:=w.alloc (.cells #[.slice a len cap] ty)) w.heap.size 0 0 #[.slice a len cap] ty (0,0) (.agg [.sl xs]) (.inr rfl) hnew (by simp [V.cells]) (fun j c hj=>?_)
   ·simpa using this
   ·cases j with
    | succ j=>simp [V.cells] at hj
    | zero =>
     simp [V.cells] at hj;subst hj
     simpa using hrd.mono (S':=fun b=>g.S b∨b=w.heap.size) (fun b hS=>hold b (hH.lt b hS)) fun _ h=>.inl h
end
end Go.Ab
namespace Go.Ab
def stp (L:Nat→Nat→Bool) (a b:Nat) (f:Nat→Bool):Nat→Bool:=fun i=>if i=b then f b||(f a&&L a b) else f i
def inn (L:Nat→Nat→Bool) (a:Nat) (f:Nat→Bool):Nat→Nat→Bool
  | 0=>f
  | b+1=>stp L a b (inn L a f b)
def midd (L:Nat→Nat→Bool) (n:Nat) (f:Nat→Bool):Nat→Nat→Bool
  | 0=>f
  | a+1=>inn L a (midd L n f a) n
def oul (L:Nat→Nat→Bool) (n:Nat) (f:Nat→Bool):Nat→Nat→Bool
  | 0=>f
  | k+1=>midd L n (oul L n f k) n
section search
variable {L:Nat→Nat→Bool} {n:Nat}
theorem b5d {a b:Nat} {f:Nat→Bool} {i:Nat} (h:f i=true):stp L a b f i=true:=by
  simp only [stp];split
  · subst_vars;simp [h]
  · exact h
theorem b1j {a:Nat} {f:Nat→Bool} {i:Nat} (h:f i=true):∀b,inn L a f b i=true
  | 0=>h
  | b+1=>b5d (b1j h b)
theorem a4l {f:Nat→Bool} {i:Nat} (h:f i=true):∀a,midd L n f a i=true
  | 0=>h
  | a+1=>b1j (a4l h a) n
theorem e80 {a:Nat} {f:Nat→Bool} {i b:Nat} (h:inn L a f b i=true):∀c,b≤c→inn L a f c i=true:=by
  intro c hc
  induction c with
  | zero => have:b=0:=by omega
            subst this;exact h
  | succ c ih =>
    by_cases e:b=c+1
    · subst e;exact h
    · exact b5d (ih (by omega))
theorem d6x {f:Nat→Bool} {i b:Nat} (h:midd L n f b i=true):∀c,b≤c→midd L n f c i=true:=by
  intro c hc
  induction c with
  | zero => have:b=0:=by omega
            subst this;exact h
  | succ c ih =>
    by_cases e:b=c+1
    · subst e;exact h
    · exact b1j (ih (by omega)) n
theorem c6k {f:Nat→Bool} {a b:Nat} (ha:a<n) (hb:b<n) (h:f a=true) (hl:L a b=true):midd L n f n b=true:=by
  refine d6x (b:=a+1) ?_ n (by omega)
  show inn L a (midd L n f a) n b=true
  refine e80 (b:=b+1) ?_ n (by omega)
  show stp L a b (inn L a (midd L n f a) b) b=true
  have h1:=b1j (L:=L) (a:=a) (a4l (L:=L) (n:=n) h a) b
  simp [stp,h1,hl]
theorem b7c {P:Nat→Prop} {a:Nat} (ha:a<n) (hP:∀a b,a<n→b<n→P a→L a b=true→P b) {f:Nat→Bool} (hf:∀i,f i=true→P i):∀b,b≤n→∀i,inn L a f b i=true→P i
  | 0,_,i,h=>hf i h
  | b + 1,hb,i,h=>by
    have ih:=b7c ha hP hf b (by omega)
    simp only [inn,stp] at h
    split at h
    · rename_i e
      subst e
      rw [wT,wG] at h
      rcases h with h|h
      · exact ih _ h
      · exact hP a i ha (by omega) (ih a h.1) h.2
    · exact ih i h
theorem a6r {P:Nat→Prop} (hP:∀a b,a<n→b<n→P a→L a b=true→P b) {f:Nat→Bool} (hf:∀i,f i=true→P i):∀a,a≤n→∀i,midd L n f a i=true→P i
  | 0,_,i,h=>hf i h
  | a+1,ha,i,h=>b7c (by omega) hP (a6r hP hf a (by omega)) n (vL _) i h
theorem b6w {P:Nat→Prop} (hP:∀a b,a<n→b<n→P a→L a b=true→P b) {f:Nat→Bool} (hf:∀i,f i=true→P i):∀k i,oul L n f k i=true→P i
  | 0,i,h=>hf i h
  | k+1,i,h=>a6r hP (b6w hP hf k) n (vL _) i h
theorem c1d {f:Nat→Bool} {i:Nat} (h:f i=true):∀k,oul L n f k i=true
  | 0=>h
  | k+1=>a4l (c1d h k) n
def cnt (f:Nat→Bool):Nat→Nat
  | 0=>0
  | n+1=>cnt f n+bif f n then 1 else 0
theorem b4v (f:Nat→Bool):∀n,cnt f n≤n
  | 0=>vL 0
  | n+1=>by have:=b4v f n;simp only [cnt];cases f n<;>simp<;>omega
theorem cnt_mono {f g:Nat→Bool} (h:∀i,f i=true→g i=true):∀n,cnt f n≤cnt g n
  | 0=>vL 0
  | n+1=>by
    have ih:=cnt_mono h n
    simp only [cnt]
    cases hf:f n with
    | true=>rw [h n hf];simp;exact ih
    | false=>cases g n<;>simp<;>omega
theorem cnt_lt {f g:Nat→Bool} (h:∀i,f i=true→g i=true) {j:Nat} (hf:f j=false) (hg:g j=true):∀n,j<n→cnt f n<cnt g n
  | 0,hj=>absurd hj (Nat.not_lt_zero _)
  | n + 1,hj=>by
    simp only [cnt]
    by_cases e:j=n
    · subst e
      have:=cnt_mono h j
      rw [hf,hg];simp;omega
    · have:=cnt_lt h hf hg n (by omega)
      cases hfn:f n with
      | true=>rw [h n hfn];simp;exact this
      | false=>cases g n<;>simp<;>omega
theorem c02 {f:Nat→Bool} {j:Nat} (hf:f j=true):∀n,j<n→1≤cnt f n
  | 0,hj=>absurd hj (Nat.not_lt_zero _)
  | n+1,hj=>by
    simp only [cnt]
    by_cases e:j=n
    · subst e;rw [hf];simp
    · have:=c02 hf n (by omega);omega
def Clo (L:Nat→Nat→Bool) (n:Nat) (f:Nat→Bool):Prop:=∀a b,a<n→b<n→f a=true→L a b=true→f b=true
theorem c6f {c:Nat} (hc:c<n):∀k,Clo L n (oul L n (fun i=>decide (i=c)) k)∨k+1≤cnt (oul L n (fun i=>decide (i=c)) k) n
  | 0=>.inr (c02 (j:=c) (by simp [oul]) n hc)
  | k + 1=>by
    have ih:=c6f hc k
    by_cases hcl:Clo L n (oul L n (fun i=>decide (i=c)) k)
    · left
      have e:oul L n (fun i=>decide (i=c)) (k+1)=oul L n (fun i=>decide (i=c)) k:=by
        funext i
        rw [wU]
        exact ⟨fun h=>a6r (P:=fun i=>oul L n (fun i=>decide (i=c)) k i=true) hcl (fun i h=>h) n (vL _) i h,fun h=>a4l h n⟩
      rw [e];exact hcl
    · right
      have ih:=ih.resolve_left hcl
      have:∃a b,a<n∧b<n∧oul L n (fun i=>decide (i=c)) k a=true∧L a b=true∧oul L n (fun i=>decide (i=c)) k b=false:=Classical.byContradiction fun hn=>hcl fun a b ha hb h hl=>by
        cases hb':oul L n (fun i=>decide (i=c)) k b with
        | true=>rfl
        | false=>exact absurd ⟨a,b,ha,hb,h,hl,hb'⟩ hn
      obtain ⟨a,b,ha,hb,h,hl,hb'⟩:=this
      have:=cnt_lt (f:=oul L n (fun i=>decide (i=c)) k) (g:=oul L n (fun i=>decide (i=c)) (k+1)) (fun i h=>a4l h n) hb' (c6k ha hb h hl) n hb
      omega
theorem b4i {c:Nat} (hc:c<n):Clo L n (oul L n (fun i=>decide (i=c)) n):=(c6f hc n).resolve_right fun h=>by have:=b4v (oul L n (fun i=>decide (i=c)) n) n;omega
theorem d0y {f:Nat→Bool} (h:Clo L n f):midd L n f n=f:=by
  funext i
  rw [wU]
  exact ⟨fun h'=>a6r (P:=fun i=>f i=true) h (fun i h=>h) n (vL _) i h',fun h=>a4l h n⟩
theorem b9h {f:Nat→Bool} {k:Nat} (h:midd L n (oul L n f k) n=oul L n f k):∀j,oul L n f (k+j)=oul L n f k
  | 0=>rfl
  | j+1=>by show midd L n (oul L n f (k+j)) n=_;rw [b9h h j,h]
theorem b5t {c k:Nat} (hc:c<n) (h:midd L n (oul L n (fun i=>decide (i=c)) k) n=oul L n (fun i=>decide (i=c)) k):oul L n (fun i=>decide (i=c)) k=oul L n (fun i=>decide (i=c)) n:=by
  have h2:=d0y (b4i (L:=L) hc)
  rw [←b9h h n,←b9h h2 k,Nat.add_comm]
theorem e2x {a b:Nat} {f:Nat→Bool} (h:(f a&&L a b&&!f b)=false):stp L a b f=f:=by
  funext i
  simp only [stp]
  split
  · rename_i e
    rw [e]
    cases hb:f b with
    | false=>rw [hb] at h;simpa using h
    | true=>simp
  · rfl
end search
end Go.Ab
namespace Go.Ab
open Go.RowKit
section
variable {P:Program}
theorem g4x {vals:Array Value} (h:vals.size=3):vals=#[vals.getD 0 undef,vals.getD 1 undef,vals.getD 2 undef]:=by
 apply Array.ext
 ·simp [h]
 ·intro i h1 h2
  have:i=0∨i=1∨i=2:=by omega
  rcases this with rfl|rfl|rfl<;>simp [zC,h1]
theorem f0o {vals:Array Value} (h:vals.size=2):vals=#[vals.getD 0 undef,vals.getD 1 undef]:=by
 apply Array.ext
 ·simp [h]
 ·intro i h1 h2
  have:i=0∨i=1:=by omega
  rcases this with rfl|rfl<;>simp [zC,h1]
theorem f8r {g:Gh} {w:World} {v:Value} {xs:List V} (h:VR g w v (.sl xs)):Rd g.S w v (.sl xs):=by
 cases h with
 | rd h=>exact h
end
def a8n (n:Int):Option Str:=chk (a0p n) (some (Lib.itoa n))
def a1f (s:Str):Int:=match Lib.atoiAll s with
 | .ok v=>v
 | .range=>Lib.atoiSat s
 | _=>0
def d37 (s:Str):Option Int:=chk (decide (s.length≤281474976710656)) (some (a1f s))
theorem c8r {s:Str} {y:Int} (h:d37 s=some y):s.length≤281474976710656∧y=a1f s:=by
 unfold d37 chk at h
 cases hc:decide (s.length≤281474976710656) with
 | false=>rw [hc] at h;cases h
 | true =>
  rw [hc] at h
  exact ⟨of_decide_eq_true hc,(wJ h).symm⟩
def a1n (s:Str):Bool:=match Lib.atoiAll s with
 | .ok _=>true
 | _=>false
def a4t (s:Str):Option (Int×Bool):=chk (decide (s.length≤281474976710656)) (some (a1f s,a1n s))
theorem b3j {s:Str} {y:Int×Bool} (h:a4t s=some y):s.length≤281474976710656∧y=(a1f s,a1n s):=by
 unfold a4t chk at h
 cases hc:decide (s.length≤281474976710656) with
 | false=>rw [hc] at h;cases h
 | true =>
  rw [hc] at h
  exact ⟨of_decide_eq_true hc,(wJ h).symm⟩
theorem b3i (s:Str):rng .i64 (a1f s):=by
 unfold a1f
 split
 ·rename_i v h;exact Lib.atoiAll_bounds h
 ·unfold Lib.atoiSat
  split<;>exact ⟨by decide,by decide⟩
 ·exact ⟨by decide,by decide⟩
theorem c78 {n:Int} {y:Str} (h:a8n n=some y):rng .i64 n∧y=Lib.itoa n:=by
 unfold a8n chk at h
 cases hc:a0p n with
 | false=>rw [hc] at h;cases h
 | true =>
  rw [hc] at h
  refine ⟨a1q.1 hc,?_⟩
  cases h;rfl
end Go.Ab
namespace Go.Ab
open Go.Proofs Go.RowKit
def glue (c:Str):List Str→List Str
 | []=>[c]
 | h::t=>(c++h)::t
def spl (b:UInt8):Str→List Str
 | []=>[[]]
 | c::r=>if c=b then []::spl b r else glue [c] (spl b r)
theorem b90 {b:UInt8}:∀{w:Str} (r:Str),(∀c∈w,c≠b)→spl b (w++b::r)=w::spl b r
 | [],r,_=>by simp [spl]
 | c::w,r,h=>by
  have ih:=b90 (b:=b) (w:=w) r fun k hk=>h k (by simp [hk])
  have hc:c≠b:=h c (by simp)
  simp only [List.cons_append,spl,if_neg hc,ih,glue,List.nil_append]
theorem b1f {b:UInt8}:∀{w:Str},(∀c∈w,c≠b)→spl b w=[w]
 | [],_=>rfl
 | c::w,h=>by
  have ih:=b1f (b:=b) (w:=w) fun k hk=>h k (by simp [hk])
  have hc:c≠b:=h c (by simp)
  simp only [spl,if_neg hc,ih,glue,List.cons_append,List.nil_append]
theorem b7d (b:UInt8):∀s:Str,(Lib.index s [b]=-1∧∀c∈s,c≠b)∨∃i:Nat,Lib.index s [b]=i∧s=s.take i++b::s.drop (i+1)∧∀c∈s.take i,c≠b
 | []=>.inl ⟨by simp [Lib.index],by simp⟩
 | c::r=>by
  by_cases h:c=b
  ·subst h
   exact .inr ⟨0,by rw [Lib.index];simp [List.isPrefixOf],by simp,by simp⟩
  ·have hp:([b]:List UInt8).isPrefixOf (c::r)=false:=by simp [List.isPrefixOf,Ne.symm h]
   have hix:Lib.index (c::r) [b]=if Lib.index r [b]==-1 then -1 else Lib.index r [b]+1:=by rw [Lib.index,hp];simp
   rcases b7d b r with ⟨h1,h2⟩|⟨i,h1,h2,h3⟩
   ·exact .inl ⟨by rw [hix,h1];rfl,fun x hx=>by rcases List.mem_cons.1 hx with rfl|hx;exact h;exact h2 x hx⟩
   ·refine .inr ⟨i+1,by rw [hix,h1,if_neg (by simp;try omega)];omega,by rw [List.take_succ_cons,List.drop_succ_cons,List.cons_append,←h2],fun x hx=>?_⟩
    rw [List.take_succ_cons] at hx
    rcases List.mem_cons.1 hx with rfl|hx
    ·exact h
    ·exact h3 x hx
theorem b45 (b:UInt8):∀(k:Nat) (s:Str),s.count b≤k→Lib.splitK [b] 0 k s=spl b s
 | 0,s,h=>by
  have:∀c∈s,c≠b:=fun c hc e=>by subst e;have:=List.count_pos_iff.2 hc;omega
  rw [b1f this];rfl
 | k+1,s,h=>by
  rw [Lib.splitK]
  rcases b7d b s with ⟨h1,h2⟩|⟨i,h1,h2,h3⟩
  ·rw [h1,if_pos (by rfl),b1f h2]
  ·have hn:s.count b=(s.drop (i+1)).count b+1:=by
    have h0:(s.take i).count b=0:=List.count_eq_zero.2 fun hm=>h3 b hm rfl
    conv=>lhs;rw [h2]
    rw [List.count_append,h0,List.count_cons_self];omega
   rw [h1,if_neg (by simp;try omega),b45 b k _ (by simp;try omega)]
   conv=>rhs;rw [h2,b90 _ h3]
   simp
theorem c2t (b:UInt8) (s:ByteArray):(Lib.splitB ⟨#[b]⟩ 0 (Lib.countB s ⟨#[b]⟩) s).map (·.data.toList)=spl b s.data.toList:=by
 rw [Lib.splitB_data]
 refine b45 b _ _ ?_
 show _≤Lib.count s.data.toList [b]
 rw [Lib.count_one];exact Nat.le_refl _
theorem d26 {c:Str} {n:Nat}:∀{l:List Str},(∀z∈l,z.length+c.length≤n)→c.length≤n→∀z∈glue c l,z.length≤n
 | [],_,h,z,hz=>by simp [glue] at hz;subst hz;exact h
 | x::t,h,_,z,hz=>by
  simp only [glue,List.mem_cons] at hz
  rcases hz with rfl|hz
  ·have:=h x (by simp);rw [List.length_append];omega
  ·have:=h z (by simp [hz]);omega
theorem b8z (b:UInt8):∀(s:Str),∀z∈spl b s,z.length≤s.length
 | [],z,hz=>by simp [spl] at hz;subst hz;simp
 | c::r,z,hz=>by
  have ih:=b8z b r
  simp only [spl] at hz
  split at hz
  ·rcases List.mem_cons.1 hz with rfl|hz
   ·simp
   ·have:=ih z hz;simp;omega
  ·exact d26 (fun z hz=>by have:=ih z hz;simp;omega) (by simp) z hz
def d5f (s t:Str):Option (List Str):=match t with
 | [b]=>bif decide (s.length<4294967281) then some (spl b s) else none
 | _=>none
end Go.Ab
namespace Go.Proofs
open Go.Shelf Go.RowKit Go.Lib Go.Ab
variable {P:Program} {ρ:Ren}
set_option maxHeartbeats 1000000 in
theorem Any.strings_Split_one (L:Lays.n146 P ρ) (hi9:(P.info? (ρ.t 9)).map (fun i=>(i.zero,i.size,i.bytes))=some (some (.string ByteArray.empty),1,16)) (s:ByteArray) (b:UInt8) (w:World)
  (hs:s.size<4294967281) :
  Calls P (ρ.f 146) #[.string s,.string ⟨#[b]⟩] w fun e w' =>
   e=.returned (.slice (some ⟨w.heap.size,0,none⟩) (Lib.countB s ⟨#[b]⟩+1) (Lib.countB s ⟨#[b]⟩+1))∧w'=w.alloc (.cells ((Lib.splitB ⟨#[b]⟩ 0 (Lib.countB s ⟨#[b]⟩) s).map Value.string).toArray (ρ.t 9)):=by
 have h1:1≤(⟨#[b]⟩:ByteArray).size:=Nat.le_refl _
 have hle:=Lib.countB_le ⟨#[b]⟩ h1 s.size s (Nat.le_refl _)
 have hlen:=Lib.splitB_all ⟨#[b]⟩ h1 0 _ s rfl
 have c:=Any.strings_genSplit_core { L with } hi9 s ⟨#[b]⟩ 0 (-1) (Lib.countB s ⟨#[b]⟩+1) w hs h1 (Nat.zero_le _)
  (fun x c hx=>(Any.strings_Index_one { L with } x b _).mono fun e w' h=>⟨by rw [h.1];show _=Ending.returned (Value.int .i64 (Lib.index x.data.toList [b]));rw [Lib.index_one],h.2⟩)
  ((Any.strings_Count_one { L with } s b w).mono fun e w' h=>⟨by rw [h.1];show _=Ending.returned (Value.int .i64 ((Lib.count s.data.toList [b]:Nat):Int));rw [Lib.count_one];rfl,h.2⟩)
  (by decide) (by decide) (by rw [if_pos (by decide)];omega)
 rw [Nat.add_sub_cancel,hlen] at c
 have e2:Lib.cellsOf (Lib.splitB ⟨#[b]⟩ 0 (Lib.countB s ⟨#[b]⟩) s) (Lib.countB s ⟨#[b]⟩+1)=((Lib.splitB ⟨#[b]⟩ 0 (Lib.countB s ⟨#[b]⟩) s).map Value.string).toArray:=by rw [←hlen];exact Lib.cellsOf_full _
 rw [e2] at c
 have t3:=L.t3;have t9:=L.t9;have t31:=L.t31
 have a3:=L.a3;have a9:=L.a9;have a31:=L.a31
 have z3:=L.z3;have v3:=L.v3;have z9:=L.z9;have v9:=L.v9;have z31:=L.z31;have v31:=L.v31
 have e221:∀args w,(callFunc (ρ.f 221) args).run P w=.ok (.enter (ρ.f 221) args) w:=enters_of L.f221 (by kernel_rfl) rfl
 go_enter L.f146,Body.n146_ntmps ρ
 go_wp2_with (go_at_fn (ρ.f 221);refine c.mono ?_;rintro e w' ⟨rfl,hw⟩;rw [hw])
 go_ret
 exact ⟨rfl,rfl⟩
end Go.Proofs
namespace Go.Ab
open Go.Proofs Go.Shelf Go.RowKit Go.Deep
theorem c0c {P:Program} {ρ:Ren} (L:Lays.n146 P ρ) (hc:callable P (ρ.f 146)=true) (hi9:(P.info? (ρ.t 9)).map (fun i=>(i.zero,i.size,i.bytes))=some (some (.string ByteArray.empty),1,16)) {s t:Str} {y:List Str} (hy:d5f s t=some y) :
  a0o P (ρ.f 146) [.str s,.str t] [] (fun r H=>r=.sl (y.map V.str)∧H=[]):=by
 unfold d5f at hy
 split at hy
 ·rename_i b
  cases hd:decide (s.length<4294967281) with
  | false=>rw [hd] at hy;cases hy
  | true =>
   rw [hd] at hy
   obtain rfl:=Option.some.inj hy
   have hs:=of_decide_eq_true hd
   refine a5j hc fun g w vals hH hl hv=>?_
   obtain ⟨q,e1,e2,_⟩:=(hv 0 _ rfl).str_inv
   obtain ⟨q',e1',e2',_⟩:=(hv 1 _ rfl).str_inv
   have hq:q'=⟨#[b]⟩:=by
    apply ByteArray.ext
    apply Array.toList_inj.1
    rw [e2']
   have ha:vals=#[vals.getD 0 undef,vals.getD 1 undef]:=by
    apply Array.ext
    ·simpa using hl
    ·intro i h1 h2
     have:i=0∨i=1:=by simp at h2;omega
     rcases this with rfl|rfl<;>simp [Array.getD_eq_getD_getElem?,h1]
   rw [ha,e1,e1',hq]
   have hsz:q.size=s.length:=by rw [←e2,Array.length_toList];rfl
   refine (Any.strings_Split_one L hi9 q b w (by omega)).mono ?_
   rintro en w' ⟨rfl,rfl⟩
   have hlen:=Lib.splitB_all ⟨#[b]⟩ (Nat.le_refl _) 0 _ q rfl
   have hspl:=c2t b q
   generalize Lib.splitB ⟨#[b]⟩ 0 (Lib.countB q ⟨#[b]⟩) q=l at hlen hspl
   have hcn:=Lib.countB_le ⟨#[b]⟩ (Nat.le_refl _) q.size q (Nat.le_refl _)
   generalize Lib.countB q ⟨#[b]⟩=n at hlen hcn
   rw [e2] at hspl
   refine ⟨_,rfl,(World.Since.refl _ _).alloc (Nat.le_refl _) _,?_⟩
   have hmx:n+1≤maxLen:=Nat.le_trans (show n+1≤4294967295 by omega) (by unfold maxLen;decide)
   refine .sl w.heap.size 0 (n+1) (n+1) 1 (l.map Value.string).toArray (ρ.t 9) (0,0) _ (.inr ⟨Nat.le_refl _,by simp⟩) (by show (w.heap.push _)[w.heap.size]?=_;exact Array.getElem?_push_size) (by rw [List.length_map,←hspl,List.length_map,hlen]) hmx (Nat.le_refl _) (.inr (by simp [hlen])) (fun x hx=>?_) fun i j x c hi hj=>?_
   ·obtain ⟨z,_,rfl⟩:=List.mem_map.1 hx
    exact ⟨rfl,fun c hc=>by simp [V.cells] at hc;subst hc;rfl,rfl⟩
   ·rw [←hspl,List.map_map,List.getElem?_map] at hi
    obtain ⟨z,hz,rfl⟩:=Option.map_eq_some_iff.1 hi
    cases j with
    | succ j=>simp [V.cells,Function.comp] at hj
    | zero =>
     simp [V.cells,Function.comp] at hj
     subst hj
     have:((l.map Value.string).toArray).getD (0+i*1+0) undef=.string z:=by
      simp [Array.getD_eq_getD_getElem?,hz]
     rw [this]
     refine .str z ?_
     have hm:z.data.toList∈spl b s:=by rw [←hspl];exact List.mem_map.2 ⟨z,List.mem_of_getElem? hz,rfl⟩
     have:=b8z b s _ hm
     rw [Array.length_toList] at this
     exact Nat.le_trans (Nat.le_trans this (Nat.le_of_lt hs)) (by unfold maxLen;decide)
 ·cases hy
end Go.Ab
namespace Go.Ab
open Go.Proofs
theorem c3y {n k m:Nat} {o:Option Nat}:V.sealOK n k m (fnV o)=True:=by cases o<;>simp [fnV,V.sealOK,V.sealOKs]
theorem d2a {n:Nat} {xs:List V} {o:Option Nat}:V.shut n xs (fnV o)=fnV o:=by cases o<;>simp [fnV,V.shut,V.sealL]
theorem d8w {a b:Nat} {o:Option Nat}:V.ren a b (fnV o)=fnV o:=by cases o<;>simp [fnV,V.ren,V.renL]
theorem d8v {n:Nat} {y:V} {o:Option Nat}:V.shm n y (fnV o)=fnV o:=by cases o<;>simp [fnV,V.shm,V.shmL]
theorem c3x {l:List Nat} {o:Option Nat}:V.within l (fnV o)=true:=by cases o<;>simp [fnV,V.within,V.withinL]
attribute [go_sem ↓] c1y c7k d4b c7j c3y d2a d8w d8v c3x c7i c7l b7k d4a b7j c1x
class WI {α:Type} (F:Option α) (P:outParam Program) (n:outParam Nat) (args:outParam (List V)) (H:outParam Heap) (RV:outParam (α→V)) (HV:outParam (α→Heap)):Prop where
 c:Cn P n args H F RV HV
theorem WI.w {α:Type} {F:Option α} {P:Program} {n:Nat} {args:List V} {H:Heap} {RV:α→V} {HV:α→Heap} [i:WI F P n args H RV HV] {y:α} (hy:F=some y):a0o P n args H (fun r H'=>r=RV y∧H'=HV y):=i.c.w hy
def Al {α:Type} (o:Option α) (Q:α→Prop):Prop:=∀y,o=some y→Q y
section
variable {α β:Type} {Q:α→Prop}
theorem Al.chk {b:Bool} {o:Option α} (h:Al o Q):Al (chk b o) Q:=by
 intro y e
 cases b with
 | true=>exact h y e
 | false=>cases e
theorem Al.ite {b:Bool} {x y:Option α} (h1:Al x Q) (h2:Al y Q):Al (bif b then x else y) Q:=by cases b<;>assumption
theorem Al.bind {o:Option β} {f:β→Option α} (h:∀y,o=some y→Al (f y) Q):Al (o.bind f) Q:=by
 intro y e
 obtain ⟨w,h1,h2⟩:=zL.1 e
 exact h w h1 y h2
theorem Al.jn {o:Option β} {f:β→Option α} (h:∀y,o=some y→Al (f y) Q):Al (jn o f) Q:=Al.bind h
theorem Al.grp {x:β} {f:β→Option α} (h:Al (f x) Q):Al (grp x f) Q:=h
theorem Al.some {x:α} (h:Q x):Al (some x) Q:=fun y e=>by cases e;exact h
theorem Al.none:Al none Q:=fun y e=>by cases e
end
class LI (b:MC) (isl nsl:outParam Nat) (ke kh:outParam (List Nat)) {σ:outParam Type} (ue:outParam (σ→List (Nat×V))) (uh:outParam (σ→List Up)) (ns:outParam (List a3l)):Prop
class GI (b:List MOp) (ke kh:outParam (List Nat)) {σ:outParam Type} (ue:outParam (σ→List (Nat×V))) (uh:outParam (σ→List Up)):Prop
class GV (b:List MOp) (d:outParam Nat) (ds:outParam (List Nat)):Prop
section
variable {M:a0t} {c:Cfg} {e:List (Nat×V)} {h:Heap} {s:List Fr}
theorem a0t.go_un {b b':MC} {σ:St} (e:b=b') (h:M.go c b' s σ):M.go c b s σ:=e▸h
theorem a0t.ops_un {b b':List MOp} {σ:St} (e:b=b') (h:M.ops c b' s σ):M.ops c b s σ:=e▸h
theorem a0t.jn2 {α β:Type} {a b:MC} {A:Option α} {B:α→Option β} {Q:β→Prop} {i n:Nat} {ke kh:List Nat} {ue:α→List (Nat×V)} {uh:α→List Up} {ns:List a3l} [LI b i n ke kh ue uh ns] (hF:Ok (jn A B) Q)
  (h1:∀(Qn:α→Prop) (K:St→Prop),(∀σ',(a0g c.H0 ns σ' fun σ'=>∃y,Qn y∧a0j (ovS e h ke kh (ue y) (uh y)) σ')→K σ')→Ok A Qn→M.go ⟨c.P,c.H0,K,M.kX c s,c.R⟩ a [] ⟨e,h⟩)
  (h2:∀y,Ok (B y) Q→M.go c b s (ovS e h ke kh (ue y) (uh y))):M.go c (.cut a b) s ⟨e,h⟩:=M.jn1 ke kh ue uh ns hF h1 h2
theorem a0t.jnE2 {α β ρ:Type} {a b:MC} {A:Option (Fl α ρ)} {B:α→Option β} {E:ρ→Option β} {Q:β→Prop} {i n:Nat} {ke kh:List Nat} {ue:α→List (Nat×V)} {uh:α→List Up} {ns:List a3l} [LI b i n ke kh ue uh ns] (hF:Ok (jn A fun o=>o.elim B E) Q)
  (h1:∀(Qn:α→Prop) (K:St→Prop),(∀σ',(a0g c.H0 ns σ' fun σ'=>∃y,Qn y∧a0j (ovS e h ke kh (ue y) (uh y)) σ')→K σ')→Ok A (Fl.elim Qn fun r=>Ok (E r) Q)→M.go ⟨c.P,c.H0,K,M.kX c s,c.R⟩ a [] ⟨e,h⟩)
  (h2:∀y,Ok (B y) Q→M.go c b s (ovS e h ke kh (ue y) (uh y))):M.go c (.cut a b) s ⟨e,h⟩:=M.jnE ke kh ue uh ns hF h1 h2
theorem a0t.gj2 {α β:Type} {ms:List MOp} {its:List It} {A:Option α} {B:α→Option β} {Q:β→Prop} {ke kh:List Nat} {ue:α→List (Nat×V)} {uh:α→List Up} [GI ms ke kh ue uh] (hF:Ok (jn A B) Q)
  (h1:∀(Qn:α→Prop) (K:St→Prop),(∀σ',(∃y,Qn y∧a0j (ovS e h ke kh (ue y) (uh y)) σ')→K σ')→Ok A Qn→M.ops ⟨c.P,c.H0,K,fun _ _=>False,fun _=>False⟩ ms [] ⟨e,h⟩)
  (h2:∀y,Ok (B y) Q→M.kN c (.it its::s) (ovS e h ke kh (ue y) (uh y))):M.grpC c ms its s ⟨e,h⟩:=M.gj1 ke kh ue uh hF h1 h2
theorem a0t.gv2 {ms:List MOp} {its:List It} {x:Bool} {β:Type} {B:Bool→Option β} {Q:β→Prop} {d:Nat} {ds:List Nat} [GV ms d ds] (hF:Ok (grp x B) Q)
  (h1:∀(K:St→Prop),(∀σ',a0j ⟨put d (.bool x) (b7y ds e),h⟩ σ'→K σ')→M.ops ⟨c.P,c.H0,K,fun _ _=>False,fun _=>False⟩ ms [] ⟨e,h⟩)
  (h2:∀b,Ok (B b) Q→M.kN c (.it its::s) ⟨put d (.bool b) (b7y ds e),h⟩):M.grpC c ms its s ⟨e,h⟩:=M.gv1 d ds hF h1 h2
theorem a0t.wh2 {σ ρ:Type} {b:MC} {step:σ→Option (Fl σ ρ)} {s0:σ} {Q:ρ→Prop} {i n:Nat} {ke kh:List Nat} {ue:σ→List (Nat×V)} {uh:σ→List Up} {ns:List a3l} [LI b i n ke kh ue uh ns] (hF:Ok (loop step s0) Q)
  (h0:a0g c.H0 ns ⟨e,h⟩ fun σ'=>a0j (ovS e h ke kh (ue s0) (uh s0)) σ')
  (round:∀(x:σ) (Qn:σ→Prop) (K:St→Prop),(∀σ',(a0g c.H0 ns σ' fun σ'=>∃y,Qn y∧a0j (ovS e h ke kh (ue y) (uh y)) σ')→K σ')→Ok (step x) (Fl.elim Qn Q)→M.go ⟨c.P,c.H0,K,M.kX c s,c.R⟩ b [] (ovS e h ke kh (ue x) (uh x))) :
  M.go c (.loop b) s ⟨e,h⟩:=M.wh1 ke kh ue uh ns hF h0 round
theorem a0t.for2 {α σ ρ:Type} [Inhabited α] {b:MC} {body:Int→α→σ→Option (Fl σ ρ)} {xs:List α} {s0:σ} {Q:Fl σ ρ→Prop} {isl nsl:Nat} {ke kh:List Nat} {ue:σ→List (Nat×V)} {uh:σ→List Up} {ns:List a3l} [LI b isl nsl ke kh ue uh ns] (hF:Ok (a10 body xs 0 s0) Q)
  (h0:a0g c.H0 ns ⟨e,h⟩ fun σ'=>a0j (ovS e h ke kh ((isl,.int .i64 ((0:Nat):Int))::ue s0) (uh s0)) σ')
  (round:∀(k:Nat) (a:α) (x:σ) (Qn:σ→Prop) (K:St→Prop),(∀σ',(a0g c.H0 ns σ' fun σ'=>∃y,Qn y∧a0j (ovS e h ke kh ((isl,.int .i64 ((k+1:Nat):Int))::ue y) (uh y)) σ')→K σ')→k<xs.length→xs.getD k default=a →
   Ok (body k a x) (Fl.elim Qn fun r=>Q (.ex r))→(∀{y:V},find nsl (ovS e h ke kh ((isl,.int .i64 k)::ue x) (uh x)).env=some y→y.fact)→M.go ⟨c.P,c.H0,K,M.kX c s,c.R⟩ b [] (ovS e h ke kh ((isl,.int .i64 k)::ue x) (uh x)))
  (stop:∀(x:σ) (K:St→Prop),Q (.nx x)→M.go ⟨c.P,c.H0,K,M.kX c s,c.R⟩ b [] (ovS e h ke kh ((isl,.int .i64 (xs.length:Int))::ue x) (uh x))):M.go c (.loop b) s ⟨e,h⟩ :=
 M.for1 isl ke kh ue uh ns hF h0 (fun k a x Qn K h1 h2 h3 h4 h5=>round k a x Qn K h1 h2 h3 h4 fun h=>a1d h5.1 h) stop
theorem a0t.fold2 {α σ:Type} [Inhabited α] {b:MC} {body:Int→α→σ→Option σ} {xs:List α} {s0:σ} {Q:σ→Prop} {isl nsl:Nat} {ke kh:List Nat} {ue:σ→List (Nat×V)} {uh:σ→List Up} {ns:List a3l} [LI b isl nsl ke kh ue uh ns] (hF:Ok (a0d body xs 0 s0) Q)
  (h0:a0g c.H0 ns ⟨e,h⟩ fun σ'=>a0j (ovS e h ke kh ((isl,.int .i64 ((0:Nat):Int))::ue s0) (uh s0)) σ')
  (round:∀(k:Nat) (a:α) (x:σ) (Qn:σ→Prop) (K:St→Prop),(∀σ',(a0g c.H0 ns σ' fun σ'=>∃y,Qn y∧a0j (ovS e h ke kh ((isl,.int .i64 ((k+1:Nat):Int))::ue y) (uh y)) σ')→K σ')→k<xs.length→xs.getD k default=a →
   Ok (body k a x) Qn→(∀{y:V},find nsl (ovS e h ke kh ((isl,.int .i64 k)::ue x) (uh x)).env=some y→y.fact)→M.go ⟨c.P,c.H0,K,M.kX c s,c.R⟩ b [] (ovS e h ke kh ((isl,.int .i64 k)::ue x) (uh x)))
  (stop:∀(x:σ) (K:St→Prop),Q x→M.go ⟨c.P,c.H0,K,M.kX c s,c.R⟩ b [] (ovS e h ke kh ((isl,.int .i64 (xs.length:Int))::ue x) (uh x))):M.go c (.loop b) s ⟨e,h⟩ :=
 M.fold1 isl ke kh ue uh ns hF h0 (fun k a x Qn K h1 h2 h3 h4 h5=>round k a x Qn K h1 h2 h3 h4 fun h=>a1d h5.1 h) stop
theorem g70 {P K:St→Prop} (h:∀σ',P σ'→K σ') {σ:St} (p:P σ):K σ:=h σ p
end
theorem g7w {p:Prop} [Decidable p] {A B:Prop} (h:(decide p=true→A)∧(decide p=false→B)):(p∧A)∨(¬p∧B):=by
 by_cases hp:p
 ·exact .inl ⟨hp,h.1 (wV hp)⟩
 ·exact .inr ⟨hp,h.2 (wI hp)⟩
@[go_sem] def e0n:List (Nat×Nat)→List V→List V
 | [],l=>l
 | (a,b)::r,l=>e0n r (V.swL a b l)
@[go_sem] def e0m:List (Nat×Nat)→V→V
 | [],x=>x
 | (a,b)::r,x=>e0m r (x.sw a b)
@[go_sem] def c94:List (Nat×Nat)→Heap→Heap
 | [],H=>H
 | (a,b)::r,H=>c94 r (swH a b H)
theorem a9f {P:Program} {f:Nat}:∀(l:List (Nat×Nat)) {args:List V} {H:Heap} {r0:V} {H1:Heap},a0o P f args H (fun r H'=>r=r0∧H'=H1)→a0o P f (e0n l args) (c94 l H) (fun r H'=>r=e0m l r0∧H'=c94 l H1)
 | [],_,_,_,_,h=>h
 | (a,b)::r,_,_,_,_,h=>a9f r (a0w a b h)
class SwA (l:outParam (List (Nat×Nat))):Prop
class SwB (l:outParam (List (Nat×Nat))):Prop
class SwC (l:outParam (List (Nat×Nat))):Prop
section
variable {P:Program} {f:Nat} {l:List (Nat×Nat)} {args:List V} {H:Heap} {r0:V} {H1:Heap}
theorem c8x [SwA l] (h:a0o P f args H (fun r H'=>r=r0∧H'=H1)):a0o P f (e0n l args) (c94 l H) (fun r H'=>r=e0m l r0∧H'=c94 l H1):=a9f l h
theorem c8w [SwB l] (h:a0o P f args H (fun r H'=>r=r0∧H'=H1)):a0o P f (e0n l args) (c94 l H) (fun r H'=>r=e0m l r0∧H'=c94 l H1):=a9f l h
theorem c8v [SwC l] (h:a0o P f args H (fun r H'=>r=r0∧H'=H1)):a0o P f (e0n l args) (c94 l H) (fun r H'=>r=e0m l r0∧H'=c94 l H1):=a9f l h
end
theorem tX {p:Prop} (x:p:=by
 replace h:=tY h
 refine tB ?_
 repeat' (first
 | (exact tZ)
 | ((first|refine b8n h ?_|refine a6x h ?_|refine b8p h ?_|refine b8o h ?_|refine b8q h ?_|refine appG h ?_|refine b8r h ?_|refine fork h ?_ ?_|refine a6y h ?_ ?_)<;>clear h<;>intro hc h)
 | (replace h:=(show d4d _ _=true∧_ from h).2)
 | (refine d3d h (fun hp=>by simpa using hp) ?_ ?_<;>first
  | (clear h;intro hc h;rw [M.lok_eq];replace h:=tY h;refine tB ?_)
  | (clear h;intro h;rw [M.lok_eq];replace h:=tY h;refine tB ?_))
 | (obtain ⟨y,hy,h⟩:=h;have hw:=WI.w hy;replace hw:=tY hw;(first|refine M.sC hw ?_|refine M.sD hw ?_);clear hw hy;refine tB ?_)
 | (obtain ⟨y,hy,h⟩:=h;have hw:=c8x (WI.w hy);replace hw:=tY hw;(first|refine M.sC hw ?_|refine M.sD hw ?_);clear hw hy;refine tB ?_)
 | (obtain ⟨y,hy,h⟩:=h;have hw:=c8w (WI.w hy);replace hw:=tY hw;(first|refine M.sC hw ?_|refine M.sD hw ?_);clear hw hy;refine tB ?_)
 | (obtain ⟨y,hy,h⟩:=h;have hw:=c8v (WI.w hy);replace hw:=tY hw;(first|refine M.sC hw ?_|refine M.sD hw ?_);clear hw hy;refine tB ?_)
 | ((first|show b0y _ (fnV _) _ _ _ _ _|show b1u _ (fnV _) _ _ _ _ _);rcases g7w h with ⟨hc,h⟩|⟨hc,h⟩<;>first|exact False.elim h|(simp only [hc];replace h:=tY h;refine tB ?_)|skip)
 | (refine M.jn2 h ?_ ?_<;>first
  | (clear h;intro Qn K hK h;replace h:=tY h;refine tB ?_)
  | (clear h;intro y h;refine M.go_un (by with_unfolding_all (conv=>lhs;whnf);try exact rfl) ?_;replace h:=tY h;refine tB ?_))
 | (refine M.jnE2 h ?_ ?_<;>first
  | (clear h;intro Qn K hK h;replace h:=tY h;refine tB ?_)
  | (clear h;intro y h;refine M.go_un (by with_unfolding_all (conv=>lhs;whnf);try exact rfl) ?_;replace h:=tY h;refine tB ?_))
 | (refine M.gv2 h ?_ ?_<;>first
  | (clear h;intro K hK;refine M.ops_un (by with_unfolding_all (conv=>lhs;whnf);try exact rfl) ?_;refine tB ?_)
  | (clear h;intro b h;replace h:=tY h;refine tB ?_))
 | (refine M.gj2 h ?_ ?_<;>first
  | (clear h;intro Qn K hK h;refine M.ops_un (by with_unfolding_all (conv=>lhs;whnf);try exact rfl) ?_;replace h:=tY h;refine tB ?_)
  | (clear h;intro y h;replace h:=tY h;refine tB ?_))
 | (refine M.wh2 h ?_ ?_<;>first
  | (clear h;intro x Qn K hK h;refine M.go_un (by with_unfolding_all (conv=>lhs;whnf);try exact rfl) ?_;replace h:=tY h;refine tB ?_)
  | (clear h;(try refine tB ?_);exact tU0;done))
 | ((first|refine M.for2 h ?_ ?_ ?_|refine M.fold2 h ?_ ?_ ?_)<;>first
  | (clear h;(try (have ha3:=ha2;clear ha2));(try (have ha2:=ha1;clear ha1));(try (have ha1:=ha;clear ha));intro k a x Qn K hK hkN ha h hl;(first|have hl:=a3h (hl rfl)|skip);have hkd:=kD hkN;have hkB:=kB hkN;have hkI:=kI (k:=k) (by (try simp only [wC,wO] at hkN);omega);clear hl;refine M.go_un (by with_unfolding_all (conv=>lhs;whnf);try exact rfl) ?_;replace h:=tY h;refine tK ha hkd hkN hkB hkI ?_)
  | (clear h;intro x K h;replace h:=And.left (And.intro h trivial);refine M.go_un (by with_unfolding_all (conv=>lhs;whnf);try exact rfl) ?_;replace h:=tY h;refine tB ?_)
  | (clear h;(try refine tB ?_);exact tU0;done))
 | (simp only [ha])|(simp only [ha1])|(simp only [ha2])|(simp only [ha3])
 | (exact absurd (hc.symm.trans (by assumption:_=true)) Bool.false_ne_true)
 | (exact absurd (hc.symm.trans (by assumption:_=false)) Bool.false_ne_true.symm)
 | (refine g70 (by assumption) ?_;first|((try refine tB ?_);refine ⟨_,h,?_⟩;(first|(exact tU0;done)|(exact tU;done)))|(exact tU;done))
 | (refine d30 (fun hc=>?_) (fun hc=>?_))
 | (refine tE ?_;(first|rw [M.lok_compU]|rw [M.lokD_compU]);refine tB ?_)
 | (refine ⟨_,g50 (by first|exact a1s (by assumption)|exact a7o (by assumption)|assumption) rfl,?_⟩;(first|rw [M.lok_compU]|rw [M.lokD_compU]);refine tB ?_)
 | (refine ⟨_,g4z (by first|exact a1s (by assumption)|exact a7o (by assumption)|assumption),?_⟩;(first|rw [M.lok_compU]|rw [M.lokD_compU]|(simp only [V.cells,xF,wW];first|rw [M.lok_comp]|rw [M.lokD_comp]));refine tB ?_)
 | (refine ⟨_,b2u (by first|exact a1s (by assumption)|exact a7o (by assumption)),?_⟩;(first|rw [M.lok_compU]|rw [M.lokD_compU]|(simp only [V.cells];first|rw [M.lok_comp]|rw [M.lokD_comp]));refine tB ?_)
 | (refine tA ?_)|fail)):p:=x
end Go.Ab
namespace Go.Ab
open Go.RowKit
@[irreducible] def cJ {k:IntKind} {n:Int}:V:=.int k n
@[irreducible] def cS {s:List UInt8}:V:=.str s
theorem d9d {k:IntKind} {n:Int}:@cJ k n=.int k n:=by unfold cJ;rfl
theorem e9z {s:List UInt8}:@cS s=.str s:=by unfold cS;rfl
mutual
def zv (b:Bool):Value→V
 | .bool c=>.bool c
 | .int k n=>@cJ k n
 | .string ⟨⟨l⟩⟩=>@cS l
 | .slice _ _ _=>bif b then .nils else .sl []
 | .pointer _=>.nilp
 | .map _=>.nilm
 | .nilFunc=>.nilf
 | .nilIface=>bif b then .nili else .ifc true
 | .agg ⟨l⟩=>.agg (zvs b l)
 | _=>.any
def zvs (b:Bool):List Value→List V
 | []=>[]
 | v::r=>zv b v::zvs b r
end
def co (b:Bool):Operand→Opd
 | .tmp n=>.t n
 | .const v=>.c (zv b v)
 | .func f=>.f f
 | .global _=>.c .any
def cos (b:Bool):List Operand→List Opd
 | []=>[]
 | x::r=>co b x::cos b r
def coO:Option Operand→Option Opd
 | none=>none
 | some x=>some (co false x)
section
variable (P:Program)
def tz (b:Bool) (t:TypeId):V:=match P.info? t with
 | some i=>match i.zero with
  | some v=>zv b v
  | none=>.any
 | none=>.any
def tzc (b:Bool) (t:TypeId):List V:=match P.info? t with
 | some i=>match i.zero with
  | some (.agg ⟨l⟩)=>zvs b l
  | some v=>[zv b v]
  | none=>[]
 | none=>[]
def tsz (t:TypeId):Nat:=match P.info? t with
 | some i=>i.size
 | none=>0
def tby (t:TypeId):Nat:=match P.info? t with
 | some i=>i.bytes
 | none=>0
def tag (t:TypeId):Option Nat:=match P.underlying t with
 | some (.struct _)|some (.array _ _)=>some (tsz P t)
 | _=>none
def tel (t:TypeId):TypeId:=match P.underlying t with
 | some (.slice e)|some (.array _ e)=>e
 | _=>0
def tkd (t:TypeId):KD:=match P.underlying t with
 | some (.map k _)=>match P.underlying k with
  | some (.int i)=>.int i
  | some .string=>.str
  | _=>.bool
 | _=>.bool
def tmv (t:TypeId):TypeId:=match P.underlying t with
 | some (.map _ e)=>e
 | _=>0
def cps (b:Bool) (fs:List Field):List (Nat×Operand)→List (Nat×Nat×Opd)
 | []=>[]
 | (i,x)::r=>(match fs[i]? with
  | some f=>(f.offset,tsz P f.type,co b x)
  | none=>(0,0,co b x))::cps b fs r
def ks0 (rec:List Field→List Nat):List Field→List Nat
 | []=>[]
 | f::r=>(match P.underlying f.type with
  | some (.int _)=>[0]
  | some .string=>[1]
  | some .bool=>[2]
  | some (.struct ⟨fs⟩)=>rec fs
  | _=>[])++ks0 rec r
def ksN:Nat→List Field→List Nat
 | 0=>fun _=>[]
 | n+1=>ks0 P (ksN n)
def e9x:BinOp→Bool
 | .neq=>true
 | _=>false
def g7q:BinOp→Bool
 | .add|.sub|.mul=>true
 | _=>false
def g7p:BinOp→Bool
 | .quo|.rem=>true
 | _=>false
def f7w (x y:Opd):a06:=.mv (.c .any)
def f8c (l:List Opd):a06:=.mv (.c .any)
def f8a (l:List Opd):a06:=.mv (.c .any)
def f8d (b:Bool) (x:Opd):a06:=.mp (.isn b) [x]
def f8e (b:Bool) (x:Opd):a06:=.mp (.ifz b) [x]
def f8g (b:Bool) (x:Opd):a06:=.mv (.c .any)
def f7z (x:Opd):a06:=.mv (.c .any)
def f8i (n:Nat) (x y:Opd):a06:=.mv (.c .any)
def f8j (f:Nat) (l:List Opd):a06:=.mv (.c .any)
def f8l (n b:Nat) (x y:Opd):a06:=.mp (.apc n b) [x,y]
def f7y (x:Opd):a06:=.mv (.c .any)
def e2d (x:Opd):a06:=.mv (.c .any)
def f8k (x:Opd):a06:=.mv (.c .any)
def f8b (x:Opd):a06:=.mv (.c .any)
def f8f (x:Opd):a06:=.mv (.c .any)
def f7x (x:Opd) (a b:Option Opd):a06:=.mv (.c .any)
def f8h (n:Option Nat) (o:Nat) (x:Opd):a06:=.mv (.c .any)
def f8m (k n:Nat) (x y:Opd):a06:=.mv (.c .any)
def lg2 (n:Int):Nat→Option Nat
 | 0=>none
 | f+1=>if n=1 then some 0 else if n % 2=0 then (lg2 (n / 2) f).map (·+1) else none
def g7x (wr:Bool) (o:BinOp) (t:TypeId) (x y:Operand):a06:=match P.underlying t with
 | some (.int k)=>match (match o,y with
   | .and,.const (.int _ n)=>(match lg2 (n+1) 64 with|some m=>bif Nat.blt m k.bits then some m else none|none=>none)
   | _,_=>none) with
  | some m=>.mask m (co false x) k
  | none=>.bin (!wr&&(g7p o||(g7q o&&kEq k .i64))) o (co false x) (co false y)
 | some .string=>.bin false o (co false x) (co false y)
 | some .bool=>.beq (e9x o) (co false x) (co false y)
 | some (.struct ⟨fs⟩)=>.eqs (e9x o) (ksN P 4 fs) (co false x) (co false y)
 | some (.slice _)=>f8d (e9x o) (co false x)
 | some (.interface _)=>f8e (e9x o) (co false x)
 | some (.func _ _ _)=>f8g (e9x o) (co false x)
 | _=>.mv (.c .any)
def wide (a b:IntKind):Bool:=kEq a b||(Nat.blt a.bits b.bits&&(!a.signed||b.signed))
def ccv (lit:Bool) (a b:TypeId) (x:Opd):a06:=match P.underlying a,P.underlying b with
 | some (.int i),some (.int j)=>.i2i (wide i j) j x
 | some (.int _),some .string=>f7z x
 | some .string,some .string=>f8f x
 | some .string,some (.slice _)=>bif lit then e2d x else f7y x
 | some (.slice _),some .string=>f8k x
 | some (.slice _),some (.slice _)=>f8b x
 | _,_=>.mv (.c .any)
def c2 (l:List (Nat×Operand)):List Operand:=l.map (·.2)
def ci (k:Nat) (ids news:List Nat):Op→a06
 | .move x|.assign x=>.mv (co (Nat.beq k 1) x)
 | .pick c a b=>.pick (co false c) (co false a) (co false b)
 | .alloc e=>.alloc (tzc P (Nat.beq k 1||Nat.beq k 8) e) (bif Nat.ble 7 k then some e else none)
 | .box _ x=>.box (co false x)
 | .build t ⟨ps⟩=>(match P.underlying t with
  | some (.struct ⟨fs⟩)=>.build (tzc P (Nat.beq k 1) t) (cps P (Nat.beq k 1) fs ps)
  | _=>.barr (tsz P (tel P t)) (tzc P false t) (cos false (c2 ps)))
 | .buildSlice t _ ⟨ps⟩=>bif Nat.beq k 2 then .lsl (tsz P (tel P t)) (cos false (c2 ps)) else bif Nat.beq k 4 then f8c (cos false (c2 ps)) else .bslice (tsz P (tel P t)) (cos false (c2 ps)) (Nat.beq k 3)
 | .load t x=>bif Nat.ble 100 k then .mp (.tab (k - 100)) [] else .ld (tag P t) (co false x)
 | .store t x y=>bif Nat.beq k 4 then f7w (co false x) (co false y) else .st (tsz P t) (co false x) (co false y)
 | .nilCheck x=>.nck (co false x)
 | .binOp o t x y _=>g7x P (Nat.beq k 6) o t x y
 | .unOp .not _ x=>.not (co false x)
 | .unOp .neg t x=>.neg (match P.underlying t with|some (.int i)=>kEq i .i64|_=>false) (co false x)
 | .convert a b x=>ccv P (Nat.beq k 2) a b (co false x)
 | .makeFunc (.func f) ⟨a⟩ ⟨b⟩=>(match a with|[]=>.mkfn f (cos false b)|a=>f8j f (cos false a))
 | .makeMap t _=>.mp (.mk (tkd P t)) []
 | .lookup t x y c=>.mp (.lku (tkd P t) c (tz P false (tmv P t))) [co false x,co false y]
 | .mapUpdate t x y z|.insert t x y z=>.mp (bif Nat.beq k 4 then .ups (tkd P t) else .up (tkd P t)) [co false x,co false y,co (Nat.beq k 1) z]
 | .range _ x=>.mp .rng [co false x]
 | .next x _=>.mp .nxt [co false x]
 | .entry x=>.mp .ent [co false x]
 | .makeSlice t x y=>.mksl (tsz P (tel P t)) (tby P (tel P t)) (tz P false (tel P t)) (co false x) (co false y)
 | .slice t x lo hi _=>(match P.underlying t with
  | some .string=>f7x (co false x) (coO lo) (coO hi)
  | _=>.slc (tsz P (tel P t)) (co false x) (coO lo) (coO hi))
 | .fieldAddr t x f=>(match P.underlying t with
  | some (.struct fs)=>(match fs[f]? with|some fl=>.fad fl.offset (co false x)|none=>.mv (.c .any))
  | _=>.mv (.c .any))
 | .field t x f=>(match P.underlying t with
  | some (.struct fs)=>(match fs[f]? with|some fl=>f8h (tag P fl.type) fl.offset (co false x)|none=>.mv (.c .any))
  | _=>.mv (.c .any))
 | .indexAddr t x y=>(match P.underlying t with
  | some (.array n e)=>f8m (tsz P e) n (co false x) (co false y)
  | _=>.iad (tsz P (tel P t)) (co false x) (co false y))
 | .index t x y=>(match P.underlying t with
  | some (.array n e)=>.aix (tag P e) (tsz P e) n (co false x) (co false y)
  | _=>.idx (co false x) (co false y))
 | .extract x i=>.ext i (co false x)
 | .call ⟨.value f,⟨xs⟩,_⟩=>.call (co false f) (cos (Nat.beq k 1) xs) ids news
 | .call ⟨.builtin b,⟨xs⟩,⟨ts⟩⟩=>(match b,xs,ts with
  | .len,[x],t::_=>(match P.underlying t with
   | some (.map _ _)=>.mp .len [co false x]
   | some .string=>.len true (co false x)
   | _=>.len false (co false x))
  | .append,[x,y],t::_=>bif Nat.beq k 5 then f8l (tsz P (tel P t)) (tby P (tel P t)) (co false x) (co false y) else
    .app (tsz P (tel P t)) (tby P (tel P t)) (match x with|.const _=>.c .nils|_=>co false x) (co false y) (bif Nat.beq k 7 then some (tel P t) else none)
  | .copy,[x,y],t::_=>f8i (tsz P (tel P t)) (co false x) (co false y)
  | .delete,[x,y],t::_=>.mp (.del (tkd P t)) [co false x,co false y]
  | .max,[x,y],_=>.mm true (co false x) (co false y)
  | .min,[x,y],_=>.mm false (co false x) (co false y)
  | .max,[x,y,z],_=>f8a [co false x,co false y,co false z]
  | _,_,_=>.mv (.c .any))
 | _=>.mv (.c .any)
inductive RA where
 | k (j n:Nat)
 | c (j n:Nat) (ids news:List Nat)
 | n (j:Nat) (n:a3l)
 | v (j l:Nat)
 | u (j l:Nat) (m:List MOp)
 | w (j l t:Nat)
structure RN where
 nt:List a3l
 tw:List RA
 it:List RA
def cgd (all:List Oper):Option (Nat×Bool)→Option (Nat×Bool)
 | none=>none
 | some (j,w)=>match all[j]? with
  | some o=>(match o.dst with|some d=>some (d,w)|none=>none)
  | none=>none
def cop (all:List Oper) (k:Nat) (ids news:List Nat) (o:Oper):MOp:=⟨ci P k ids news o.op,o.dst,cgd all o.guard⟩
def cms (all:List Oper) (j:Nat) (tw:List RA):List Oper→List MOp
 | []=>[]
 | o::r=>match tw with
  | .k i n::tw'=>bif Nat.beq i j then cop P all n [] [] o::cms all (j+1) tw' r else cop P all 0 [] [] o::cms all (j+1) tw r
  | .c i n ids news::tw'=>bif Nat.beq i j then cop P all n ids news o::cms all (j+1) tw' r else cop P all 0 [] [] o::cms all (j+1) tw r
  | _=>cop P all 0 [] [] o::cms all (j+1) [] r
def ntO (j:Nat):List RA→List It
 | .n i n::rs=>bif Nat.beq i j then .nt n::ntO j rs else []
 | _=>[]
def ntR (j:Nat):List RA→List RA
 | .n i n::rs=>bif Nat.beq i j then ntR j rs else .n i n::rs
 | rs=>rs
@[irreducible] def gjt (t:Nat) (ms:List MOp):List MOp:=ms
@[irreducible] def gvt (d:Nat) (ds:List Nat) (ms:List MOp):List MOp:=ms
instance {d:Nat} {ds:List Nat} {ms:List MOp}:GV (gvt d ds ms) d ds:=⟨⟩
def gvd:List MOp→Nat
 | []=>0
 | [m]=>m.dst.getD 0
 | _::r=>gvd r
def gvs:List MOp→List Nat
 | []=>[]
 | [_]=>[]
 | m::r=>m.dst.getD 0::gvs r
def cit (j sk:Nat) (rs:List RA):List MOp→List It
 | []=>ntO j rs
 | m::r=>bif Nat.blt 0 sk then cit (j+1) (sk - 1) rs r else ntO j rs++(match ntR j rs with
  | .v i l::rs'=>bif Nat.beq i j then .grp (gvt (gvd ((m::r).take (l+1 - j))) (gvs ((m::r).take (l+1 - j))) ((m::r).take (l+1 - j)))::cit (j+1) (l - j) rs' r else .op m::cit (j+1) 0 (.v i l::rs') r
  | .u i l b::rs'=>bif Nat.beq i j then .grp b::cit (j+1) (l - j) rs' r else .op m::cit (j+1) 0 (.u i l b::rs') r
  | .w i l t::rs'=>bif Nat.beq i j then .grp (gjt t ((m::r).take (l+1 - j)))::cit (j+1) (l - j) rs' r else .op m::cit (j+1) 0 (.w i l t::rs') r
  | rs'=>.op m::cit (j+1) 0 rs' r)
def g4w (o:Oper):List Nat:=(o.after.toList.filter (Region.binds .any)).map (·.on)
def orM (ms:List Nat):List Nat→Nat→Nat
 | [],a=>a
 | x::r,a=>orM ms r (a||| (1 <<< x)||| ms.getD x 0)
def cmk (ms:List Nat):List (List Nat)→List Nat
 | []=>ms
 | a::r=>cmk (ms++[orM ms a 0]) r
def d9j (m:Nat):Nat→Nat→List Nat
 | _,0=>[]
 | i,n+1=>bif m.testBit i then i::d9j m (i+1) n else d9j m (i+1) n
def g7r:MOp→Bool
 | ⟨.app ..,_,_⟩=>true
 | _=>false
def isLd:MOp→Bool
 | ⟨.ld ..,_,_⟩=>true
 | _=>false
def d87 (m:Nat):Nat→List MOp→Nat→List Nat
 | _,[],_=>[]
 | _,_,0=>[]
 | i,x::r,n+1=>bif isLd x&&!m.testBit i then (1000000+i)::d87 m (i+1) r n else d87 m (i+1) r n
def g4v (all:List MOp) (j:Nat):List MOp→List Nat→List (List Nat)
 | x::r,m::s=>(d9j m 0 j++(bif g7r x then d87 m 0 all j else []))::g4v all (j+1) r s
 | _,_=>[]
def crg (n:RN) (ops:List Oper) (draw:Bool):MC:=match draw,n.it with
 | true,_=>.regD (cms P ops 0 n.tw ops) (ops.map g4w) (g4v (cms P ops 0 n.tw ops) 0 (cms P ops 0 n.tw ops) (cmk [] (ops.map g4w)))
 | _,[]=>.reg (cms P ops 0 n.tw ops)
 | _,it=>.regI (cit 0 0 it (cms P ops 0 n.tw ops))
def fnd {α:Type} (k:Nat):List (Nat×α)→Option α
 | []=>none
 | (i,x)::r=>bif Nat.beq i k then some x else fnd k r
def fst:Code→Option Nat
 | .region i _ _=>some i
 | .seq a b=>(match fst a with|none=>fst b|x=>x)
 | .cond _ a b=>(match fst a with|none=>fst b|x=>x)
 | .block _ b=>fst b
 | .loop b=>(fst b).map (·+1000000)
 | .rangeFunc _ _ a b=>((match fst a with|none=>fst b|x=>x)).map (·+1000000)
 | _=>none
def kF (c:Code):Nat:=(fst c).getD 0
def cg (A:List (Nat×RN)) (C:List (Nat×MC)):Code→MC
 | .skip=>.skip
 | .ret=>.ret
 | .exit i=>.exit i
 | .region i ⟨ops⟩ d=>(match fnd (i+20000000) C with
  | some c=>c
  | none=>match fnd i A with
   | some n=>n.nt.foldr .note (crg P n ops d)
   | none=>crg P ⟨[],[],[]⟩ ops d)
 | .seq a b=>(match fnd (kF b+10000000) C with
  | some c=>.cut (cg A C a) c
  | none=>.seq (cg A C a) (cg A C b))
 | .cond c a b=>.cond (co false c) (cg A C a) (cg A C b)
 | .block i b=>.block i (cg A C b)
 | .loop b=>(match fnd (kF b+30000000) A with|some n=>n.nt|none=>[]).foldr .note (.loop ((fnd (kF b) C).getD .no))
 | .rangeFunc f ps a b=>(match fnd (kF b+30000000) A with|some n=>n.nt|none=>[]).foldr .note (.rngF (co false f) ps.toList (cg A C a) ((fnd (kF b) C).getD .no))
 | _=>.no
def sbc (k:Nat):Code→Option Code
 | .seq a b=>bif Nat.beq k (kF b+10000000) then some b else match sbc k a with|none=>sbc k b|x=>x
 | .cond _ a b=>(match sbc k a with|none=>sbc k b|x=>x)
 | .block _ b=>sbc k b
 | .loop b=>bif Nat.beq k (kF b) then some b else sbc k b
 | .rangeFunc _ _ a b=>bif Nat.beq k (kF b) then some b else match sbc k a with|none=>sbc k b|x=>x
 | _=>none
def sbr (k:Nat):Code→Option (List Oper)
 | .region i ops _=>bif Nat.beq k i then some ops.toList else none
 | .seq a b|.cond _ a b|.rangeFunc _ _ a b=>(match sbr k a with|none=>sbr k b|x=>x)
 | .block _ b|.loop b=>sbr k b
 | _=>none
def cT (f:Func) (A:List (Nat×RN)) (C:List (Nat×MC)):MC:=cg P A C (f.body.getD .skip)
def cK (f:Func) (A:List (Nat×RN)) (C:List (Nat×MC)) (k:Nat):MC:=(sbc k (f.body.getD .skip)).elim .no (cg P A C)
def cG (f:Func) (A:List (Nat×RN)) (r j l:Nat):List MOp:=(sbr r (f.body.getD .skip)).elim [] fun ops=>((cms P ops 0 ((fnd r A).elim [] (·.tw)) ops).drop j).take (l+1 - j)
end
@[reducible,go_sem] def rdc {α:Type} (x:α) {y:α} (h:x=y:=by conv=>lhs;reduce;(try simp only [d9d,e9z,List.append_eq,wE,wL])):α:=y
def crs (P:Program) (f:Func):List RS:=f.results.toList.map fun r=>match r with
 | .tmp t=>.t t
 | .cell a t=>.c a (tag P t)
theorem wX {α:Type} {F:Option α} {P:Program} {f:Nat} {fn:Func} {args:List V} {H:Heap} {RV:α→V} {HV:α→Heap} (hf:P.funcs[f]?=some fn) (A:List (Nat×RN):=[]) (C:List (Nat×MC):=[]) (ns:List a3l:=[]) (rids:List Nat:=[]) {mc:MC} {rs:List RS}
  (he:cT P fn A C=mc:=by conv=>lhs;reduce;(try simp only [d9d,e9z,List.append_eq,wE,wL])) (hr:crs P fn=rs:=by conv=>lhs;reduce;(try simp only [d9d]))
  (h:∀(Q:α→Prop) (Q':V→Heap→Prop),Ok F Q→(∀z,Q z→Q' (RV z) (HV z))→∀M:a0t,M.go ⟨P,H,a1r H ns rids rs Q',fun _ _=>False,a1r H ns rids rs Q'⟩ mc [] ⟨a4d 0 args,H⟩) (hb:fn.body=some (fn.body.getD .skip):=by rfl) (hc:callable P f=true:=by kernel_rfl)
  (hok:mc.ok P fn.ntmps (fn.body.getD .skip)=true:=by kernel_rfl) (hnh:mc.nh=true:=by kernel_rfl) (hrs:a5n P rs fn.results.toList=true:=by kernel_rfl) (hn:Nat.ble args.length fn.ntmps=true:=by rfl) (hg:St.good ⟨a4d 0 args,H⟩=true:=by rfl):WI F P f args H RV HV :=
 ⟨fun Q Q' h1 h2=>a3a mc ns rids rs hf (h Q Q' h1 h2) hb hc hok hnh hrs hn hg⟩
theorem c4l {P:Program} {f k:Nat} {xs:List V} {t:Option TypeId} {args:List V} {y:Str} (h:a0o P f (.sl xs::args) [] (fun r H=>r=.str y∧H=[])) :
  a0o P f (.osl 1000 k 0 xs.length::args) [(1000,.arr k xs t)] (fun r H=>r=.str y∧H=[(1000,.arr k xs t)]):=by
 refine a1j ⟨.str y,[],[]⟩ h.1 fun g w vals hH hl hv=>?_
 have ho:=hH.obj 1000 _ rfl
 have hH1:a2l P (g.sealed 1000) w []:=by
  refine ⟨fun n o hn=>by simp [find] at hn,fun i j o1 o2 hi _ _ _ _=>by simp [find] at hi,fun n o hn=>by simp [find] at hn,fun b hb=>?_,fun w' hk=>hH.tabs w' fun b hb=>hk b (.inl hb)⟩
  rcases hb with hb|⟨hn,rfl⟩
  ·exact hH.lt b hb
  ·exact ho.block hn
 refine (h.2 (g.sealed 1000) w vals hH1 (by simpa using hl) fun i x hx=>?_).mono ?_
 ·cases i with
  | zero =>
   simp only [List.getElem?_cons_zero,xQ] at hx;subst hx
   have h1:=hv 0 (.osl 1000 k 0 xs.length) rfl
   have h2:=VR.shut ho h1 (by simp [V.sealOK])
   simpa [V.shut] using h2
  | succ i=>exact (hv (i+1) x (by simpa using hx)).mono (g':=g.sealed 1000) (fun _ _=>rfl) (fun b (h:g.S b)=>Or.inl h) fun id _=>a05 g 1000 id
 ·rintro en w' ⟨v,r,H',g',rfl,⟨rfl,rfl⟩,_,hr,hf,_⟩
  refine ⟨v,g,rfl,a07.grown _ [] hH.lt hf.os hf.tape hf.output hf.size fun b hb _=>hf.old b hb fun ⟨id,o,ho,_⟩=>by simp [find] at ho,a0v.none _ _,?_⟩
  obtain ⟨q,rfl,rfl,hq⟩:=hr.str_inv
  exact .rd (.str q hq)
mutual
def V.lf (R:Heap):V→Bool
 | .bool _|.int _ _|.str _|.nils|.nilp|.nilm|.nilf|.nili|.ifc _|.sl []=>true
 | .osl id _ _ _=>a0i id R
 | .agg cs|.tup cs=>V.lfL R cs
 | _=>false
def V.lfL (R:Heap):List V→Bool
 | []=>true
 | x::r=>x.lf R&&V.lfL R r
end
theorem V.lfL_iff {R:Heap}:∀{l:List V},V.lfL R l=true→∀x∈l,x.lf R=true
 | y::r,h,x,hx=>by
  simp only [V.lfL,wG] at h
  rcases w4.1 hx with rfl|hx
  ·exact h.1
  ·exact V.lfL_iff h.2 x hx
theorem Rd.lf {S S':Nat→Prop} {w:World} {R:Heap} {v:Value} {x:V} (h:Rd S w v x):x.lf R=true→Rd S' w v x:=by
 induction h with
 | agg vs cs hl hr ih=>exact fun hx=>.agg vs cs hl fun i c hc=>ih i c hc (V.lfL_iff (by simpa only [V.lf] using hx) c (xB hc))
 | bool b=>exact fun _=>.bool b
 | int k n h=>exact fun _=>.int k n h
 | str s h=>exact fun _=>.str s h
 | nils=>exact fun _=>.nils
 | nilsl=>exact fun _=>.nilsl
 | slz a cap=>exact fun _=>.slz a cap
 | nilp=>exact fun _=>.nilp
 | nilm=>exact fun _=>.nilm
 | nilf=>exact fun _=>.nilf
 | nili=>exact fun _=>.nili
 | ifcn=>exact fun _=>.ifcn
 | ifcs t p=>exact fun _=>.ifcs t p
 | sl g o len cap k cur e fz xs h1 h2 h3 h4 h5 h6 h7 h8 _ =>
  intro hx
  cases xs with
  | nil=>cases h3;exact .slz _ _
  | cons a r=>simp [V.lf] at hx
 | _=>intro hx;simp [V.lf] at hx
theorem VR.lf {g g':Gh} {w:World} {R:Heap} {v:Value} {x:V} (h:VR g w v x) (ha:∀id,a0i id R=true→g.agree g' id):x.lf R=true→VR g' w v x:=by
 induction h with
 | rd h=>exact fun hx=>.rd (h.lf hx)
 | agg vs cs hl hr ih=>exact fun hx=>.agg vs cs hl fun i c hc=>ih i c hc (V.lfL_iff (by simpa only [V.lf] using hx) c (xB hc))
 | tup vs cs hl hr ih=>exact fun hx=>.tup vs cs hl fun i c hc=>ih i c hc (V.lfL_iff (by simpa only [V.lf] using hx) c (xB hc))
 | oslnil id k lo h=>exact fun hx=>.oslnil id k lo ((ha id (by simpa only [V.lf] using hx)).2.2.2.2 h)
 | osl id k lo len o c h ho hc hl hm =>
  intro hx
  obtain ⟨h1,h2,h3,h4⟩:=ha id (by simpa only [V.lf] using hx)
  rw [←h1]
  exact .osl id k lo len o c (fun h'=>h (h4.1 h')) (by rw [h2];exact ho) (by rw [h3];exact hc) hl hm
 | _=>intro hx;simp [V.lf] at hx
theorem c4m {P:Program} {f n k:Nat} {xs:List V} {t:Option TypeId} {args:List V} {r:V} {R:Heap} (h:a0o P f (args.map (V.shut n xs)) [] (fun r' H'=>r'=r∧H'=R))
  (hok:∀x∈args,x.sealOK n k xs.length) (hr:r.lf R=true) (hRn:find n R=none) (hR:∀id o,find id R=some o→∃k ys t,o=.arr k ys t∧∀y∈ys,∀c∈y.cells,c.lf []=true) :
  a0o P f args [(n,.arr k xs t)] (fun r' H'=>r'=r∧H'=(n,.arr k xs t)::R):=by
 refine ⟨h.1,fun g w vals hH hl hv=>?_⟩
 have hfn:find n [(n,a0c.arr k xs t)]=some (.arr k xs t):=by simp [find]
 have only:∀{m:Nat} {o':a0c},find m [(n,a0c.arr k xs t)]=some o'→m=n∧o'=.arr k xs t:=fun {m o'} hm=>by
  simp only [find] at hm
  cases hni:Nat.beq m n with
  | false=>rw [hni] at hm;cases hm
  | true=>rw [hni] at hm;cases hm;exact ⟨zR hni,rfl⟩
 have ho:=hH.obj n _ hfn
 have hH1:a2l P (g.sealed n) w []:=by
  refine ⟨fun n o hn=>by simp [find] at hn,fun i j o1 o2 hi _ _ _ _=>by simp [find] at hi,fun n o hn=>by simp [find] at hn,fun b hb=>?_,fun w' hk=>hH.tabs w' fun b hb=>hk b (.inl hb)⟩
  rcases hb with hb|⟨hn,rfl⟩
  ·exact hH.lt b hb
  ·exact ho.block hn
 refine (h.2 (g.sealed n) w vals hH1 (by simpa using hl) fun i x hx=>?_).mono ?_
 ·rw [xS] at hx
  cases hi:args[i]? with
  | none=>rw [hi] at hx;cases hx
  | some y=>rw [hi] at hx;cases hx;exact VR.shut ho (hv i y hi) (hok y (xB hi))
 ·rintro en w' ⟨v,r',H',g',rfl,⟨er,eR⟩,hh,hvr,hf,_⟩
  rw [er] at hvr;rw [eR] at hh hf;clear er eR
  have noM:∀b,¬(⟨w,g.sealed n,[],0,[],[],[],g.sealed n,w⟩:Ctx).M b:=fun b ⟨id,o,ho,_⟩=>by cases ho
  have hold:∀b,b<w.heap.size→w'.heap[b]?=w.heap[b]?:=fun b hb=>hf.old b hb (noM b)
  have hkeep:a1o g.S w w':=fun b hb=>hold b (hH.lt b hb)
  have hsup:∀b,g.S b→g'.S b:=fun b hb=>hf.sup b (.inl (.inl hb))
  obtain ⟨g2,hg2⟩:∃g2:Gh,g2=⟨g.S,fun i=>bif a0i i R then g'.ρ i else g.ρ i,fun i=>bif a0i i R then g'.base i else g.base i,fun i=>bif a0i i R then g'.cap i else g.cap i,fun i=>bif a0i i R then g'.nil i else g.nil i⟩:=⟨_,rfl⟩
  have e0:g2.S=g.S:=by rw [hg2]
  have ein:∀i,a0i i R=true→g'.agree g2 i:=fun i hi=>by rw [hg2];simp [Gh.agree,hi]
  have eout:∀i,a0i i R=false→g.agree g2 i:=fun i hi=>by rw [hg2];simp [Gh.agree,hi]
  have hnR:a0i n R=false:=by
   cases hb:a0i n R with
   | false=>rfl
   | true=>obtain ⟨o,ho⟩:=a2q.1 hb;rw [hRn] at ho;cases ho
  have hfind:∀{m:Nat} {o:a0c},find m ((n,a0c.arr k xs t)::R)=some o→(m=n∧o=.arr k xs t)∨(m≠n∧find m R=some o∧a0i m R=true):=fun {m o} hm=>by
   simp only [find] at hm
   cases hni:Nat.beq m n with
   | true=>rw [hni] at hm;cases hm;exact .inl ⟨zR hni,rfl⟩
   | false=>rw [hni] at hm;exact .inr ⟨fun e=>(by rw [e,vE] at hni;cases hni),hm,a2q.2 ⟨_,hm⟩⟩
  have new:∀{m:Nat} {o:a0c},find m R=some o→¬g'.nil m→w.heap.size≤g'.ρ m:=fun {m o} hm hn=>(hf.own m o hm hn).1.resolve_right (noM _)
  have hnb:¬g.nil n→g.ρ n<w.heap.size:=fun hn=>ho.block hn
  have an:=eout n hnR
  refine ⟨v,r,_,g2,rfl,⟨rfl,rfl⟩,⟨fun m o hm=>?_,fun i j o1 o2 hi hj hni hnj heq=>?_,fun m o hm hnn hs=>?_,fun b hb=>?_,fun w2 hk=>?_⟩,hvr.lf ein hr,
   ⟨hf.os,hf.tape,hf.output,hf.size,fun b hb _=>hold b hb,fun m o hm hnn=>⟨?_,fun _ hn=>by cases hn⟩,fun b (hb:g.S b∨g.S b)=>by rw [e0];exact hb.elim id id,fun b hb=>⟨.inl (by rw [←e0];exact hb),fun _ hn=>by cases hn⟩,fun m o hm=>?_⟩,fun id hid=>?_⟩
  ·rcases hfind hm with ⟨rfl,rfl⟩|⟨_,hm,hi⟩
   ·refine ho.mono hkeep (fun b hb=>by rw [e0];exact hb) an (fun hn=>hold _ (hnb hn)) (fun i hi=>by simp [a0c.has] at hi) hf.size
   ·obtain ⟨k2,ys,t2,rfl,hys⟩:=hR m o hm
    obtain ⟨a1,a2,a3,a4⟩:=ein m hi
    rcases hh.obj m _ hm with ⟨q1,q2⟩|⟨q1,q2⟩
    ·exact .inl ⟨a4.2 q1,q2⟩
    ·refine .inr ⟨fun h=>q1 (a4.1 h),?_⟩
     rw [a1,a2,a3]
     obtain ⟨k1,⟨cur,e,fz,h2,h3,h4,h5⟩,h6,h7,h8⟩:=q2
     exact ⟨k1,⟨cur,e,fz,h2,h3,h4,fun i j x c hx hc=>(h5 i j x c hx hc).lf (hys x (xB hx) c (xB hc))⟩,h6,h7,h8⟩
  ·rcases hfind hi with ⟨rfl,rfl⟩|⟨_,hi2,hi'⟩<;>rcases hfind hj with ⟨rfl,rfl⟩|⟨_,hj2,hj'⟩
   ·rfl
   ·have a:=ein j hj'
    have:=new hj2 fun h=>hnj (a.2.2.2.2 h)
    rw [an.1,a.1] at heq
    have:=hnb fun h=>hni (an.2.2.2.2 h)
    omega
   ·have a:=ein i hi'
    have:=new hi2 fun h=>hni (a.2.2.2.2 h)
    rw [an.1,a.1] at heq
    have:=hnb fun h=>hnj (an.2.2.2.2 h)
    omega
   ·have a:=ein i hi'
    have b:=ein j hj'
    rw [a.1,b.1] at heq
    exact hh.inj i j _ _ hi2 hj2 (fun h=>hni (a.2.2.2.2 h)) (fun h=>hnj (b.2.2.2.2 h)) heq
  ·rw [e0] at hs
   rcases hfind hm with ⟨rfl,rfl⟩|⟨_,hm,hi⟩
   ·rw [an.1] at hs
    exact hH.sep _ _ hfn (fun h=>hnn (an.2.2.2.2 h)) hs
   ·have a:=ein m hi
    rw [a.1] at hs
    exact hh.sep m _ hm (fun h=>hnn (a.2.2.2.2 h)) (hsup _ hs)
  ·rw [e0] at hb;exact xH (hH.lt b hb) hf.size
  ·rw [e0] at hk
   exact hH.tabs w2 fun b hb=>(hk b hb).trans (hkeep b hb)
  ·rcases hfind hm with ⟨rfl,rfl⟩|⟨_,hm,hi⟩
   ·exact .inr ⟨m,_,hfn,fun h=>hnn (an.2.2.2.2 h),an.1.symm⟩
   ·have a:=ein m hi
    refine .inl ?_
    rw [a.1]
    exact new hm fun h=>hnn (a.2.2.2.2 h)
  ·obtain ⟨rfl,rfl⟩:=only hm;exact an
  ·refine eout id ?_
   cases hb:a0i id R with
   | false=>rfl
   | true =>
    obtain ⟨o,ho⟩:=a2q.1 hb
    simp only [find] at hid
    cases hni:Nat.beq id n with
    | true=>rw [hni] at hid;cases hid
    | false=>rw [hni] at hid;rw [vO,ho] at hid;cases hid
theorem c7n {id a:Nat} {o o':a0c} (h:find id [(a,o)]=some o'):o'=o:=by
 simp only [find] at h
 cases hb:Nat.beq id a with
 | false=>rw [hb] at h;cases h
 | true=>rw [hb] at h;cases h;rfl
theorem d59 {α β:Type} (f:α→β) (l:List α):(l.map f).take l.length=l.map f:=zP (by rw [wP];exact vL _)
section
variable {P:Program}
def V.ib:V→Bool
 | .int _ _|.bool _=>true
 | _=>false
def c74 (env:List (Nat×V)):List Nat→List (Nat×V)
 | []=>[]
 | t::r=>match find t env with
  | some x=>bif x.ib then (t,x)::c74 env r else c74 env r
  | none=>c74 env r
theorem VR.ib {g g':Gh} {w:World} {v:Value} {x:V} (h:VR g w v x) (hi:x.ib=true):VR g' w v x:=by
 cases h<;>first|(simp [V.ib] at hi;done)|skip
 rename_i h
 cases h<;>first|(simp [V.ib] at hi;done)|skip
 ·exact .rd (.bool _)
 ·rename_i hr;exact .rd (.int _ _ hr)
theorem Rd.ib {S S':Nat→Prop} {w:World} {v:Value} {x:V} (h:Rd S w v x) (hi:x.ib=true):Rd S' w v x:=by
 cases h<;>first|(simp [V.ib] at hi;done)|skip
 ·exact .bool _
 ·rename_i hr;exact .int _ _ hr
def Cov (P:Program) (c:Ctx) (z:Nat):Prop:=(∃o,find z c.H0=some o)∧(∀b,c.g0.S b∨c.gp.S b→(c.gp.base z).testBit b=true)∧∀w',a1o c.gp.S c.wp w'→f0s P w'
theorem Cov.le {c c':Ctx} {z:Nat} (h:Cov P c z) (hl:c.le c'):Cov P c' z:=by
 unfold Cov at *
 rw [hl.H0,hl.g0,hl.gp,hl.wp];exact h
def g0p (xs:List V):Prop:=∀x∈xs,∀c∈x.cells,c.ib=true
def g71 (s z id k:Nat) (keep:List Nat) (σ:St) (K:St→Prop):Prop :=
 match get s σ.env with
 | .nsl z' k' xs=>bif Nat.beq z' z&&Nat.beq k' k&&!Nat.beq id z then g0p xs∧K ⟨(s,.osl id k 0 xs.length)::c74 σ.env keep,[(id,.arr k xs none)]⟩ else False
 | _=>False
theorem f9z {α:Type} {f:α→V} {m p:Nat} {o:Option (List α)}:b4n true m p (o.map (slV f))=.tup [.nsl m p ((o.getD []).map f),.bool o.isSome]:=by cases o<;>rfl
attribute [go_sem] a0t.go_hnote f9z V.isNilS g71 c74 V.ib
end
end Go.Ab